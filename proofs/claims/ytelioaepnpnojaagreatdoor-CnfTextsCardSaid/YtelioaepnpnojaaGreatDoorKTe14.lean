/- The program's Propagate: what it computes is unit propagation. -/
import Derived.Test.YtelioaepnpnojaaGreatDoorKTe13
import Derived.Test.YtelioaepnpnojaaGreatDoorKTe4
set_option linter.unusedVariables false
set_option linter.unusedSimpArgs false
namespace Go.Proofs.YtelioaepnpnojaaGreatDoor
open Go.RowKit
structure PSt (n : Int) (F : List (List Int)) (S val lst : List Int) (fails : Bool) : Prop where
  vok : ValOk n F S val
  mem : ∀ x, x ∈ lst ↔ x ≠ 0 ∧ gv val x = some x
  nd : (lst.map vr).Nodup
  fl : fails = true → Fails F S
  len : (lst.length : Int) + zeros val = n + 1
structure Ext (val lst : List Int) (fails : Bool) (val' lst' : List Int) (fails' : Bool) : Prop where
  app : ∃ m, lst' = lst ++ m
  val : ∀ x, gv val x ≠ some 0 → gv val' x = gv val x
  fl : fails = true → fails' = true
theorem Ext.rf (val lst : List Int) (fails : Bool) : Ext val lst fails val lst fails := ⟨⟨[], by simp⟩, fun _ _ => rfl, fun h => h⟩
theorem Ext.tr {v1 l1 v2 l2 v3 l3 : List Int} {f1 f2 f3 : Bool} (h : Ext v1 l1 f1 v2 l2 f2) (k : Ext v2 l2 f2 v3 l3 f3) : Ext v1 l1 f1 v3 l3 f3 := by
  obtain ⟨m, hm⟩ := h.app
  obtain ⟨m', hm'⟩ := k.app
  refine ⟨⟨m ++ m', by rw [hm', hm, List.append_assoc]⟩, fun x hx => ?_, fun e => k.fl (h.fl e)⟩
  rw [k.val x (by rw [h.val x hx]; exact hx), h.val x hx]
theorem PSt.lit {n : Int} {F : List (List Int)} {S val lst : List Int} {fails : Bool} (hL : Lits n F S) (h : PSt n F S val lst fails) {x : Int} (hx : x ∈ lst) : x ≠ 0 ∧ vr x ≤ n ∧ UP F S x := by
  obtain ⟨h0, h1⟩ := (h.mem x).1 hx
  have hu := h.vok.up h0 h1
  exact ⟨h0, (hu.lit hL).2, hu⟩
theorem add_ok {n : Int} {F : List (List Int)} {S : List Int} (hL : Lits n F S) {p : PSet} (h : PSt n F S p.value p.list p.fails) {l : Int} (hu : UP F S l) :
    ∃ p', m_cnf_set_add p l = some p' ∧ p'.f = p.f ∧ p'.places = p.places ∧ p'.left = p.left ∧ PSt n F S p'.value p'.list p'.fails ∧ Ext p.value p.list p.fails p'.value p'.list p'.fails ∧ gv p'.value l ≠ some 0 ∧ (gv p'.value l = some l ∨ p'.fails = true) := by
  obtain ⟨h0, hn⟩ := hu.lit hL
  have hnn := hL.nn
  have hb := vr_le.1 hn
  obtain ⟨x, hx1, hx2, hx3⟩ := h.vok.get hn
  have e1 : inK .i64 (0 - l) = some (-l) := inK_at (by omega) ⟨by omega, by omega⟩
  have hlen := h.len
  have happ : app p.list [l] = some (p.list ++ [l]) := app_ok (by simp; omega)
  by_cases hx0 : x = 0
  · subst hx0
    refine ⟨⟨p.f, p.value.set (vr l).toNat l, p.places, p.left, p.list ++ [l], p.fails⟩, ?_, rfl, rfl, rfl, ?_, ?_, ?_, Or.inl (by simp only; rw [gv_set h.vok.len hn, if_pos rfl])⟩
    · simp only [m_cnf_set_add, var_ok (show -9223372036854775807 ≤ l ∧ l ≤ 9223372036854775807 by omega), bsm, hx2, happ, decide_true, if_true]
    · refine ⟨h.vok.set h0 hn hu, fun y => ?_, ?_, h.fl, ?_⟩
      · rw [List.mem_append, List.mem_singleton, h.mem]
        simp only
        rw [gv_set h.vok.len hn]
        by_cases e : vr y = vr l
        · rw [if_pos e]
          constructor
          · rintro (⟨a, b⟩ | rfl)
            · unfold gv at b hx1
              rw [e, hx1] at b
              exact absurd (Option.some.inj b).symm a
            · exact ⟨h0, rfl⟩
          · rintro ⟨a, b⟩
            exact Or.inr (Option.some.inj b).symm
        · rw [if_neg e]
          constructor
          · rintro (h | rfl)
            · exact h
            · exact absurd rfl e
          · exact Or.inl
      · simp only [List.map_append, List.map_cons, List.map_nil]
        refine List.nodup_append.2 ⟨h.nd, by simp, fun a ha b hb e => ?_⟩
        obtain rfl := List.mem_singleton.1 hb
        obtain ⟨y, hy, hya⟩ := List.mem_map.1 ha
        obtain ⟨hy0, hy1⟩ := (h.mem y).1 hy
        unfold gv at hy1 hx1
        rw [hya, e, hx1] at hy1
        exact hy0 (Option.some.inj hy1).symm
      · have hz := zeros_set h0 (val := p.value) (i := (vr l).toNat) hx1
        simp only [List.length_append, List.length_singleton]
        omega
    · refine ⟨⟨[l], rfl⟩, fun y hy => ?_, fun e => e⟩
      simp only
      rw [gv_set h.vok.len hn]
      by_cases e : vr y = vr l
      · unfold gv at hy hx1
        rw [e, hx1] at hy
        exact absurd rfl hy
      · rw [if_neg e]
    · simp only
      rw [gv_set h.vok.len hn, if_pos rfl]
      intro e
      exact h0 (Option.some.inj e)
  · by_cases hxl : x = -l
    · subst hxl
      refine ⟨⟨p.f, p.value, p.places, p.left, p.list, true⟩, ?_, rfl, rfl, rfl, ⟨h.vok, h.mem, h.nd, fun _ => ?_, h.len⟩, ⟨⟨[], by simp⟩, fun _ _ => rfl, fun _ => rfl⟩, ?_, Or.inr rfl⟩
      · simp only [m_cnf_set_add, var_ok (show -9223372036854775807 ≤ l ∧ l ≤ 9223372036854775807 by omega), bsm, hx2, hx0, decide_false, Bool.false_eq_true, if_false, e1, decide_true, if_true]
      · exact Or.inl ⟨l, hu, h.vok.sound _ _ hx1 hx0⟩
      · rw [show gv p.value l = some (-l) from hx1]; intro e; exact hx0 (Option.some.inj e)
    · refine ⟨p, ?_, rfl, rfl, rfl, h, Ext.rf _ _ _, ?_, Or.inl (by rcases hx3 with e | e | e; exact absurd e hx0; rw [hx1, e]; exact absurd e hxl)⟩
      · simp only [m_cnf_set_add, var_ok (show -9223372036854775807 ≤ l ∧ l ≤ 9223372036854775807 by omega), bsm, hx2, hx0, hxl, decide_false, Bool.false_eq_true, if_false, e1]
      · rw [hx1]; intro e; exact hx0 (Option.some.inj e)
def cnt (proc c : List Int) : Nat := (c.filter fun y => !decide (-y ∈ proc)).length
theorem cnt_zero {proc c : List Int} (h : cnt proc c = 0) : ∀ y ∈ c, -y ∈ proc := by
  intro y hy
  unfold cnt at h
  have := List.eq_nil_of_length_eq_zero h
  have h2 := List.filter_eq_nil_iff.1 this y hy
  simpa using h2
theorem cnt_one {proc c : List Int} (h : cnt proc c = 1) : ∃ y ∈ c, -y ∉ proc ∧ ∀ z ∈ c, -z ∉ proc → z = y := by
  unfold cnt at h
  obtain ⟨y, hy⟩ := List.length_eq_one_iff.1 h
  have h1 : y ∈ c.filter fun y => !decide (-y ∈ proc) := by rw [hy]; simp
  rw [List.mem_filter] at h1
  refine ⟨y, h1.1, by simpa using h1.2, fun z hz hz' => ?_⟩
  have : z ∈ c.filter fun y => !decide (-y ∈ proc) := List.mem_filter.2 ⟨hz, by simpa using hz'⟩
  rw [hy] at this
  exact List.mem_singleton.1 this
theorem cnt_two {proc c : List Int} (hn : c.Nodup) (h : 2 ≤ cnt proc c) : ∃ y ∈ c, ∃ z ∈ c, y ≠ z ∧ -y ∉ proc ∧ -z ∉ proc := by
  unfold cnt at h
  have hnf := hn.filter (fun y => !decide (-y ∈ proc))
  generalize hl : (c.filter fun y => !decide (-y ∈ proc)) = l at h hnf
  match l, h, hnf with
  | y :: z :: r, _, hnf =>
    have hy : y ∈ c.filter fun y => !decide (-y ∈ proc) := by rw [hl]; simp
    have hz : z ∈ c.filter fun y => !decide (-y ∈ proc) := by rw [hl]; simp
    rw [List.mem_filter] at hy hz
    refine ⟨y, hy.1, z, hz.1, ?_, by simpa using hy.2, by simpa using hz.2⟩
    intro e
    subst e
    simp at hnf
theorem cnt_nil (c : List Int) : cnt [] c = c.length := by
  unfold cnt
  rw [List.filter_eq_self.2 (fun a _ => by simp)]
theorem cnt_same {proc c : List Int} {x : Int} (h : -x ∉ c) : cnt (proc ++ [x]) c = cnt proc c := by
  unfold cnt
  congr 1
  refine List.filter_congr fun y hy => ?_
  have : ¬ -y = x := fun e => h (by rw [← e, Int.neg_neg]; exact hy)
  simp [this]
theorem cnt_less {proc : List Int} {x : Int} (hx : x ∉ proc) : ∀ {c : List Int}, c.Nodup → -x ∈ c → cnt (proc ++ [x]) c + 1 = cnt proc c
  | [], _, h => by simp at h
  | y :: c, hn, h => by
    have hn' := List.nodup_cons.1 hn
    have hc : ∀ (q : List Int), cnt q (y :: c) = (if -y ∈ q then 0 else 1) + cnt q c := by
      intro q
      unfold cnt
      rw [List.filter_cons]
      by_cases hq : -y ∈ q
      · simp [hq]
      · simp [hq]; omega
    rw [hc, hc]
    by_cases e : y = -x
    · subst e
      have h1 : - -x ∈ proc ++ [x] := by simp
      have h2 : ¬ - -x ∈ proc := by rw [Int.neg_neg]; exact hx
      rw [if_pos h1, if_neg h2, cnt_same hn'.1]; omega
    · have h1 : -x ∈ c := by rcases List.mem_cons.1 h with h | h; exact absurd h.symm e; exact h
      have ih := cnt_less hx hn'.2 h1
      have h2 : (-y ∈ proc ++ [x]) ↔ (-y ∈ proc) := by
        rw [List.mem_append, List.mem_singleton]
        exact ⟨fun h => h.elim id (fun h => absurd (show y = -x by omega) e), Or.inl⟩
      by_cases hq : -y ∈ proc
      · rw [if_pos (h2.2 hq), if_pos hq]; omega
      · rw [if_neg (fun h => hq (h2.1 h)), if_neg hq]; omega
def WW (proc c val : List Int) (fails : Bool) : Prop := cnt proc c < 2 → fails = true ∨ ∃ y ∈ c, -y ∉ proc ∧ gv val y ≠ some 0
theorem WW.mono {proc c val lst val' lst' : List Int} {fails fails' : Bool} (h : WW proc c val fails) (k : Ext val lst fails val' lst' fails') : WW proc c val' fails' := fun hc => by
  rcases h hc with e | ⟨y, hy, h1, h2⟩
  · exact Or.inl (k.fl e)
  · exact Or.inr ⟨y, hy, h1, by rw [k.val y h2]; exact h2⟩
theorem WW.same {proc c val : List Int} {fails : Bool} {x : Int} (hx : -x ∉ c) (h : WW proc c val fails) : WW (proc ++ [x]) c val fails := fun hc => by
  rw [cnt_same hx] at hc
  rcases h hc with e | ⟨y, hy, h1, h2⟩
  · exact Or.inl e
  · refine Or.inr ⟨y, hy, fun h => ?_, h2⟩
    rcases List.mem_append.1 h with h | h
    · exact h1 h
    · exact hx (by rw [← List.mem_singleton.1 h, Int.neg_neg]; exact hy)
theorem look_ok {n : Int} {S : List Int} {p : PSet} (hL : Lits n p.f.clauses S) (h : PSt n p.f.clauses S p.value p.list p.fails) {i : Int} {c : List Int} (hi : idx p.f.clauses i = some c) {proc : List Int} (hp : ∀ x ∈ proc, x ∈ p.list) (hl : idx p.left i = some (cnt proc c : Int)) (hcl : c.length ≤ 4294967296) :
    ∃ p', m_cnf_set_look p i = some p' ∧ p'.f = p.f ∧ p'.places = p.places ∧ p'.left = p.left ∧ PSt n p.f.clauses S p'.value p'.list p'.fails ∧ Ext p.value p.list p.fails p'.value p'.list p'.fails ∧ WW proc c p'.value p'.fails := by
  have hcm : c ∈ p.f.clauses := mem_get (idx_some hi).2.2
  have hnn := hL.nn
  by_cases h0 : cnt proc c = 0
  · refine ⟨⟨p.f, p.value, p.places, p.left, p.list, true⟩, ?_, rfl, rfl, rfl, ⟨h.vok, h.mem, h.nd, fun _ => Or.inr ⟨c, hcm, fun y hy => ?_⟩, h.len⟩, ⟨⟨[], by simp⟩, fun _ _ => rfl, fun _ => rfl⟩, fun _ => Or.inl rfl⟩
    · simp only [m_cnf_set_look, hl, bsm, h0]; rfl
    · exact (h.lit hL (hp _ (cnt_zero h0 y hy))).2.2
  · by_cases h1 : cnt proc c = 1
    · obtain ⟨y0, hy0, hy1, hy2⟩ := cnt_one h1
      have hscan := scan_loop (body := fun s => m_cnf_set_look_lp1 p c s) c (fun y => !decide (gv p.value y = some (-y))) (fun k y => match m_cnf_set_add p y with | some x7 => Out.ret (PSet.mk p.f x7.value p.places x7.left x7.list x7.fails) | none => Out.brk ()) (Out.brk ()) ?_ ?_
      · rcases hscan with ⟨k, y, a1, a2, _, _, _, e⟩ | ⟨a1, _, _, e⟩
        · have hyc := mem_get a1
          have a2 : gv p.value y ≠ some (-y) := by simpa using a2
          have hyp : -y ∉ proc := fun hq => a2 (by rw [← gv_neg]; exact ((h.mem _).1 (hp _ hq)).2)
          have hyu : UP p.f.clauses S y := by
            refine UP.unit hcm hyc fun z hz hzy => ?_
            have : -z ∈ proc := Decidable.byContradiction fun hq => hzy ((hy2 z hz hq).trans (hy2 y hyc hyp).symm)
            exact (h.lit hL (hp _ this)).2.2
          obtain ⟨p', b1, b2, b3, b4, b5, b6, b7, _⟩ := add_ok hL h hyu
          rw [b1] at e
          refine ⟨⟨p.f, p'.value, p.places, p'.left, p'.list, p'.fails⟩, ?_, rfl, rfl, b4, b5, b6, fun _ => Or.inr ⟨y, hyc, hyp, b7⟩⟩
          simp only [m_cnf_set_look, hl, bsm, h1, hi, e]; rfl
        · refine ⟨p, ?_, rfl, rfl, rfl, h, Ext.rf _ _ _, fun _ => Or.inr ⟨y0, hy0, hy1, ?_⟩⟩
          · simp only [m_cnf_set_look, hl, bsm, h1, hi, e]; rfl
          · have := a1 y0 hy0
            have : gv p.value y0 = some (-y0) := by simpa using this
            rw [this]
            intro e
            exact (hL.cl c hcm y0 hy0).1 (by have := Option.some.inj e; omega)
      · intro k y hk
        have hkl := len_lt hk
        obtain ⟨g0, g1⟩ := hL.cl c hcm y (mem_get hk)
        have gb := vr_le.1 g1
        obtain ⟨x, hx1, hx2, hx3⟩ := h.vok.get g1
        have e1 : inK .i64 (0 - y) = some (-y) := inK_at (by omega) ⟨by omega, by omega⟩
        simp only [m_cnf_set_look_lp1, ltB hkl, if_true, idx_nat hk, bsm, var_ok (show -9223372036854775807 ≤ y ∧ y ≤ 9223372036854775807 by omega), hx2, e1, inK_up hkl (show c.length ≤ 9223372036854775807 by omega), hx1]
        by_cases hxy : x = -y
        · simp [hxy]
        · have hne : ¬ some x = some (-y) := fun e => hxy (Option.some.inj e)
          simp only [hxy, hne, decide_false, Bool.not_false, if_true]
          have hsome : ∃ q, m_cnf_set_add p y = some q := by
            have happ : app p.list [y] = some (p.list ++ [y]) := app_ok (by have := h.len; simp; omega)
            simp only [m_cnf_set_add, var_ok (show -9223372036854775807 ≤ y ∧ y ≤ 9223372036854775807 by omega), bsm, hx2, happ, e1]
            split
            · exact ⟨_, rfl⟩
            · split <;> exact ⟨_, rfl⟩
          obtain ⟨q, hq⟩ := hsome
          simp only [hq, bsm]
      · simp only [m_cnf_set_look_lp1, ltB', if_false, Bool.false_eq_true]
    · refine ⟨p, ?_, rfl, rfl, rfl, h, Ext.rf _ _ _, fun hc => by omega⟩
      have c0 : ¬ (cnt proc c : Int) = 0 := by omega
      have c1 : ¬ (cnt proc c : Int) = 1 := by omega
      simp only [m_cnf_set_look, hl, bsm, c0, c1, decide_false, Bool.false_eq_true, if_false]
def idxL (l : Int) : Int := if l < 0 then -2 * l + 1 else 2 * l
theorem index_ok {l : Int} (h : -1099511627776 ≤ l ∧ l ≤ 1099511627776) : m_cnf_index l = some (idxL l) := by
  unfold m_cnf_index idxL
  by_cases h0 : l < 0
  · rw [if_pos (by simpa using h0), if_pos h0, inK_eq ⟨by omega, by omega⟩, bsm, inK_eq ⟨by omega, by omega⟩, bsm]
  · rw [if_neg (by simpa using h0), if_neg h0, inK_eq ⟨by omega, by omega⟩, bsm]
theorem idxL_inj {l m : Int} (h : idxL l = idxL m) (h0 : l ≠ 0) : l = m := by
  unfold idxL at h
  split at h <;> split at h <;> omega
theorem idxL_bnd {l n : Int} (h : -n ≤ l ∧ l ≤ n) : 0 ≤ idxL l ∧ idxL l < 2 * n + 2 := by
  unfold idxL; split <;> omega
structure Tab (n : Int) (F : List (List Int)) (k : Nat) (c : List Int) (tab : List (List Int)) : Prop where
  len : (tab.length : Int) = 2 * n + 2
  at_ : ∀ l, l ≠ 0 → vr l ≤ n → ∃ ps, tab[(idxL l).toNat]? = some ps ∧ ps.Nodup ∧ ps.length ≤ k + 1 ∧ (∀ i, i ∈ ps ↔ ((∃ (j : Nat) (d : List Int), i = (j : Int) ∧ j < k ∧ F[j]? = some d ∧ l ∈ d) ∨ (i = (k : Int) ∧ l ∈ c)))
theorem tab_lp2 {n : Int} {F : List (List Int)} {S : List Int} (hL : Lits n F S) {k : Nat} {c : List Int} (hk : F[k]? = some c) (hc : c.length ≤ 4294967296) (hkb : k ≤ 262144) {tab : List (List Int)} (h : Tab n F k [] tab) :
    ∃ b, loopM (fun s : Int × List (List Int) => m_cnf_Propagate_lp2 (k : Int) c s.1 s.2) (0, tab) = some b ∧ Tab n F k c b := by
  have hnn := hL.nn
  refine loopN (body := fun s : Int × List (List Int) => m_cnf_Propagate_lp2 (k : Int) c s.1 s.2) c.length (fun j t => ((j : Int), t)) (fun j t => Tab n F k (c.take j) t) (fun b => Tab n F k c b) (t0 := tab) rfl (by simpa using h) ?_ ?_
  · intro j t hj hT
    obtain ⟨y, hy⟩ := get_of_lt hj
    obtain ⟨y0, yn⟩ := hL.cl c (mem_get hk) y (mem_get hy)
    have yb := vr_le.1 yn
    have hib := idxL_bnd yb
    obtain ⟨ps, hps, hnd, hpl, hpm⟩ := hT.at_ y y0 yn
    have hyt : y ∉ c.take j := by
      intro hm
      have := hL.nd c (mem_get hk)
      rw [← List.take_append_drop j c, drop_cons_of hy] at this
      exact (List.nodup_append.1 this).2.2 y hm y (List.mem_cons_self ..) rfl
    refine Or.inl ⟨t.set (idxL y).toNat (ps ++ [(k : Int)]), ?_, ?_⟩
    · simp only [m_cnf_Propagate_lp2, ltB hj, if_true, idx_nat hy, bsm, index_ok (show -1099511627776 ≤ y ∧ y ≤ 1099511627776 by omega), idx_of hib.1 hps, app_ok (show ps.length + [(k : Int)].length ≤ 4294967296 by simp; omega), inK_up hj (show c.length ≤ 9223372036854775807 by omega), guardEq, if_true]
    · refine ⟨by rw [List.length_set]; exact hT.len, fun l l0 ln => ?_⟩
      have hlb := idxL_bnd (vr_le.1 ln)
      have hlen := hT.len
      by_cases e : l = y
      · subst e
        refine ⟨ps ++ [(k : Int)], ?_, ?_, ?_, fun i => ?_⟩
        · rw [List.getElem?_set, if_pos rfl, if_pos (by omega)]
        · refine List.nodup_append.2 ⟨hnd, by simp, fun a ha b hb e => ?_⟩
          obtain rfl := List.mem_singleton.1 hb
          subst e
          rcases (hpm _).1 ha with ⟨j', d, e1, e2, _⟩ | ⟨_, h2⟩
          · omega
          · exact hyt h2
        ·
          have hlt : ∀ a ∈ ps, 0 ≤ a ∧ a < (k : Int) := fun a ha => by
            rcases (hpm a).1 ha with ⟨j', d, e1, e2, _⟩ | ⟨_, h2⟩
            · omega
            · exact absurd h2 hyt
          have hle : ps.length ≤ k := by
            have hsub : ∀ (m : Nat) (q : List Int), q.Nodup → (∀ a ∈ q, 0 ≤ a ∧ a < (m : Int)) → q.length ≤ m := by
              intro m
              induction m with
              | zero => intro q _ hq; cases q with | nil => simp | cons a q => have := hq a (List.mem_cons_self ..); omega
              | succ m ih =>
                intro q hq hb
                have h1 := ih (q.filter fun a => decide (a ≠ (m : Int))) (hq.filter _) (fun a ha => by
                  rw [List.mem_filter] at ha
                  have := hb a ha.1
                  have : a ≠ (m : Int) := by simpa using ha.2
                  omega)
                have h2 : ∀ (q : List Int), q.Nodup → q.length ≤ (q.filter fun a => decide (a ≠ (m : Int))).length + 1 := by
                  intro q
                  induction q with
                  | nil => intro _; simp
                  | cons a q ih =>
                    intro hn
                    have hn' := List.nodup_cons.1 hn
                    rw [List.filter_cons]
                    by_cases e : a = (m : Int)
                    · have : q.filter (fun a => decide (a ≠ (m : Int))) = q := List.filter_eq_self.2 fun b hb => by
                        have : b ≠ (m : Int) := fun e' => hn'.1 (by rw [e, ← e']; exact hb)
                        simpa using this
                      rw [if_neg (by simp [e]), this]; simp
                    · rw [if_pos (by simpa using e)]
                      have := ih hn'.2
                      simp only [List.length_cons]; omega
                have := h2 q hq
                omega
            exact hsub k ps hnd hlt
          simp; omega
        · rw [List.mem_append, List.mem_singleton, hpm, take_snoc_of hy]
          constructor
          · rintro ((h | ⟨h1, h2⟩) | h)
            · exact Or.inl h
            · exact Or.inr ⟨h1, List.mem_append_left _ h2⟩
            · exact Or.inr ⟨h, by simp⟩
          · rintro (h | ⟨h1, h2⟩)
            · exact Or.inl (Or.inl h)
            · exact Or.inr h1
      · obtain ⟨qs, hq1, hq2, hq3, hq4⟩ := hT.at_ l l0 ln
        refine ⟨qs, ?_, hq2, hq3, fun i => ?_⟩
        · rw [List.getElem?_set, if_neg ?_]
          · exact hq1
          · intro e2
            exact e (idxL_inj (by omega) l0)
        · rw [hq4, take_snoc_of hy, List.mem_append, List.mem_singleton]
          constructor
          · rintro (h | ⟨h1, h2⟩)
            · exact Or.inl h
            · exact Or.inr ⟨h1, Or.inl h2⟩
          · rintro (h | ⟨h1, h2 | h2⟩)
            · exact Or.inl h
            · exact Or.inr ⟨h1, h2⟩
            · exact absurd h2 e
  · intro t hT
    refine ⟨t, ?_, ?_⟩
    · simp only [m_cnf_Propagate_lp2, ltB', if_false, Bool.false_eq_true]
    · rw [List.take_length] at hT; exact hT
theorem Tab.next {n : Int} {F : List (List Int)} {k : Nat} {c : List Int} {tab : List (List Int)} (h : Tab n F k c tab) (hk : F[k]? = some c) : Tab n F (k + 1) [] tab := by
  refine ⟨h.len, fun l l0 ln => ?_⟩
  obtain ⟨ps, h1, h2, h3, h4⟩ := h.at_ l l0 ln
  refine ⟨ps, h1, h2, by omega, fun i => ?_⟩
  rw [h4]
  constructor
  · rintro (⟨j, d, a, b, e⟩ | ⟨a, b⟩)
    · exact Or.inl ⟨j, d, a, by omega, e⟩
    · exact Or.inl ⟨k, c, a, by omega, hk, b⟩
  · rintro (⟨j, d, a, b, e1, e2⟩ | ⟨_, b⟩)
    · by_cases e : j = k
      · subst e; rw [hk] at e1; obtain rfl := Option.some.inj e1; exact Or.inr ⟨a, e2⟩
      · exact Or.inl ⟨j, d, a, by omega, e1, e2⟩
    · simp at b
theorem tab_lp1 {f : Formula} {S : List Int} (hL : Lits f.vars f.clauses S) (hlen : f.clauses.length ≤ 262144) (hl : ∀ c ∈ f.clauses, c.length ≤ 4294967296) :
    ∃ b, loopM (fun s : Int × List Int × List (List Int) => m_cnf_Propagate_lp1 f s.1 s.2.1 s.2.2) (0, [], List.replicate (2 * f.vars + 2).toNat []) = some b ∧ b.1 = f.clauses.map (fun c => (c.length : Int)) ∧ Tab f.vars f.clauses f.clauses.length [] b.2 := by
  have hnn := hL.nn
  refine loopN (body := fun s : Int × List Int × List (List Int) => m_cnf_Propagate_lp1 f s.1 s.2.1 s.2.2) f.clauses.length (fun k t => ((k : Int), t.1, t.2)) (fun k t => t.1 = (f.clauses.take k).map (fun c => (c.length : Int)) ∧ Tab f.vars f.clauses k [] t.2) _ (t0 := ([], List.replicate (2 * f.vars + 2).toNat [])) rfl ⟨rfl, ?_⟩ ?_ ?_
  · refine ⟨by rw [List.length_replicate]; omega, fun l l0 ln => ⟨[], ?_, List.nodup_nil, by simp, fun i => ?_⟩⟩
    · have := idxL_bnd (vr_le.1 ln)
      rw [List.getElem?_replicate, if_pos (by omega)]
    · simp
  · rintro k ⟨left, tab⟩ hk ⟨h1, h2⟩
    simp only at h1 h2
    obtain ⟨c, hc⟩ := get_of_lt hk
    obtain ⟨b, hb, hT⟩ := tab_lp2 hL hc (hl c (mem_get hc)) (by omega) h2
    refine Or.inl ⟨(left ++ [(c.length : Int)], b), ?_, ?_, hT.next hc⟩
    · have hll : left.length ≤ 262144 := by rw [h1, List.length_map, List.length_take]; omega
      simp only [m_cnf_Propagate_lp1, ltB hk, if_true, idx_nat hc, bsm, app_ok (show left.length + [(c.length : Int)].length ≤ 4294967296 by simp; omega), hb, inK_up hk (show f.clauses.length ≤ 9223372036854775807 by omega)]
    · simp only
      rw [h1, take_snoc_of hc, List.map_append]; rfl
  · rintro ⟨left, tab⟩ ⟨h1, h2⟩
    refine ⟨(left, tab), ?_, ?_, h2⟩
    · simp only [m_cnf_Propagate_lp1, ltB', if_false, Bool.false_eq_true]
    · rw [List.take_length] at h1; exact h1
abbrev LT := List Int × List Int × Bool × List Int
def LP (n : Int) (F : List (List Int)) (S : List Int) (t : LT) : Prop := PSt n F S t.2.2.2 t.1 t.2.2.1
def LE (t u : LT) : Prop := Ext t.2.2.2 t.1 t.2.2.1 u.2.2.2 u.1 u.2.2.1
theorem LE.rf (t : LT) : LE t t := Ext.rf _ _ _
theorem start_mono {val lst val' lst' : List Int} {fa fa' : Bool} {y : Int} (h0 : y ≠ 0) (h : gv val y = some y ∨ fa = true) (k : Ext val lst fa val' lst' fa') : gv val' y = some y ∨ fa' = true := by
  rcases h with h | h
  · left
    rw [k.val y (by rw [h]; intro e; exact h0 (Option.some.inj e))]; exact h
  · exact Or.inr (k.fl h)
theorem prop_lp3 {f : Formula} {S : List Int} (hL : Lits f.vars f.clauses S) (hS : S.length ≤ 4294967296) (b5 : List Int × List (List Int)) {t0 : LT} (h0 : LP f.vars f.clauses S t0) :
    ∃ t, loopM (fun s : Int × LT => m_cnf_Propagate_lp3 f S b5 s.1 s.2.1 s.2.2.1 s.2.2.2.1 s.2.2.2.2) (0, t0) = some t ∧ LP f.vars f.clauses S t ∧ t.2.1 = t0.2.1 ∧ ∀ x ∈ S, gv t.2.2.2 x = some x ∨ t.2.2.1 = true := by
  refine loopN (body := fun s : Int × LT => m_cnf_Propagate_lp3 f S b5 s.1 s.2.1 s.2.2.1 s.2.2.2.1 s.2.2.2.2) S.length (fun k t => ((k : Int), t)) (fun k t => LP f.vars f.clauses S t ∧ t.2.1 = t0.2.1 ∧ ∀ j x, j < k → S[j]? = some x → gv t.2.2.2 x = some x ∨ t.2.2.1 = true) _ (t0 := t0) rfl ⟨h0, rfl, fun j x hj => by omega⟩ ?_ ?_
  · rintro k ⟨li, le, fa, va⟩ hk ⟨h1, h2, h3⟩
    obtain ⟨x, hx⟩ := get_of_lt hk
    obtain ⟨p', a1, a2, a3, a4, a5, a6, _, a7⟩ := add_ok hL (p := ⟨f, va, b5.2, le, li, fa⟩) h1 (UP.start (mem_get hx))
    refine Or.inl ⟨(p'.list, p'.left, p'.fails, p'.value), ?_, a5, ?_, fun j y hj hy => ?_⟩
    · simp only [m_cnf_Propagate_lp3, ltB hk, if_true, idx_nat hx, bsm, a1, inK_up hk (show S.length ≤ 9223372036854775807 by omega)]
    · show p'.left = _; rw [a4]; exact h2
    · by_cases e : j = k
      · subst e; rw [hx] at hy; obtain rfl := Option.some.inj hy; exact a7
      · exact start_mono (hL.st y (mem_get hy)).1 (h3 j y (by omega) hy) a6
  · rintro ⟨li, le, fa, va⟩ ⟨h1, h2, h3⟩
    refine ⟨(li, le, fa, va), ?_, h1, h2, fun x hx => ?_⟩
    · simp only [m_cnf_Propagate_lp3, ltB', if_false, Bool.false_eq_true]
    · obtain ⟨j, hj⟩ := List.getElem?_of_mem hx
      exact h3 j x (len_lt hj) hj
def LeftOk (F : List (List Int)) (proc : Int → List Int) (left : List Int) : Prop := left.length = F.length ∧ ∀ (i : Nat) c, F[i]? = some c → left[i]? = some (cnt (proc i) c : Int)
theorem prop_lp4 {f : Formula} {S : List Int} (hL : Lits f.vars f.clauses S) (hlen : f.clauses.length ≤ 262144) (hl : ∀ c ∈ f.clauses, c.length ≤ 4294967296) (b5 : List Int × List (List Int)) {t0 : LT} (h0 : LP f.vars f.clauses S t0) (hleft : LeftOk f.clauses (fun _ => []) t0.2.1) :
    ∃ t, loopM (fun s : Int × LT => m_cnf_Propagate_lp4 f b5 s.1 s.2.1 s.2.2.1 s.2.2.2.1 s.2.2.2.2) (0, t0) = some t ∧ LP f.vars f.clauses S t ∧ LE t0 t ∧ t.2.1 = t0.2.1 ∧ ∀ c ∈ f.clauses, WW [] c t.2.2.2 t.2.2.1 := by
  refine loopN (body := fun s : Int × LT => m_cnf_Propagate_lp4 f b5 s.1 s.2.1 s.2.2.1 s.2.2.2.1 s.2.2.2.2) f.clauses.length (fun k t => ((k : Int), t)) (fun k t => LP f.vars f.clauses S t ∧ LE t0 t ∧ t.2.1 = t0.2.1 ∧ ∀ j c, j < k → f.clauses[j]? = some c → WW [] c t.2.2.2 t.2.2.1) _ (t0 := t0) rfl ⟨h0, LE.rf _, rfl, fun j x hj => by omega⟩ ?_ ?_
  · rintro k ⟨li, le, fa, va⟩ hk ⟨h1, h2, h3, h4⟩
    simp only at h3
    obtain ⟨c, hc⟩ := get_of_lt hk
    have hle : le[k]? = some (cnt [] c : Int) := by rw [h3]; exact hleft.2 k c hc
    by_cases h2c : (cnt [] c : Int) < 2
    · obtain ⟨p', a1, a2, a3, a4, a5, a6, a7⟩ := look_ok (p := ⟨f, va, b5.2, le, li, fa⟩) hL h1 (idx_nat hc) (proc := []) (by simp) (idx_nat hle) (hl c (mem_get hc))
      refine Or.inl ⟨(p'.list, p'.left, p'.fails, p'.value), ?_, a5, Ext.tr h2 a6, ?_, fun j d hj hd => ?_⟩
      · simp only [m_cnf_Propagate_lp4, ltB hk, if_true, idx_nat hle, bsm, h2c, decide_true, a1, inK_up hk (show f.clauses.length ≤ 9223372036854775807 by omega)]
      · show p'.left = _; rw [a4]; exact h3
      · by_cases e : j = k
        · subst e; rw [hc] at hd; obtain rfl := Option.some.inj hd; exact a7
        · exact (h4 j d (by omega) hd).mono a6
    · refine Or.inl ⟨(li, le, fa, va), ?_, h1, h2, h3, fun j d hj hd => ?_⟩
      · simp only [m_cnf_Propagate_lp4, ltB hk, if_true, idx_nat hle, bsm, h2c, decide_false, Bool.false_eq_true, if_false, inK_up hk (show f.clauses.length ≤ 9223372036854775807 by omega)]
      · by_cases e : j = k
        · subst e; rw [hc] at hd; obtain rfl := Option.some.inj hd; intro hh; omega
        · exact h4 j d (by omega) hd
  · rintro ⟨li, le, fa, va⟩ ⟨h1, h2, h3, h4⟩
    refine ⟨(li, le, fa, va), ?_, h1, h2, h3, fun c hc => ?_⟩
    · simp only [m_cnf_Propagate_lp4, ltB', if_false, Bool.false_eq_true]
    · obtain ⟨j, hj⟩ := List.getElem?_of_mem hc
      exact h4 j c (len_lt hj) hj
def procI (proc : List Int) (x : Int) (q : List Int) (i : Int) : List Int := if i ∈ q then proc else proc ++ [x]
theorem pI_y {proc q : List Int} {x i : Int} (h : i ∈ q) : procI proc x q i = proc := if_pos h
theorem pI_n {proc q : List Int} {x i : Int} (h : i ∉ q) : procI proc x q i = proc ++ [x] := if_neg h
theorem prop_lp6 {f : Formula} {S : List Int} (hL : Lits f.vars f.clauses S) (hlen : f.clauses.length ≤ 262144) (hl : ∀ c ∈ f.clauses, c.length ≤ 4294967296) (b5 : List Int × List (List Int)) {t0 : LT} (h0 : LP f.vars f.clauses S t0)
    {proc : List Int} {x : Int} (hx : x ∉ proc) (hpx : ∀ y ∈ proc ++ [x], y ∈ t0.1) {ps : List Int} (hnd : ps.Nodup) (hpl : ps.length ≤ 4294967296) (hps : ∀ i, i ∈ ps ↔ ∃ (j : Nat) (d : List Int), i = (j : Int) ∧ f.clauses[j]? = some d ∧ -x ∈ d)
    (hleft : LeftOk f.clauses (fun _ => proc) t0.2.1) (hW : ∀ c ∈ f.clauses, WW proc c t0.2.2.2 t0.2.2.1) :
    ∃ t, loopM (fun s : Int × LT => m_cnf_Propagate_lp6 f b5 ps s.1 s.2.1 s.2.2.1 s.2.2.2.1 s.2.2.2.2) (0, t0) = some t ∧ LP f.vars f.clauses S t ∧ LE t0 t ∧ LeftOk f.clauses (fun _ => proc ++ [x]) t.2.1 ∧ ∀ c ∈ f.clauses, WW (proc ++ [x]) c t.2.2.2 t.2.2.1 := by
  have hno : ∀ (i : Nat) c, f.clauses[i]? = some c → (i : Int) ∉ ps → -x ∉ c := fun i c hc hi hm => hi ((hps _).2 ⟨i, c, rfl, hc, hm⟩)
  refine loopN (body := fun s : Int × LT => m_cnf_Propagate_lp6 f b5 ps s.1 s.2.1 s.2.2.1 s.2.2.2.1 s.2.2.2.2) ps.length (fun k t => ((k : Int), t))
    (fun k t => LP f.vars f.clauses S t ∧ LE t0 t ∧ LeftOk f.clauses (procI proc x (ps.drop k)) t.2.1 ∧ ∀ (j : Nat) c, f.clauses[j]? = some c → WW (procI proc x (ps.drop k) j) c t.2.2.2 t.2.2.1) _ (t0 := t0) rfl ⟨h0, LE.rf _, ⟨hleft.1, fun i c hc => ?_⟩, fun j c hc => ?_⟩ ?_ ?_
  · rw [List.drop_zero]
    by_cases hi : (i : Int) ∈ ps
    · rw [pI_y hi]; exact hleft.2 i c hc
    · rw [pI_n hi, cnt_same (hno i c hc hi)]; exact hleft.2 i c hc
  · rw [List.drop_zero]
    by_cases hi : (j : Int) ∈ ps
    · rw [pI_y hi]; exact hW c (mem_get hc)
    · rw [pI_n hi]; exact (hW c (mem_get hc)).same (hno j c hc hi)
  · rintro k ⟨li, le, fa, va⟩ hk ⟨h1, h2, h3, h4⟩
    simp only at h3 h4
    obtain ⟨i, hi⟩ := get_of_lt hk
    obtain ⟨i, d, rfl, hd, hxd⟩ := (hps i).1 (mem_get hi)
    have hdm := mem_get hd
    have hdrop := drop_cons_of hi
    have hmem : (i : Int) ∈ ps.drop k := by rw [hdrop]; exact List.mem_cons_self ..
    have hnmem : (i : Int) ∉ ps.drop (k + 1) := by
      have := hnd
      rw [← List.take_append_drop k ps, hdrop] at this
      exact (List.nodup_cons.1 (List.nodup_append.1 this).2.1).1
    have hother : ∀ j : Int, j ≠ (i : Int) → (j ∈ ps.drop k ↔ j ∈ ps.drop (k + 1)) := fun j hj => by rw [hdrop]; simp [hj]
    have hle : le[i]? = some (cnt proc d : Int) := by have := h3.2 i d hd; rwa [pI_y hmem] at this
    have hcl := cnt_less hx (hL.nd d hdm) hxd
    have hil := len_lt hle
    have e31 : inK .i64 ((cnt proc d : Int) - 1) = some (cnt (proc ++ [x]) d : Int) := inK_at (by omega) ⟨by omega, by
      have : cnt (proc ++ [x]) d ≤ d.length := by unfold cnt; exact List.length_filter_le ..
      have := hl d hdm
      omega⟩
    have hset : (le.set ((i : Int)).toNat (cnt (proc ++ [x]) d : Int))[i]? = some (cnt (proc ++ [x]) d : Int) := by
      rw [List.getElem?_set, if_pos (by omega), if_pos (by omega)]
    have hleft' : LeftOk f.clauses (procI proc x (ps.drop (k + 1))) (le.set ((i : Int)).toNat (cnt (proc ++ [x]) d : Int)) := by
      refine ⟨by rw [List.length_set]; exact h3.1, fun j c hc => ?_⟩
      by_cases e : j = i
      · subst e
        rw [hd] at hc
        obtain rfl := Option.some.inj hc
        rw [pI_n hnmem]; exact hset
      · rw [List.getElem?_set, if_neg (by omega), h3.2 j c hc]
        have := hother j (by omega)
        by_cases hj : (j : Int) ∈ ps.drop k
        · rw [pI_y hj, pI_y (this.1 hj)]
        · rw [pI_n hj, pI_n (fun h => hj (this.2 h))]
    by_cases h2c : (cnt (proc ++ [x]) d : Int) < 2
    · obtain ⟨p', a1, a2, a3, a4, a5, a6, a7⟩ := look_ok (p := ⟨f, va, b5.2, le.set ((i : Int)).toNat (cnt (proc ++ [x]) d : Int), li, fa⟩) hL h1 (idx_nat hd) (proc := proc ++ [x]) (fun y hy => by
        obtain ⟨m, hm⟩ := h2.app
        show y ∈ li
        have : li = t0.1 ++ m := hm
        rw [this]
        exact List.mem_append_left _ (hpx y hy)) (idx_nat hset) (hl d hdm)
      refine Or.inl ⟨(p'.list, p'.left, p'.fails, p'.value), ?_, a5, Ext.tr h2 a6, ?_, fun j c hc => ?_⟩
      · simp only [m_cnf_Propagate_lp6, ltB hk, if_true, idx_nat hi, idx_nat hle, bsm, e31, idx_nat hset, h2c, decide_true, a1, inK_up hk (show ps.length ≤ 9223372036854775807 by omega)]
      · show LeftOk _ _ p'.left; rw [a4]; exact hleft'
      · by_cases e : j = i
        · subst e
          rw [hd] at hc
          obtain rfl := Option.some.inj hc
          rw [pI_n hnmem]; exact a7
        · have h5 := (h4 j c hc).mono a6
          have := hother j (by omega)
          by_cases hj : (j : Int) ∈ ps.drop k
          · rw [pI_y hj] at h5; rw [pI_y (this.1 hj)]; exact h5
          · rw [pI_n hj] at h5; rw [pI_n (fun h => hj (this.2 h))]; exact h5
    · refine Or.inl ⟨(li, le.set ((i : Int)).toNat (cnt (proc ++ [x]) d : Int), fa, va), ?_, h1, h2, hleft', fun j c hc => ?_⟩
      · simp only [m_cnf_Propagate_lp6, ltB hk, if_true, idx_nat hi, idx_nat hle, bsm, e31, idx_nat hset, h2c, decide_false, Bool.false_eq_true, if_false, inK_up hk (show ps.length ≤ 9223372036854775807 by omega)]
      · by_cases e : j = i
        · subst e
          rw [hd] at hc
          obtain rfl := Option.some.inj hc
          rw [pI_n hnmem]; intro hh; omega
        · have h5 := h4 j c hc
          have := hother j (by omega)
          by_cases hj : (j : Int) ∈ ps.drop k
          · rw [pI_y hj] at h5; rw [pI_y (this.1 hj)]; exact h5
          · rw [pI_n hj] at h5; rw [pI_n (fun h => hj (this.2 h))]; exact h5
  · rintro ⟨li, le, fa, va⟩ ⟨h1, h2, h3, h4⟩
    simp only at h3 h4
    refine ⟨(li, le, fa, va), ?_, h1, h2, ?_, fun c hc => ?_⟩
    · simp only [m_cnf_Propagate_lp6, ltB', if_false, Bool.false_eq_true]
    · refine ⟨h3.1, fun i c hc => ?_⟩
      have := h3.2 i c hc
      rwa [List.drop_length, pI_n (by simp)] at this
    · obtain ⟨j, hj⟩ := List.getElem?_of_mem hc
      have := h4 j c hj
      rwa [List.drop_length, pI_n (by simp)] at this
theorem prop_lp5 {f : Formula} {S : List Int} (hL : Lits f.vars f.clauses S) (hlen : f.clauses.length ≤ 262144) (hl : ∀ c ∈ f.clauses, c.length ≤ 4294967296) (b5 : List Int × List (List Int)) (hT : Tab f.vars f.clauses f.clauses.length [] b5.2) {t0 : LT} (h0 : LP f.vars f.clauses S t0)
    (hs : ∀ x ∈ S, gv t0.2.2.2 x = some x ∨ t0.2.2.1 = true) (hleft : LeftOk f.clauses (fun _ => []) t0.2.1) (hW : ∀ c ∈ f.clauses, WW [] c t0.2.2.2 t0.2.2.1) :
    ∃ t, loopM (fun s : Int × LT => m_cnf_Propagate_lp5 f b5 s.1 s.2.1 s.2.2.1 s.2.2.2.1 s.2.2.2.2) (0, t0) = some t ∧ LP f.vars f.clauses S t ∧ (∀ x ∈ S, gv t.2.2.2 x = some x ∨ t.2.2.1 = true) ∧ (t.2.2.1 = true ∨ ∀ c ∈ f.clauses, WW t.1 c t.2.2.2 t.2.2.1) := by
  have hnn := hL.nn
  refine loopM_inv (body := fun s : Int × LT => m_cnf_Propagate_lp5 f b5 s.1 s.2.1 s.2.2.1 s.2.2.2.1 s.2.2.2.2)
    (fun s => ∃ k : Nat, s.1 = (k : Int) ∧ k ≤ s.2.1.length ∧ LP f.vars f.clauses S s.2 ∧ (∀ x ∈ S, gv s.2.2.2.2 x = some x ∨ s.2.2.2.1 = true) ∧ LeftOk f.clauses (fun _ => s.2.1.take k) s.2.2.1 ∧ ∀ c ∈ f.clauses, WW (s.2.1.take k) c s.2.2.2.2 s.2.2.2.1)
    (fun s => (f.vars + 2 - s.1).toNat) _ ?_ (0, t0) ⟨0, rfl, Nat.zero_le _, h0, hs, by simpa using hleft, by simpa using hW⟩
  rintro ⟨i, li, le, fa, va⟩ ⟨k, hi, hk, h1, h2, h3, h4⟩
  simp only at hi hk h2 h3 h4
  subst hi
  cases fa with
  | true =>
    refine Or.inr ⟨(li, le, true, va), ?_, h1, h2, Or.inl rfl⟩
    simp only [m_cnf_Propagate_lp5, Bool.not_true, Bool.and_false, if_false, Bool.false_eq_true]
  | false =>
    by_cases hkl : k < li.length
    · obtain ⟨x, hx⟩ := get_of_lt hkl
      obtain ⟨x0, xn, xu⟩ := h1.lit hL (mem_get hx)
      have xb := vr_le.1 xn
      have e26 : inK .i64 (0 - x) = some (-x) := inK_at (by omega) ⟨by omega, by omega⟩
      obtain ⟨ps, p1, p2, p3, p4⟩ := hT.at_ (-x) (by omega) (by rw [vr_neg]; exact xn)
      have hib := idxL_bnd (l := -x) (n := f.vars) (by omega)
      have hlen' := h1.len
      simp only at hlen'
      have hxp : x ∉ li.take k := by
        intro hm
        have hnd := h1.nd
        simp only at hnd
        rw [← List.take_append_drop k li, drop_cons_of hx, List.map_append] at hnd
        exact (List.nodup_append.1 hnd).2.2 _ (List.mem_map_of_mem hm) _ (List.mem_map_of_mem (List.mem_cons_self ..)) rfl
      have htake := take_snoc_of hx
      obtain ⟨t, q1, q2, q3, q4, q5⟩ := prop_lp6 hL hlen hl b5 h1 hxp (fun y hy => by
        show y ∈ li
        rw [← htake] at hy
        exact List.mem_of_mem_take hy) p2 (by omega) (fun i => by
        rw [p4]
        constructor
        · rintro (⟨j, d, a, b, c, e⟩ | ⟨_, h⟩)
          · exact ⟨j, d, a, c, e⟩
          · simp at h
        · rintro ⟨j, d, a, c, e⟩
          exact Or.inl ⟨j, d, a, len_lt c, c, e⟩) h3 h4
      have hk1 : inK .i64 ((k : Int) + 1) = some ((k + 1 : Nat) : Int) := inK_at rfl ⟨by omega, by omega⟩
      obtain ⟨m, hm⟩ := q3.app
      have hm : t.1 = li ++ m := hm
      have htk : t.1.take (k + 1) = li.take k ++ [x] := by
        rw [← htake, hm, List.take_append_of_le_length (by omega)]
      refine Or.inl ⟨(((k + 1 : Nat) : Int), t), ?_, ⟨k + 1, rfl, ?_, q2, fun y hy => ?_, ?_, ?_⟩, ?_⟩
      · simp only [m_cnf_Propagate_lp5, ltB hkl, Bool.not_false, Bool.and_true, if_true, idx_nat hx, bsm, e26, index_ok (show -1099511627776 ≤ -x ∧ -x ≤ 1099511627776 by omega), idx_of hib.1 p1]
        rw [q1, bsm, hk1, bsm]
      · show k + 1 ≤ t.1.length; rw [hm, List.length_append]; omega
      · exact start_mono (hL.st y hy).1 (h2 y hy) q3
      · show LeftOk _ (fun _ => t.1.take (k + 1)) _; rw [htk]; exact q4
      · show ∀ c ∈ f.clauses, WW (t.1.take (k + 1)) c _ _; rw [htk]; exact q5
      · show (f.vars + 2 - ((k + 1 : Nat) : Int)).toNat < (f.vars + 2 - (k : Int)).toNat
        omega
    · refine Or.inr ⟨(li, le, false, va), ?_, h1, h2, Or.inr ?_⟩
      · have : (decide ((k : Int) < (li.length : Int))) = false := by simpa using hkl
        simp only [m_cnf_Propagate_lp5, this, Bool.false_and, if_false, Bool.false_eq_true]
      · show ∀ c ∈ f.clauses, WW li c va false
        rw [List.take_of_length_le (by omega)] at h4
        exact h4
theorem sorted_inc {l : List Int} (h : (l.map vr).Nodup) : (l.mergeSort fun x y => !ltN y x).Pairwise fun x y => vr x < vr y := by
  have h1 := sortN_pair l
  have h2 : ((l.mergeSort fun x y => !ltN y x).map vr).Nodup := ((List.mergeSort_perm l _).map vr).nodup_iff.2 h
  have h3 : (l.mergeSort fun x y => !ltN y x).Pairwise fun x y => vr x ≠ vr y := List.pairwise_map.1 h2
  refine (h1.and h3).imp fun {a b} hab => ?_
  have := hab.1
  rw [ltN_iff] at this
  have := hab.2
  omega
theorem cnf_propagate {f : Formula} {S : List Int} (hl : FLen f.clauses) (hS : S.length ≤ 4294967296) (hSb : ∀ x ∈ S, -9223372036854775808 ≤ x ∧ x ≤ 9223372036854775807) (hc4 : ∀ c ∈ f.clauses, c.length ≤ 4294967296) : ∃ r, m_cnf_Propagate f S = some r ∧ PropOk f S r := by
  unfold m_cnf_Propagate
  rw [cnf_valid hl, bsm]
  by_cases hv : validB f = true
  · have hb := valid_bnd hv
    have hchk : m_slices_ContainsFunc_cnf_Propagate_1 S f = some (S.any fun x => !sOk f.vars x) := by
      unfold m_slices_ContainsFunc_cnf_Propagate_1 m_slices_IndexFunc_cnf_Propagate_1
      have h := scan_loop (body := fun s => m_slices_IndexFunc_cnf_Propagate_1_lp1 S f s) S (fun x => !sOk f.vars x) (fun k _ => Out.ret (k : Int)) (Out.brk ()) ?_ ?_
      · rcases h with ⟨k, a, _, _, _, h2, _, e⟩ | ⟨_, h2, _, e⟩
        · rw [e, h2, bsm]; simp
        · rw [e, h2, bsm]; simp
      · intro k a hk
        have hkl := len_lt hk
        have e1 : inK .i64 (0 - f.vars) = some (-f.vars) := inK_at (by omega) ⟨by omega, by omega⟩
        simp only [m_slices_IndexFunc_cnf_Propagate_1_lp1, m_cnf_Propagate_1, ltB hkl, if_true, idx_nat hk, bsm, e1, inK_up hkl (show S.length ≤ 9223372036854775807 by omega)]
        unfold sOk
        by_cases h0 : a = 0
        · simp [h0]
        · by_cases h1 : a < -f.vars
          · have : ¬ -f.vars ≤ a := by omega
            simp [h0, h1, this]
          · by_cases h2 : f.vars < a
            · have : ¬ a ≤ f.vars := by omega
              simp [h0, h1, h2, this]
            · have h3 : -f.vars ≤ a := by omega
              have h4 : a ≤ f.vars := by omega
              simp [h0, h1, h2, h3, h4]
      · simp only [m_slices_IndexFunc_cnf_Propagate_1_lp1, ltB', if_false, Bool.false_eq_true]
    rw [if_neg (by simp [hv]), hchk, bsm, bsm]
    by_cases hs : S.any (fun x => !sOk f.vars x) = true
    · rw [if_pos hs]
      refine ⟨_, rfl, ?_⟩
      unfold PropOk
      obtain ⟨x, hx, h⟩ := List.any_eq_true.1 hs
      rw [if_neg (fun h' => by have := h'.2 x hx; rw [this] at h; cases h)]
    · rw [if_neg hs]
      have hs' : ∀ x ∈ S, sOk f.vars x = true := fun x hx => by
        cases h : sOk f.vars x with
        | true => rfl
        | false => exact absurd (List.any_eq_true.2 ⟨x, hx, by simp [h]⟩) hs
      have hL := valid_lits hv hs'
      rw [inK_eq ⟨by omega, by omega⟩, bsm, mkc_ok ⟨by omega, by omega, by omega⟩, bsm, inK_eq ⟨by omega, by omega⟩, bsm, inK_eq ⟨by omega, by omega⟩, bsm, mkc_ok ⟨by omega, by omega, by omega⟩, bsm]
      obtain ⟨b5, g1, g2, g3⟩ := tab_lp1 hL hb.2.2.1 hc4
      rw [g1, bsm]
      have hz0 : zeros (List.replicate (f.vars + 1).toNat 0) = (f.vars + 1).toNat := by
        unfold zeros
        rw [List.filter_eq_self.2 (fun a ha => by simpa using List.eq_of_mem_replicate ha), List.length_replicate]
      have hp0 : LP f.vars f.clauses S ([], b5.1, false, List.replicate (f.vars + 1).toNat 0) := by
        refine ⟨valOk_init hL, fun x => ?_, List.nodup_nil, fun h => (by cases h), ?_⟩
        · constructor
          · intro h; cases h
          · rintro ⟨h0, h1⟩
            exact absurd (List.eq_of_mem_replicate (List.mem_of_getElem? h1)) h0
        · simp only [hz0, List.length_nil]; omega
      obtain ⟨t1, a1, a2, a3, a4⟩ := prop_lp3 hL hS b5 hp0
      have hleft : LeftOk f.clauses (fun _ => []) t1.2.1 := by
        rw [a3]
        simp only
        rw [g2]
        refine ⟨List.length_map .., fun i c hc => ?_⟩
        rw [List.getElem?_map, hc, cnt_nil]; rfl
      rw [show (loopM (fun s : Int × LT => m_cnf_Propagate_lp3 f S b5 s.1 s.2.1 s.2.2.1 s.2.2.2.1 s.2.2.2.2) (0, [], b5.1, false, List.replicate (f.vars + 1).toNat 0)) = some t1 from a1, bsm]
      obtain ⟨t2, c1, c2, c3, c4, c5⟩ := prop_lp4 hL hb.2.2.1 hc4 b5 a2 hleft
      rw [show (loopM (fun s : Int × LT => m_cnf_Propagate_lp4 f b5 s.1 s.2.1 s.2.2.1 s.2.2.2.1 s.2.2.2.2) (0, t1.1, t1.2.1, t1.2.2.1, t1.2.2.2)) = some t2 from c1, bsm]
      obtain ⟨t3, d1, d2, d3, d4⟩ := prop_lp5 hL hb.2.2.1 hc4 b5 g3 c2 (fun x hx => start_mono (hL.st x hx).1 (a4 x hx) c3) (by rw [c4]; exact hleft) c5
      rw [show (loopM (fun s : Int × LT => m_cnf_Propagate_lp5 f b5 s.1 s.2.1 s.2.2.1 s.2.2.2.1 s.2.2.2.2) (0, t2.1, t2.2.1, t2.2.2.1, t2.2.2.2)) = some t3 from d1, bsm]
      by_cases hf : t3.2.2.1 = true
      · rw [if_pos hf]
        refine ⟨_, rfl, ?_⟩
        unfold PropOk
        rw [if_pos ⟨hv, hs'⟩]
        exact ⟨rfl, Or.inr ⟨rfl, rfl, d2.fl hf⟩⟩
      · rw [if_neg hf]
        have hlen3 := d2.len
        have hso : m_sortV t3.1 = some (t3.1.mergeSort fun x y => !ltN y x) := by
          unfold m_sortV
          rw [if_pos ⟨by omega, mem_litOk fun x hx => by have := vr_le.1 (d2.lit hL hx).2.1; omega, d2.nd⟩]
        rw [hso, bsm]
        refine ⟨_, rfl, ?_⟩
        unfold PropOk
        rw [if_pos ⟨hv, hs'⟩]
        have hst : ∀ x ∈ S, gv t3.2.2.2 x = some x := fun x hx => (d3 x hx).resolve_right hf
        have hgood : ∀ c ∈ f.clauses, Good t3.2.2.2 c := by
          intro c hc
          have hW := d4.resolve_left hf c hc
          have hval : ∀ y ∈ c, -y ∉ t3.1 → gv t3.2.2.2 y = some 0 ∨ gv t3.2.2.2 y = some y := by
            intro y hy hn
            obtain ⟨y0, yn⟩ := hL.cl c hc y hy
            obtain ⟨x, e1, _, e3⟩ := d2.vok.get yn
            rcases e3 with e | e | e
            · exact Or.inl (e ▸ e1)
            · exact Or.inr (e ▸ e1)
            · exact absurd ((d2.mem _).2 ⟨by omega, by rw [gv_neg, e1, e]⟩) hn
          by_cases h2 : cnt t3.1 c < 2
          · rcases hW h2 with h | ⟨y, hy, h3, h4⟩
            · exact absurd h hf
            · exact Or.inl ⟨y, hy, (hval y hy h3).resolve_left h4⟩
          · obtain ⟨y, hy, z, hz, hyz, h3, h4⟩ := cnt_two (proc := t3.1) (hL.nd c hc) (by omega)
            rcases hval y hy h3 with h5 | h5
            · rcases hval z hz h4 with h6 | h6
              · exact Or.inr ⟨y, hy, z, hz, hyz, h5, h6⟩
              · exact Or.inl ⟨z, hz, h6⟩
            · exact Or.inl ⟨y, hy, h5⟩
        refine ⟨rfl, Or.inl ⟨rfl, closed_ok hL d2.vok hst hgood, sorted_inc d2.nd, fun x => ?_⟩⟩
        rw [List.mem_mergeSort, d2.mem]
        exact ⟨fun h => d2.vok.up h.1 h.2, fun h => ⟨(h.lit hL).1, closed_up hL d2.vok hst hgood h⟩⟩
  · rw [if_pos (by simp [hv]), bsm, if_pos rfl]
    refine ⟨_, rfl, ?_⟩
    unfold PropOk
    rw [if_neg (fun h => hv h.1)]
end Go.Proofs.YtelioaepnpnojaaGreatDoor

/- Numerals, and Format: the text of a formula. -/
set_option linter.unusedVariables false
set_option linter.unusedSimpArgs false
namespace Go.Proofs.YtelioaepnpnojaaGreatDoor
open Go.RowKit
def bs (l : List UInt8) : ByteArray := ⟨l.toArray⟩
theorem bs_data (l : List UInt8) : (bs l).data.toList = l := by simp [bs]
theorem bs_size (l : List UInt8) : (bs l).size = l.length := by simp [bs, ByteArray.size]
theorem bs_of (s : ByteArray) : bs s.data.toList = s := by obtain ⟨⟨l⟩⟩ := s; rfl
theorem bs_inj {l m : List UInt8} (h : bs l = bs m) : l = m := by rw [← bs_data l, h, bs_data]
theorem bs_app (l m : List UInt8) : bs l ++ bs m = bs (l ++ m) := by
  rw [← bs_of (bs l ++ bs m)]
  congr 1
theorem catK_bs {l m : List UInt8} (h : l.length + m.length ≤ 4294967296) : catK (bs l) (bs m) = some (bs (l ++ m)) := by
  rw [catK_ok (by rw [bs_size, bs_size]; exact h), bs_app]
theorem wstr_bs {l m : List UInt8} (h : l.length + m.length ≤ 4294967296) : m_WStr (bs l) (bs m) = some (bs (l ++ m)) := by
  unfold m_WStr
  rw [if_pos (by rw [bs_size, bs_size]; omega), bs_app]
theorem bs_sub (l : List UInt8) (i j : Nat) : (bs l).extract i j = bs ((l.take j).drop i) := by
  rw [← bs_of ((bs l).extract i j)]
  congr 1
  simp [bs, List.extract_eq_take_drop, List.drop_take]
theorem ssub_bs {l : List UInt8} {i j : Nat} (h : i ≤ j) (hj : j ≤ l.length) : ssub (bs l) (i : Int) (j : Int) = some (bs ((l.take j).drop i)) := by
  unfold ssub
  rw [if_pos ⟨by omega, by omega, by rw [bs_size]; omega⟩]
  simp only [Int.toNat_natCast]
  rw [bs_sub]
theorem sidx_bs {l : List UInt8} {i : Nat} {b : UInt8} (h : l[i]? = some b) : sidx (bs l) (i : Int) = some (b.toNat : Int) := by
  unfold sidx
  rw [if_pos (by omega)]
  simp only [Int.toNat_natCast]
  have : (bs l)[i]? = some b := by
    obtain ⟨h1, h2⟩ := List.getElem?_eq_some_iff.1 h
    rw [getElem?_pos (bs l) i (by rw [bs_size]; exact h1)]
    congr 1
  rw [this]; rfl
open Go.Lib
theorem dd_small {u : Nat} (h : u < 10) : decDigits u = [UInt8.ofNat (48 + u)] := by rw [decDigits, dif_pos h]
theorem dd_big {u : Nat} (h : ¬ u < 10) : decDigits u = decDigits (u / 10) ++ [UInt8.ofNat (48 + u % 10)] := by rw [decDigits, dif_neg h]
theorem dig_nat {d : Nat} (h : d < 10) : (UInt8.ofNat (48 + d)).toNat = 48 + d := by
  rw [UInt8.toNat_ofNat']; omega
theorem dd_ind {p : Nat → Prop} (h1 : ∀ u, u < 10 → p u) (h2 : ∀ u, ¬ u < 10 → p (u / 10) → p u) : ∀ u, p u := by
  intro u
  induction u using Nat.strongRecOn with
  | _ u ih =>
    by_cases h : u < 10
    · exact h1 u h
    · exact h2 u h (ih _ (by omega))
theorem dd_digit : ∀ (u : Nat), ∀ b ∈ decDigits u, 48 ≤ b.toNat ∧ b.toNat ≤ 57 :=
  dd_ind (fun u h b hb => by
    rw [dd_small h, List.mem_singleton] at hb
    rw [hb, dig_nat h]; omega) (fun u h ih b hb => by
    rw [dd_big h, List.mem_append, List.mem_singleton] at hb
    rcases hb with hb | rfl
    · exact ih b hb
    · rw [dig_nat (by omega)]; omega)
theorem dd_ne (u : Nat) : decDigits u ≠ [] := by
  by_cases h : u < 10
  · rw [dd_small h]; simp
  · rw [dd_big h]; simp
def valD (n : Nat) (l : List UInt8) : Nat := l.foldl (fun n b => 10 * n + (b.toNat - 48)) n
theorem dd_val : ∀ u, valD 0 (decDigits u) = u :=
  dd_ind (fun u h => by rw [dd_small h]; simp only [valD, List.foldl_cons, List.foldl_nil, dig_nat h]; omega)
    (fun u h ih => by
      rw [dd_big h]
      unfold valD at *
      rw [List.foldl_append, ih]
      simp only [List.foldl_cons, List.foldl_nil, dig_nat (show u % 10 < 10 by omega)]
      omega)
theorem dd_len : ∀ (k u : Nat), u < 10 ^ (k + 1) → (decDigits u).length ≤ k + 1
  | 0, u, h => by rw [dd_small (by simpa using h)]; simp
  | k + 1, u, h => by
    by_cases h1 : u < 10
    · rw [dd_small h1]; simp
    · rw [dd_big h1, List.length_append]
      have := dd_len k (u / 10) (by rw [Nat.pow_succ] at h; omega)
      simp only [List.length_singleton]; omega
theorem itoa_len {n : Int} (h : -9223372036854775808 ≤ n ∧ n ≤ 9223372036854775807) : (itoa n).length ≤ 20 := by
  unfold itoa
  split
  · have := dd_len 18 n.natAbs (by omega)
    simp only [List.length_cons]; omega
  · have := dd_len 18 n.toNat (by omega)
    omega
theorem digits_sub {d : Nat} (h : d < 10) : ssub (ByteArray.mk #[48, 49, 50, 51, 52, 53, 54, 55, 56, 57]) (d : Int) ((d : Int) + 1) = some (bs [UInt8.ofNat (48 + d)]) := by
  have e : (ByteArray.mk #[48, 49, 50, 51, 52, 53, 54, 55, 56, 57]) = bs [48, 49, 50, 51, 52, 53, 54, 55, 56, 57] := rfl
  rw [e, show ((d : Int) + 1) = ((d + 1 : Nat) : Int) by omega, ssub_bs (by omega) (by simp; omega)]
  congr 2
  match d, h with
  | 0, _ => rfl
  | 1, _ => rfl
  | 2, _ => rfl
  | 3, _ => rfl
  | 4, _ => rfl
  | 5, _ => rfl
  | 6, _ => rfl
  | 7, _ => rfl
  | 8, _ => rfl
  | 9, _ => rfl
theorem inK_tdiv {n : Int} (h : -9223372036854775808 ≤ n ∧ n ≤ 9223372036854775807) : quoK .i64 n 10 = some (n.tdiv 10) := by
  unfold quoK
  have h1 : -9223372036854775808 ≤ n.tdiv 10 ∧ n.tdiv 10 ≤ 9223372036854775807 := by
    rcases Int.le_total 0 n with h0 | h0
    · rw [Int.tdiv_eq_ediv_of_nonneg h0]; omega
    · have : n.tdiv 10 = -((-n) / 10) := by
        rw [show n = -(-n) by omega, Int.neg_tdiv, Int.tdiv_eq_ediv_of_nonneg (by omega), Int.neg_neg]
      omega
  rw [if_pos ⟨by decide, by rw [IntKind.wrap_i64]; omega⟩]
theorem decimal_r : ∀ (k : Nat) (n : Int), -9223372036854775808 ≤ n ∧ n ≤ 9223372036854775807 → n.natAbs < 10 ^ (k + 1) → m_assessorref26_Decimal_r (k + 1) n = some (bs (itoa n)) := by
  intro k
  induction k with
  | zero =>
    intro n hb hn
    have hn : n.natAbs < 10 := by simpa using hn
    show m_assessorref26_Decimal_body (m_assessorref26_Decimal_r 0) n = _
    unfold m_assessorref26_Decimal_body
    by_cases h0 : n < 0
    · obtain ⟨d, rfl⟩ : ∃ d : Nat, n = -(d : Int) := ⟨n.natAbs, by omega⟩
      have hd : d < 10 := by omega
      have e1 : remK (-(d : Int)) 10 = some (-(d : Int)) := by
        unfold remK
        rw [if_pos (by decide), Int.neg_tmod, Int.tmod_eq_emod_of_nonneg (by omega), Int.emod_eq_of_lt (by omega) (by omega)]
      have e2 : inK .i64 (0 - -(d : Int)) = some (d : Int) := inK_at (by omega) ⟨by omega, by omega⟩
      have e3 : inK .i64 ((d : Int) + 1) = some ((d : Int) + 1) := inK_eq ⟨by omega, by omega⟩
      have h1 : -10 < -(d : Int) := by omega
      have e4 : catK (ByteArray.mk #[45]) (bs [UInt8.ofNat (48 + d)]) = some (bs (45 :: [UInt8.ofNat (48 + d)])) := catK_bs (l := [45]) (by simp)
      simp only [e1, bsm, h0, decide_true, if_true, e2, e3, digits_sub hd, h1, Bool.and_self, e4]
      have : itoa (-(d : Int)) = 45 :: [UInt8.ofNat (48 + d)] := by
        unfold itoa
        rw [if_pos h0, show (-(d : Int)).natAbs = d by omega, dd_small hd]
      rw [this]
    · obtain ⟨d, rfl⟩ : ∃ d : Nat, n = (d : Int) := ⟨n.natAbs, by omega⟩
      have hd : d < 10 := by omega
      have e1 : remK (d : Int) 10 = some (d : Int) := by
        rw [remK_pos (by omega) (by decide), Int.emod_eq_of_lt (by omega) (by omega)]
      have e3 : inK .i64 ((d : Int) + 1) = some ((d : Int) + 1) := inK_eq ⟨by omega, by omega⟩
      have h2 : (0 : Int) ≤ (d : Int) := by omega
      have h3 : (d : Int) < 10 := by omega
      simp only [e1, bsm, h0, decide_false, Bool.false_eq_true, if_false, e3, digits_sub hd, Bool.false_and, h2, h3, decide_true, Bool.and_self, if_true]
      have : itoa (d : Int) = [UInt8.ofNat (48 + d)] := by
        unfold itoa
        rw [if_neg h0, Int.toNat_natCast, dd_small hd]
      rw [this]
  | succ k ih =>
    intro n hb hn
    show m_assessorref26_Decimal_body (m_assessorref26_Decimal_r (k + 1)) n = _
    unfold m_assessorref26_Decimal_body
    rw [Nat.pow_succ] at hn
    by_cases h0 : n < 0
    · obtain ⟨d, rfl⟩ : ∃ d : Nat, n = -(d : Int) := ⟨n.natAbs, by omega⟩
      have hd : d % 10 < 10 := by omega
      have e1 : remK (-(d : Int)) 10 = some (-((d % 10 : Nat) : Int)) := by
        unfold remK
        rw [if_pos (by decide), Int.neg_tmod, Int.tmod_eq_emod_of_nonneg (by omega)]; rfl
      have e2 : inK .i64 (0 - -((d % 10 : Nat) : Int)) = some ((d % 10 : Nat) : Int) := inK_at (by omega) ⟨by omega, by omega⟩
      have e3 : inK .i64 (((d % 10 : Nat) : Int) + 1) = some (((d % 10 : Nat) : Int) + 1) := inK_eq ⟨by omega, by omega⟩
      have h2 : ¬ (0 : Int) ≤ -(d : Int) := by omega
      simp only [e1, bsm, h0, decide_true, if_true, e2, e3, digits_sub hd, Bool.true_and]
      by_cases h1 : -10 < -(d : Int)
      · have hdd : d < 10 := by omega
        have e4 : catK (ByteArray.mk #[45]) (bs [UInt8.ofNat (48 + d % 10)]) = some (bs (45 :: [UInt8.ofNat (48 + d % 10)])) := catK_bs (l := [45]) (by simp)
        simp only [h1, decide_true, if_true, e4, bsm]
        have : itoa (-(d : Int)) = 45 :: [UInt8.ofNat (48 + d % 10)] := by
          unfold itoa
          rw [if_pos h0, show (-(d : Int)).natAbs = d by omega, dd_small hdd, Nat.mod_eq_of_lt hdd]
        rw [this]
      · have hq : (-(d : Int)).tdiv 10 = -((d / 10 : Nat) : Int) := by rw [Int.neg_tdiv, Int.tdiv_eq_ediv_of_nonneg (by omega)]; rfl
        have hit : itoa (-(d : Int)) = itoa (-((d / 10 : Nat) : Int)) ++ [UInt8.ofNat (48 + d % 10)] := by
          unfold itoa
          rw [if_pos h0, if_pos (by omega), show (-(d : Int)).natAbs = d by omega, show (-((d / 10 : Nat) : Int)).natAbs = d / 10 by omega, dd_big (by omega)]
          rfl
        have hl := itoa_len (n := -((d / 10 : Nat) : Int)) ⟨by omega, by omega⟩
        simp only [h1, decide_false, Bool.false_eq_true, if_false, h2, Bool.false_and, inK_tdiv hb, bsm, hq, ih (-((d / 10 : Nat) : Int)) ⟨by omega, by omega⟩ (by omega)]
        rw [catK_bs (by simp only [List.length_singleton]; omega), bsm, hit]
    · obtain ⟨d, rfl⟩ : ∃ d : Nat, n = (d : Int) := ⟨n.natAbs, by omega⟩
      have hd : d % 10 < 10 := by omega
      have e1 : remK (d : Int) 10 = some ((d % 10 : Nat) : Int) := by
        rw [remK_pos (by omega) (by decide)]; rfl
      have e3 : inK .i64 (((d % 10 : Nat) : Int) + 1) = some (((d % 10 : Nat) : Int) + 1) := inK_eq ⟨by omega, by omega⟩
      have h2 : (0 : Int) ≤ (d : Int) := by omega
      simp only [e1, bsm, h0, decide_false, Bool.false_eq_true, if_false, e3, digits_sub hd, Bool.false_and, h2, decide_true, Bool.true_and]
      by_cases h1 : (d : Int) < 10
      · have hdd : d < 10 := by omega
        simp only [h1, decide_true, if_true]
        have : itoa (d : Int) = [UInt8.ofNat (48 + d % 10)] := by
          unfold itoa
          rw [if_neg h0, Int.toNat_natCast, dd_small hdd, Nat.mod_eq_of_lt hdd]
        rw [this]
      · have hq : (d : Int).tdiv 10 = ((d / 10 : Nat) : Int) := by rw [Int.tdiv_eq_ediv_of_nonneg (by omega)]; rfl
        have hit : itoa (d : Int) = itoa ((d / 10 : Nat) : Int) ++ [UInt8.ofNat (48 + d % 10)] := by
          unfold itoa
          rw [if_neg h0, if_neg (by omega), Int.toNat_natCast, Int.toNat_natCast, dd_big (by omega)]
        have hl := itoa_len (n := ((d / 10 : Nat) : Int)) ⟨by omega, by omega⟩
        simp only [h1, decide_false, Bool.false_eq_true, if_false, inK_tdiv hb, bsm, hq, ih ((d / 10 : Nat) : Int) ⟨by omega, by omega⟩ (by omega)]
        rw [catK_bs (by simp only [List.length_singleton]; omega), bsm, hit]
theorem decimal_ok {n : Int} (h : -9223372036854775808 ≤ n ∧ n ≤ 9223372036854775807) : m_assessorref26_Decimal n = some (bs (itoa n)) :=
  decimal_r 20 n h (by omega)
theorem itoa_ok {n : Int} (h : -9223372036854775808 ≤ n ∧ n ≤ 9223372036854775807) : m_itoa n = some (bs (itoa n)) := by
  unfold m_itoa; rw [if_pos h]; rfl
def litL (l : Int) : List UInt8 := itoa l ++ [32]
def lineL (c : List Int) : List UInt8 := c.flatMap litL ++ [48, 10]
def headL (f : Formula) : List UInt8 := [112, 32, 99, 110, 102, 32] ++ itoa f.vars ++ [32] ++ itoa (f.clauses.length : Int) ++ [10]
def fmtL (f : Formula) : List UInt8 := headL f ++ f.clauses.flatMap lineL
def Fits (cs : List (List Int)) : Prop := cs.length ≤ 10000 ∧ ∀ c ∈ cs, c.length ≤ 10000
theorem I64b_lit {f : Formula} (hv : validB f = true) {c : List Int} (hc : c ∈ f.clauses) {l : Int} (hl : l ∈ c) : -9223372036854775808 ≤ l ∧ l ≤ 9223372036854775807 := by
  have := valid_lit hv hc hl
  have := valid_bnd hv
  omega
theorem litL_len {l : Int} (h : -9223372036854775808 ≤ l ∧ l ≤ 9223372036854775807) : (litL l).length ≤ 21 := by
  have := itoa_len h
  unfold litL; simp only [List.length_append, List.length_singleton]; omega
theorem lits_len {c : List Int} (h : ∀ l ∈ c, -9223372036854775808 ≤ l ∧ l ≤ 9223372036854775807) : (c.flatMap litL).length ≤ 21 * c.length := by
  induction c with
  | nil => simp
  | cons x c ih =>
    rw [List.flatMap_cons, List.length_append, List.length_cons]
    have := litL_len (h x (List.mem_cons_self ..))
    have := ih fun l hl => h l (List.mem_cons_of_mem _ hl)
    omega
theorem lineL_len {c : List Int} (h : ∀ l ∈ c, -9223372036854775808 ≤ l ∧ l ≤ 9223372036854775807) (hc : c.length ≤ 10000) : (lineL c).length ≤ 210002 := by
  have := lits_len h
  unfold lineL; simp only [List.length_append, List.length_cons, List.length_nil]; omega
theorem lines_len : ∀ {cs : List (List Int)}, (∀ c ∈ cs, c.length ≤ 10000 ∧ ∀ l ∈ c, -9223372036854775808 ≤ l ∧ l ≤ 9223372036854775807) → (cs.flatMap lineL).length ≤ 210002 * cs.length
  | [], _ => by simp
  | c :: cs, h => by
    rw [List.flatMap_cons, List.length_append, List.length_cons]
    have h1 := h c (List.mem_cons_self ..)
    have := lineL_len h1.2 h1.1
    have := lines_len (cs := cs) fun d hd => h d (List.mem_cons_of_mem _ hd)
    omega
theorem flatMap_take {α β : Type} (g : α → List β) {l : List α} {k : Nat} {a : α} (h : l[k]? = some a) : (l.take (k + 1)).flatMap g = (l.take k).flatMap g ++ g a := by
  rw [take_snoc_of h, List.flatMap_append]; simp
theorem headL_len {f : Formula} (h1 : -9223372036854775808 ≤ f.vars ∧ f.vars ≤ 9223372036854775807) (h2 : f.clauses.length ≤ 10000) : (headL f).length ≤ 50 := by
  have a := itoa_len h1
  have b := itoa_len (n := (f.clauses.length : Int)) ⟨by omega, by omega⟩
  unfold headL
  simp only [List.length_append, List.length_cons, List.length_nil]; omega
theorem ref_line {c : List Int} (hc : c.length ≤ 10000) (h : ∀ l ∈ c, -9223372036854775808 ≤ l ∧ l ≤ 9223372036854775807) : m_assessorref26_Line c = some (bs (lineL c)) := by
  unfold m_assessorref26_Line
  have htl : ∀ k, ((c.take k).flatMap litL).length ≤ 210000 := fun k => by
    have := lits_len (c := c.take k) fun l hl => h l (List.mem_of_mem_take hl)
    have : (c.take k).length ≤ c.length := by rw [List.length_take]; omega
    omega
  have hloop : ∃ b, loopM (fun s : ByteArray × Int => m_assessorref26_Line_lp1 c s.1 s.2) ((ByteArray.mk #[]), 0) = some b ∧ b = bs (c.flatMap litL) := by
    refine loopN (body := fun s : ByteArray × Int => m_assessorref26_Line_lp1 c s.1 s.2) c.length (fun k t => (t, (k : Int))) (fun k t => t = bs ((c.take k).flatMap litL)) _ (t0 := ByteArray.mk #[]) rfl rfl ?_ ?_
    · rintro k t hk rfl
      obtain ⟨x, hx⟩ := get_of_lt hk
      have hb := h x (mem_get hx)
      have hl := itoa_len hb
      have := htl k
      refine Or.inl ⟨_, ?_, rfl⟩
      have e1 : catK (bs ((c.take k).flatMap litL)) (bs (itoa x)) = some (bs ((c.take k).flatMap litL ++ itoa x)) := catK_bs (by omega)
      have e2 : catK (bs ((c.take k).flatMap litL ++ itoa x)) (ByteArray.mk #[32]) = some (bs ((c.take (k + 1)).flatMap litL)) := by
        rw [show (ByteArray.mk #[32]) = bs [32] from rfl, catK_bs (by simp only [List.length_append, List.length_singleton]; omega), flatMap_take litL hx]
        unfold litL; rw [List.append_assoc]
      simp only [m_assessorref26_Line_lp1, ltB hk, if_true, idx_nat hx, bsm, decimal_ok hb, e1, e2, inK_up hk (show c.length ≤ 9223372036854775807 by omega)]
    · rintro t rfl
      refine ⟨_, ?_, rfl⟩
      simp only [m_assessorref26_Line_lp1, ltB', if_false, Bool.false_eq_true, List.take_length]
  obtain ⟨b, hb, rfl⟩ := hloop
  have := htl c.length
  rw [List.take_length] at this
  rw [hb, bsm, show (ByteArray.mk #[48, 10]) = bs [48, 10] from rfl, catK_bs (by simp only [List.length_cons, List.length_nil]; omega)]
  rfl
theorem head_cat {f : Formula} (h1 : -9223372036854775808 ≤ f.vars ∧ f.vars ≤ 9223372036854775807) (h2 : f.clauses.length ≤ 10000) :
    catK (ByteArray.mk #[112, 32, 99, 110, 102, 32]) (bs (itoa f.vars)) = some (bs ([112, 32, 99, 110, 102, 32] ++ itoa f.vars)) ∧
    catK (bs ([112, 32, 99, 110, 102, 32] ++ itoa f.vars)) (ByteArray.mk #[32]) = some (bs ([112, 32, 99, 110, 102, 32] ++ itoa f.vars ++ [32])) ∧
    catK (bs ([112, 32, 99, 110, 102, 32] ++ itoa f.vars ++ [32])) (bs (itoa (f.clauses.length : Int))) = some (bs ([112, 32, 99, 110, 102, 32] ++ itoa f.vars ++ [32] ++ itoa (f.clauses.length : Int))) ∧
    catK (bs ([112, 32, 99, 110, 102, 32] ++ itoa f.vars ++ [32] ++ itoa (f.clauses.length : Int))) (ByteArray.mk #[10]) = some (bs (headL f)) := by
  have a := itoa_len h1
  have b := itoa_len (n := (f.clauses.length : Int)) ⟨by omega, by omega⟩
  refine ⟨?_, ?_, ?_, ?_⟩
  · rw [show (ByteArray.mk #[112, 32, 99, 110, 102, 32]) = bs [112, 32, 99, 110, 102, 32] from rfl, catK_bs (by simp only [List.length_cons, List.length_nil]; omega)]
  · rw [show (ByteArray.mk #[32]) = bs [32] from rfl, catK_bs (by simp only [List.length_append, List.length_cons, List.length_nil]; omega)]
  · rw [catK_bs (by simp only [List.length_append, List.length_cons, List.length_nil]; omega)]
  · rw [show (ByteArray.mk #[10]) = bs [10] from rfl, catK_bs (by simp only [List.length_append, List.length_cons, List.length_nil]; omega)]; rfl
def fmtB (f : Formula) : ByteArray := if validB f = true then bs (fmtL f) else bs []
theorem fits_flen {cs : List (List Int)} (h : Fits cs) : FLen cs := ⟨by have := h.1; omega, fun c hc => by have := h.2 c hc; omega⟩
theorem ref_format {f : Formula} (hf : Fits f.clauses) : m_assessorref26_Format f = some (fmtB f) := by
  unfold m_assessorref26_Format fmtB
  rw [ref_valid (fits_flen hf), bsm]
  by_cases hv : validB f = true
  · rw [if_neg (by simp [hv]), if_pos hv]
    have hb := valid_bnd hv
    have hi : -9223372036854775808 ≤ f.vars ∧ f.vars ≤ 9223372036854775807 := by omega
    obtain ⟨e1, e2, e3, e4⟩ := head_cat hi hf.1
    rw [decimal_ok hi, bsm, e1, bsm, e2, bsm, decimal_ok ⟨by omega, by omega⟩, bsm, e3, bsm, e4, bsm]
    have hh := headL_len hi hf.1
    have hcl : ∀ c ∈ f.clauses, c.length ≤ 10000 ∧ ∀ l ∈ c, -9223372036854775808 ≤ l ∧ l ≤ 9223372036854775807 := fun c hc => ⟨hf.2 c hc, fun l hl => I64b_lit hv hc hl⟩
    have htl : ∀ k, ((f.clauses.take k).flatMap lineL).length ≤ 2100020000 := fun k => by
      have := lines_len (cs := f.clauses.take k) fun c hc => hcl c (List.mem_of_mem_take hc)
      have : (f.clauses.take k).length ≤ f.clauses.length := by rw [List.length_take]; omega
      have := hf.1
      omega
    have hloop : ∃ b, loopM (fun s : ByteArray × Int => m_assessorref26_Format_lp1 f s.1 s.2) (bs (headL f), 0) = some b ∧ b = bs (fmtL f) := by
      refine loopN (body := fun s : ByteArray × Int => m_assessorref26_Format_lp1 f s.1 s.2) f.clauses.length (fun k t => (t, (k : Int))) (fun k t => t = bs (headL f ++ (f.clauses.take k).flatMap lineL)) _ (t0 := bs (headL f)) rfl (by simp) ?_ ?_
      · rintro k t hk rfl
        obtain ⟨x, hx⟩ := get_of_lt hk
        have hx2 := hcl x (mem_get hx)
        have hl := lineL_len hx2.2 hx2.1
        have := htl k
        refine Or.inl ⟨_, ?_, rfl⟩
        have e5 : catK (bs (headL f ++ (f.clauses.take k).flatMap lineL)) (bs (lineL x)) = some (bs (headL f ++ (f.clauses.take (k + 1)).flatMap lineL)) := by
          rw [catK_bs (by simp only [List.length_append]; omega), flatMap_take lineL hx, List.append_assoc]
        simp only [m_assessorref26_Format_lp1, ltB hk, if_true, idx_nat hx, bsm, ref_line hx2.1 hx2.2, e5, inK_up hk (show f.clauses.length ≤ 9223372036854775807 by omega)]
      · rintro t rfl
        refine ⟨_, ?_, rfl⟩
        simp only [m_assessorref26_Format_lp1, ltB', if_false, Bool.false_eq_true, List.take_length]
        rfl
    obtain ⟨b, hb2, rfl⟩ := hloop
    rw [hb2, bsm]
  · rw [if_pos (by simp [hv]), if_neg hv]; rfl
theorem cnf_line {x : List Int} (hc : x.length ≤ 10000) (h : ∀ l ∈ x, -9223372036854775808 ≤ l ∧ l ≤ 9223372036854775807) {acc : List UInt8} (ha : acc.length ≤ 2200000000) :
    loopM (fun s : Int × ByteArray => m_cnf_Format_lp2 x s.1 s.2) (0, bs acc) = some (bs (acc ++ x.flatMap litL)) := by
  have htl : ∀ k, ((x.take k).flatMap litL).length ≤ 210000 := fun k => by
    have := lits_len (c := x.take k) fun l hl => h l (List.mem_of_mem_take hl)
    have : (x.take k).length ≤ x.length := by rw [List.length_take]; omega
    omega
  have hloop : ∃ b, loopM (fun s : Int × ByteArray => m_cnf_Format_lp2 x s.1 s.2) (0, bs acc) = some b ∧ b = bs (acc ++ x.flatMap litL) := by
    refine loopN (body := fun s : Int × ByteArray => m_cnf_Format_lp2 x s.1 s.2) x.length (fun k t => ((k : Int), t)) (fun k t => t = bs (acc ++ (x.take k).flatMap litL)) _ (t0 := bs acc) rfl (by simp) ?_ ?_
    · rintro k t hk rfl
      obtain ⟨l, hx⟩ := get_of_lt hk
      have hb := h l (mem_get hx)
      have hl := itoa_len hb
      have := htl k
      refine Or.inl ⟨_, ?_, rfl⟩
      have e1 : catK (bs (itoa l)) (ByteArray.mk #[32]) = some (bs (litL l)) := by
        rw [show (ByteArray.mk #[32]) = bs [32] from rfl, catK_bs (by simp only [List.length_singleton]; omega)]; rfl
      have hll := litL_len hb
      have e2 : m_WStr (bs (acc ++ (x.take k).flatMap litL)) (bs (litL l)) = some (bs (acc ++ (x.take (k + 1)).flatMap litL)) := by
        rw [wstr_bs (by simp only [List.length_append]; omega), flatMap_take litL hx, List.append_assoc]
      simp only [m_cnf_Format_lp2, ltB hk, if_true, idx_nat hx, bsm, itoa_ok hb, e1, e2, inK_up hk (show x.length ≤ 9223372036854775807 by omega)]
    · rintro t rfl
      refine ⟨_, ?_, rfl⟩
      simp only [m_cnf_Format_lp2, ltB', if_false, Bool.false_eq_true, List.take_length]
  obtain ⟨b, hb, rfl⟩ := hloop
  exact hb
theorem cnf_format {f : Formula} (hf : Fits f.clauses) : m_cnf_Format f = some (fmtB f) := by
  unfold m_cnf_Format fmtB
  rw [cnf_valid (fits_flen hf), bsm]
  by_cases hv : validB f = true
  · rw [if_neg (by simp [hv]), if_pos hv]
    have hb := valid_bnd hv
    have hi : -9223372036854775808 ≤ f.vars ∧ f.vars ≤ 9223372036854775807 := by omega
    obtain ⟨e1, e2, e3, e4⟩ := head_cat hi hf.1
    have hh := headL_len hi hf.1
    have e5 : m_WStr ByteArray.empty (bs (headL f)) = some (bs (headL f)) := by
      rw [show ByteArray.empty = bs [] from rfl, wstr_bs (by simp only [List.length_nil]; omega)]; rfl
    rw [itoa_ok hi, bsm, e1, bsm, e2, bsm, itoa_ok ⟨by omega, by omega⟩, bsm, e3, bsm, e4, bsm, e5, bsm]
    have hcl : ∀ c ∈ f.clauses, c.length ≤ 10000 ∧ ∀ l ∈ c, -9223372036854775808 ≤ l ∧ l ≤ 9223372036854775807 := fun c hc => ⟨hf.2 c hc, fun l hl => I64b_lit hv hc hl⟩
    have htl : ∀ k, ((f.clauses.take k).flatMap lineL).length ≤ 2100020000 := fun k => by
      have := lines_len (cs := f.clauses.take k) fun c hc => hcl c (List.mem_of_mem_take hc)
      have : (f.clauses.take k).length ≤ f.clauses.length := by rw [List.length_take]; omega
      have := hf.1
      omega
    have hloop : ∃ b, loopM (fun s : Int × ByteArray => m_cnf_Format_lp1 f s.1 s.2) (0, bs (headL f)) = some b ∧ b = bs (fmtL f) := by
      refine loopN (body := fun s : Int × ByteArray => m_cnf_Format_lp1 f s.1 s.2) f.clauses.length (fun k t => ((k : Int), t)) (fun k t => t = bs (headL f ++ (f.clauses.take k).flatMap lineL)) _ (t0 := bs (headL f)) rfl (by simp) ?_ ?_
      · rintro k t hk rfl
        obtain ⟨x, hx⟩ := get_of_lt hk
        have hx2 := hcl x (mem_get hx)
        have hl := lits_len hx2.2
        have := htl k
        refine Or.inl ⟨_, ?_, rfl⟩
        have e5 : m_WStr (bs (headL f ++ (f.clauses.take k).flatMap lineL ++ x.flatMap litL)) (ByteArray.mk #[48, 10]) = some (bs (headL f ++ (f.clauses.take (k + 1)).flatMap lineL)) := by
          rw [show (ByteArray.mk #[48, 10]) = bs [48, 10] from rfl, wstr_bs (by simp only [List.length_append, List.length_cons, List.length_nil]; omega), flatMap_take lineL hx]
          unfold lineL
          simp only [List.append_assoc]
        simp only [m_cnf_Format_lp1, ltB hk, if_true, idx_nat hx, bsm, cnf_line hx2.1 hx2.2 (acc := headL f ++ (f.clauses.take k).flatMap lineL) (by simp only [List.length_append]; omega), e5, inK_up hk (show f.clauses.length ≤ 9223372036854775807 by omega)]
      · rintro t rfl
        refine ⟨_, ?_, rfl⟩
        simp only [m_cnf_Format_lp1, ltB', if_false, Bool.false_eq_true, List.take_length]
        rfl
    obtain ⟨b, hb2, rfl⟩ := hloop
    rw [hb2, bsm]
    unfold m_BStr
    rw [if_pos (by rw [bs_size]; unfold fmtL headL; simp), bsm]
  · rw [if_pos (by simp [hv]), if_neg hv]; rfl
end Go.Proofs.YtelioaepnpnojaaGreatDoor
