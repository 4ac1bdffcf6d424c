/- The program's Propagate: what it computes is unit propagation. -/
import Derived.Test.YtelioaepnpnojaaGreatDoorKTr13
import Derived.Test.YtelioaepnpnojaaGreatDoorKTr4
import Derived.Lib.SplitLaws
import Derived.Lib.IndexLaws
import Derived.Lib.CutLaws
set_option linter.unusedVariables false
set_option linter.unusedSimpArgs false
namespace Go.Proofs.YtelioaepnpnojaaGreatDoor
open Go.RowKit
structure PSt (n : Int) (F : List (List Int)) (S val lst : List Int) (fails : Bool) : Prop where
  vok : ValOk n F S val
  mem : ∀ x, x ∈ lst ↔ x ≠ 0 ∧ gv val x = some x
  nd : (lst.map vr).Nodup
  fl : fails = true → Fails F S
  len : (lst.length : Int) + zeros val = n + 1
structure Ext (val lst : List Int) (fails : Bool) (val' lst' : List Int) (fails' : Bool) : Prop where
  app : ∃ m, lst' = lst ++ m
  val : ∀ x, gv val x ≠ some 0 → gv val' x = gv val x
  fl : fails = true → fails' = true
theorem Ext.rf (val lst : List Int) (fails : Bool) : Ext val lst fails val lst fails := ⟨⟨[], by simp⟩, fun _ _ => rfl, fun h => h⟩
theorem Ext.tr {v1 l1 v2 l2 v3 l3 : List Int} {f1 f2 f3 : Bool} (h : Ext v1 l1 f1 v2 l2 f2) (k : Ext v2 l2 f2 v3 l3 f3) : Ext v1 l1 f1 v3 l3 f3 := by
  obtain ⟨m, hm⟩ := h.app
  obtain ⟨m', hm'⟩ := k.app
  refine ⟨⟨m ++ m', by rw [hm', hm, List.append_assoc]⟩, fun x hx => ?_, fun e => k.fl (h.fl e)⟩
  rw [k.val x (by rw [h.val x hx]; exact hx), h.val x hx]
theorem PSt.lit {n : Int} {F : List (List Int)} {S val lst : List Int} {fails : Bool} (hL : Lits n F S) (h : PSt n F S val lst fails) {x : Int} (hx : x ∈ lst) : x ≠ 0 ∧ vr x ≤ n ∧ UP F S x := by
  obtain ⟨h0, h1⟩ := (h.mem x).1 hx
  have hu := h.vok.up h0 h1
  exact ⟨h0, (hu.lit hL).2, hu⟩
theorem add_ok {n : Int} {F : List (List Int)} {S : List Int} (hL : Lits n F S) {p : PSet} (h : PSt n F S p.value p.list p.fails) {l : Int} (hu : UP F S l) :
    ∃ p', m_cnf_set_add p l = some p' ∧ p'.f = p.f ∧ p'.places = p.places ∧ p'.left = p.left ∧ PSt n F S p'.value p'.list p'.fails ∧ Ext p.value p.list p.fails p'.value p'.list p'.fails ∧ gv p'.value l ≠ some 0 ∧ (gv p'.value l = some l ∨ p'.fails = true) := by
  obtain ⟨h0, hn⟩ := hu.lit hL
  have hnn := hL.nn
  have hb := vr_le.1 hn
  obtain ⟨x, hx1, hx2, hx3⟩ := h.vok.get hn
  have e1 : inK .i64 (0 - l) = some (-l) := inK_at (by omega) ⟨by omega, by omega⟩
  have hlen := h.len
  have happ : app p.list [l] = some (p.list ++ [l]) := app_ok (by simp; omega)
  by_cases hx0 : x = 0
  · subst hx0
    refine ⟨⟨p.f, p.value.set (vr l).toNat l, p.places, p.left, p.list ++ [l], p.fails⟩, ?_, rfl, rfl, rfl, ?_, ?_, ?_, Or.inl (by simp only; rw [gv_set h.vok.len hn, if_pos rfl])⟩
    · simp only [m_cnf_set_add, var_ok (show -9223372036854775807 ≤ l ∧ l ≤ 9223372036854775807 by omega), bsm, hx2, happ, decide_true, if_true]
    · refine ⟨h.vok.set h0 hn hu, fun y => ?_, ?_, h.fl, ?_⟩
      · rw [List.mem_append, List.mem_singleton, h.mem]
        simp only
        rw [gv_set h.vok.len hn]
        by_cases e : vr y = vr l
        · rw [if_pos e]
          constructor
          · rintro (⟨a, b⟩ | rfl)
            · unfold gv at b hx1
              rw [e, hx1] at b
              exact absurd (Option.some.inj b).symm a
            · exact ⟨h0, rfl⟩
          · rintro ⟨a, b⟩
            exact Or.inr (Option.some.inj b).symm
        · rw [if_neg e]
          constructor
          · rintro (h | rfl)
            · exact h
            · exact absurd rfl e
          · exact Or.inl
      · simp only [List.map_append, List.map_cons, List.map_nil]
        refine List.nodup_append.2 ⟨h.nd, by simp, fun a ha b hb e => ?_⟩
        obtain rfl := List.mem_singleton.1 hb
        obtain ⟨y, hy, hya⟩ := List.mem_map.1 ha
        obtain ⟨hy0, hy1⟩ := (h.mem y).1 hy
        unfold gv at hy1 hx1
        rw [hya, e, hx1] at hy1
        exact hy0 (Option.some.inj hy1).symm
      · have hz := zeros_set h0 (val := p.value) (i := (vr l).toNat) hx1
        simp only [List.length_append, List.length_singleton]
        omega
    · refine ⟨⟨[l], rfl⟩, fun y hy => ?_, fun e => e⟩
      simp only
      rw [gv_set h.vok.len hn]
      by_cases e : vr y = vr l
      · unfold gv at hy hx1
        rw [e, hx1] at hy
        exact absurd rfl hy
      · rw [if_neg e]
    · simp only
      rw [gv_set h.vok.len hn, if_pos rfl]
      intro e
      exact h0 (Option.some.inj e)
  · by_cases hxl : x = -l
    · subst hxl
      refine ⟨⟨p.f, p.value, p.places, p.left, p.list, true⟩, ?_, rfl, rfl, rfl, ⟨h.vok, h.mem, h.nd, fun _ => ?_, h.len⟩, ⟨⟨[], by simp⟩, fun _ _ => rfl, fun _ => rfl⟩, ?_, Or.inr rfl⟩
      · simp only [m_cnf_set_add, var_ok (show -9223372036854775807 ≤ l ∧ l ≤ 9223372036854775807 by omega), bsm, hx2, hx0, decide_false, Bool.false_eq_true, if_false, e1, decide_true, if_true]
      · exact Or.inl ⟨l, hu, h.vok.sound _ _ hx1 hx0⟩
      · rw [show gv p.value l = some (-l) from hx1]; intro e; exact hx0 (Option.some.inj e)
    · refine ⟨p, ?_, rfl, rfl, rfl, h, Ext.rf _ _ _, ?_, Or.inl (by rcases hx3 with e | e | e; exact absurd e hx0; rw [hx1, e]; exact absurd e hxl)⟩
      · simp only [m_cnf_set_add, var_ok (show -9223372036854775807 ≤ l ∧ l ≤ 9223372036854775807 by omega), bsm, hx2, hx0, hxl, decide_false, Bool.false_eq_true, if_false, e1]
      · rw [hx1]; intro e; exact hx0 (Option.some.inj e)
def cnt (proc c : List Int) : Nat := (c.filter fun y => !decide (-y ∈ proc)).length
theorem cnt_zero {proc c : List Int} (h : cnt proc c = 0) : ∀ y ∈ c, -y ∈ proc := by
  intro y hy
  unfold cnt at h
  have := List.eq_nil_of_length_eq_zero h
  have h2 := List.filter_eq_nil_iff.1 this y hy
  simpa using h2
theorem cnt_one {proc c : List Int} (h : cnt proc c = 1) : ∃ y ∈ c, -y ∉ proc ∧ ∀ z ∈ c, -z ∉ proc → z = y := by
  unfold cnt at h
  obtain ⟨y, hy⟩ := List.length_eq_one_iff.1 h
  have h1 : y ∈ c.filter fun y => !decide (-y ∈ proc) := by rw [hy]; simp
  rw [List.mem_filter] at h1
  refine ⟨y, h1.1, by simpa using h1.2, fun z hz hz' => ?_⟩
  have : z ∈ c.filter fun y => !decide (-y ∈ proc) := List.mem_filter.2 ⟨hz, by simpa using hz'⟩
  rw [hy] at this
  exact List.mem_singleton.1 this
theorem cnt_two {proc c : List Int} (hn : c.Nodup) (h : 2 ≤ cnt proc c) : ∃ y ∈ c, ∃ z ∈ c, y ≠ z ∧ -y ∉ proc ∧ -z ∉ proc := by
  unfold cnt at h
  have hnf := hn.filter (fun y => !decide (-y ∈ proc))
  generalize hl : (c.filter fun y => !decide (-y ∈ proc)) = l at h hnf
  match l, h, hnf with
  | y :: z :: r, _, hnf =>
    have hy : y ∈ c.filter fun y => !decide (-y ∈ proc) := by rw [hl]; simp
    have hz : z ∈ c.filter fun y => !decide (-y ∈ proc) := by rw [hl]; simp
    rw [List.mem_filter] at hy hz
    refine ⟨y, hy.1, z, hz.1, ?_, by simpa using hy.2, by simpa using hz.2⟩
    intro e
    subst e
    simp at hnf
theorem cnt_nil (c : List Int) : cnt [] c = c.length := by
  unfold cnt
  rw [List.filter_eq_self.2 (fun a _ => by simp)]
theorem cnt_same {proc c : List Int} {x : Int} (h : -x ∉ c) : cnt (proc ++ [x]) c = cnt proc c := by
  unfold cnt
  congr 1
  refine List.filter_congr fun y hy => ?_
  have : ¬ -y = x := fun e => h (by rw [← e, Int.neg_neg]; exact hy)
  simp [this]
theorem cnt_less {proc : List Int} {x : Int} (hx : x ∉ proc) : ∀ {c : List Int}, c.Nodup → -x ∈ c → cnt (proc ++ [x]) c + 1 = cnt proc c
  | [], _, h => by simp at h
  | y :: c, hn, h => by
    have hn' := List.nodup_cons.1 hn
    have hc : ∀ (q : List Int), cnt q (y :: c) = (if -y ∈ q then 0 else 1) + cnt q c := by
      intro q
      unfold cnt
      rw [List.filter_cons]
      by_cases hq : -y ∈ q
      · simp [hq]
      · simp [hq]; omega
    rw [hc, hc]
    by_cases e : y = -x
    · subst e
      have h1 : - -x ∈ proc ++ [x] := by simp
      have h2 : ¬ - -x ∈ proc := by rw [Int.neg_neg]; exact hx
      rw [if_pos h1, if_neg h2, cnt_same hn'.1]; omega
    · have h1 : -x ∈ c := by rcases List.mem_cons.1 h with h | h; exact absurd h.symm e; exact h
      have ih := cnt_less hx hn'.2 h1
      have h2 : (-y ∈ proc ++ [x]) ↔ (-y ∈ proc) := by
        rw [List.mem_append, List.mem_singleton]
        exact ⟨fun h => h.elim id (fun h => absurd (show y = -x by omega) e), Or.inl⟩
      by_cases hq : -y ∈ proc
      · rw [if_pos (h2.2 hq), if_pos hq]; omega
      · rw [if_neg (fun h => hq (h2.1 h)), if_neg hq]; omega
def WW (proc c val : List Int) (fails : Bool) : Prop := cnt proc c < 2 → fails = true ∨ ∃ y ∈ c, -y ∉ proc ∧ gv val y ≠ some 0
theorem WW.mono {proc c val lst val' lst' : List Int} {fails fails' : Bool} (h : WW proc c val fails) (k : Ext val lst fails val' lst' fails') : WW proc c val' fails' := fun hc => by
  rcases h hc with e | ⟨y, hy, h1, h2⟩
  · exact Or.inl (k.fl e)
  · exact Or.inr ⟨y, hy, h1, by rw [k.val y h2]; exact h2⟩
theorem WW.same {proc c val : List Int} {fails : Bool} {x : Int} (hx : -x ∉ c) (h : WW proc c val fails) : WW (proc ++ [x]) c val fails := fun hc => by
  rw [cnt_same hx] at hc
  rcases h hc with e | ⟨y, hy, h1, h2⟩
  · exact Or.inl e
  · refine Or.inr ⟨y, hy, fun h => ?_, h2⟩
    rcases List.mem_append.1 h with h | h
    · exact h1 h
    · exact hx (by rw [← List.mem_singleton.1 h, Int.neg_neg]; exact hy)
theorem look_ok {n : Int} {S : List Int} {p : PSet} (hL : Lits n p.f.clauses S) (h : PSt n p.f.clauses S p.value p.list p.fails) {i : Int} {c : List Int} (hi : idx p.f.clauses i = some c) {proc : List Int} (hp : ∀ x ∈ proc, x ∈ p.list) (hl : idx p.left i = some (cnt proc c : Int)) (hcl : c.length ≤ 4294967296) :
    ∃ p', m_cnf_set_look p i = some p' ∧ p'.f = p.f ∧ p'.places = p.places ∧ p'.left = p.left ∧ PSt n p.f.clauses S p'.value p'.list p'.fails ∧ Ext p.value p.list p.fails p'.value p'.list p'.fails ∧ WW proc c p'.value p'.fails := by
  have hcm : c ∈ p.f.clauses := mem_get (idx_some hi).2.2
  have hnn := hL.nn
  by_cases h0 : cnt proc c = 0
  · refine ⟨⟨p.f, p.value, p.places, p.left, p.list, true⟩, ?_, rfl, rfl, rfl, ⟨h.vok, h.mem, h.nd, fun _ => Or.inr ⟨c, hcm, fun y hy => ?_⟩, h.len⟩, ⟨⟨[], by simp⟩, fun _ _ => rfl, fun _ => rfl⟩, fun _ => Or.inl rfl⟩
    · simp only [m_cnf_set_look, hl, bsm, h0]; rfl
    · exact (h.lit hL (hp _ (cnt_zero h0 y hy))).2.2
  · by_cases h1 : cnt proc c = 1
    · obtain ⟨y0, hy0, hy1, hy2⟩ := cnt_one h1
      have hscan := scan_loop (body := fun s => m_cnf_set_look_lp1 p c s) c (fun y => !decide (gv p.value y = some (-y))) (fun k y => match m_cnf_set_add p y with | some x7 => Out.ret (PSet.mk p.f x7.value p.places x7.left x7.list x7.fails) | none => Out.brk ()) (Out.brk ()) ?_ ?_
      · rcases hscan with ⟨k, y, a1, a2, _, _, _, e⟩ | ⟨a1, _, _, e⟩
        · have hyc := mem_get a1
          have a2 : gv p.value y ≠ some (-y) := by simpa using a2
          have hyp : -y ∉ proc := fun hq => a2 (by rw [← gv_neg]; exact ((h.mem _).1 (hp _ hq)).2)
          have hyu : UP p.f.clauses S y := by
            refine UP.unit hcm hyc fun z hz hzy => ?_
            have : -z ∈ proc := Decidable.byContradiction fun hq => hzy ((hy2 z hz hq).trans (hy2 y hyc hyp).symm)
            exact (h.lit hL (hp _ this)).2.2
          obtain ⟨p', b1, b2, b3, b4, b5, b6, b7, _⟩ := add_ok hL h hyu
          rw [b1] at e
          refine ⟨⟨p.f, p'.value, p.places, p'.left, p'.list, p'.fails⟩, ?_, rfl, rfl, b4, b5, b6, fun _ => Or.inr ⟨y, hyc, hyp, b7⟩⟩
          simp only [m_cnf_set_look, hl, bsm, h1, hi, e]; rfl
        · refine ⟨p, ?_, rfl, rfl, rfl, h, Ext.rf _ _ _, fun _ => Or.inr ⟨y0, hy0, hy1, ?_⟩⟩
          · simp only [m_cnf_set_look, hl, bsm, h1, hi, e]; rfl
          · have := a1 y0 hy0
            have : gv p.value y0 = some (-y0) := by simpa using this
            rw [this]
            intro e
            exact (hL.cl c hcm y0 hy0).1 (by have := Option.some.inj e; omega)
      · intro k y hk
        have hkl := len_lt hk
        obtain ⟨g0, g1⟩ := hL.cl c hcm y (mem_get hk)
        have gb := vr_le.1 g1
        obtain ⟨x, hx1, hx2, hx3⟩ := h.vok.get g1
        have e1 : inK .i64 (0 - y) = some (-y) := inK_at (by omega) ⟨by omega, by omega⟩
        simp only [m_cnf_set_look_lp1, ltB hkl, if_true, idx_nat hk, bsm, var_ok (show -9223372036854775807 ≤ y ∧ y ≤ 9223372036854775807 by omega), hx2, e1, inK_up hkl (show c.length ≤ 9223372036854775807 by omega), hx1]
        by_cases hxy : x = -y
        · simp [hxy]
        · have hne : ¬ some x = some (-y) := fun e => hxy (Option.some.inj e)
          simp only [hxy, hne, decide_false, Bool.not_false, if_true]
          have hsome : ∃ q, m_cnf_set_add p y = some q := by
            have happ : app p.list [y] = some (p.list ++ [y]) := app_ok (by have := h.len; simp; omega)
            simp only [m_cnf_set_add, var_ok (show -9223372036854775807 ≤ y ∧ y ≤ 9223372036854775807 by omega), bsm, hx2, happ, e1]
            split
            · exact ⟨_, rfl⟩
            · split <;> exact ⟨_, rfl⟩
          obtain ⟨q, hq⟩ := hsome
          simp only [hq, bsm]
      · simp only [m_cnf_set_look_lp1, ltB', if_false, Bool.false_eq_true]
    · refine ⟨p, ?_, rfl, rfl, rfl, h, Ext.rf _ _ _, fun hc => by omega⟩
      have c0 : ¬ (cnt proc c : Int) = 0 := by omega
      have c1 : ¬ (cnt proc c : Int) = 1 := by omega
      simp only [m_cnf_set_look, hl, bsm, c0, c1, decide_false, Bool.false_eq_true, if_false]
def idxL (l : Int) : Int := if l < 0 then -2 * l + 1 else 2 * l
theorem index_ok {l : Int} (h : -1099511627776 ≤ l ∧ l ≤ 1099511627776) : m_cnf_index l = some (idxL l) := by
  unfold m_cnf_index idxL
  by_cases h0 : l < 0
  · rw [if_pos (by simpa using h0), if_pos h0, inK_eq ⟨by omega, by omega⟩, bsm, inK_eq ⟨by omega, by omega⟩, bsm]
  · rw [if_neg (by simpa using h0), if_neg h0, inK_eq ⟨by omega, by omega⟩, bsm]
theorem idxL_inj {l m : Int} (h : idxL l = idxL m) (h0 : l ≠ 0) : l = m := by
  unfold idxL at h
  split at h <;> split at h <;> omega
theorem idxL_bnd {l n : Int} (h : -n ≤ l ∧ l ≤ n) : 0 ≤ idxL l ∧ idxL l < 2 * n + 2 := by
  unfold idxL; split <;> omega
structure Tab (n : Int) (F : List (List Int)) (k : Nat) (c : List Int) (tab : List (List Int)) : Prop where
  len : (tab.length : Int) = 2 * n + 2
  at_ : ∀ l, l ≠ 0 → vr l ≤ n → ∃ ps, tab[(idxL l).toNat]? = some ps ∧ ps.Nodup ∧ ps.length ≤ k + 1 ∧ (∀ i, i ∈ ps ↔ ((∃ (j : Nat) (d : List Int), i = (j : Int) ∧ j < k ∧ F[j]? = some d ∧ l ∈ d) ∨ (i = (k : Int) ∧ l ∈ c)))
theorem tab_lp2 {n : Int} {F : List (List Int)} {S : List Int} (hL : Lits n F S) {k : Nat} {c : List Int} (hk : F[k]? = some c) (hc : c.length ≤ 4294967296) (hkb : k ≤ 262144) {tab : List (List Int)} (h : Tab n F k [] tab) :
    ∃ b, loopM (fun s : Int × List (List Int) => m_cnf_Propagate_lp2 (k : Int) c s.1 s.2) (0, tab) = some b ∧ Tab n F k c b := by
  have hnn := hL.nn
  refine loopN (body := fun s : Int × List (List Int) => m_cnf_Propagate_lp2 (k : Int) c s.1 s.2) c.length (fun j t => ((j : Int), t)) (fun j t => Tab n F k (c.take j) t) (fun b => Tab n F k c b) (t0 := tab) rfl (by simpa using h) ?_ ?_
  · intro j t hj hT
    obtain ⟨y, hy⟩ := get_of_lt hj
    obtain ⟨y0, yn⟩ := hL.cl c (mem_get hk) y (mem_get hy)
    have yb := vr_le.1 yn
    have hib := idxL_bnd yb
    obtain ⟨ps, hps, hnd, hpl, hpm⟩ := hT.at_ y y0 yn
    have hyt : y ∉ c.take j := by
      intro hm
      have := hL.nd c (mem_get hk)
      rw [← List.take_append_drop j c, drop_cons_of hy] at this
      exact (List.nodup_append.1 this).2.2 y hm y (List.mem_cons_self ..) rfl
    refine Or.inl ⟨t.set (idxL y).toNat (ps ++ [(k : Int)]), ?_, ?_⟩
    · simp only [m_cnf_Propagate_lp2, ltB hj, if_true, idx_nat hy, bsm, index_ok (show -1099511627776 ≤ y ∧ y ≤ 1099511627776 by omega), idx_of hib.1 hps, app_ok (show ps.length + [(k : Int)].length ≤ 4294967296 by simp; omega), inK_up hj (show c.length ≤ 9223372036854775807 by omega), guardEq, if_true]
    · refine ⟨by rw [List.length_set]; exact hT.len, fun l l0 ln => ?_⟩
      have hlb := idxL_bnd (vr_le.1 ln)
      have hlen := hT.len
      by_cases e : l = y
      · subst e
        refine ⟨ps ++ [(k : Int)], ?_, ?_, ?_, fun i => ?_⟩
        · rw [List.getElem?_set, if_pos rfl, if_pos (by omega)]
        · refine List.nodup_append.2 ⟨hnd, by simp, fun a ha b hb e => ?_⟩
          obtain rfl := List.mem_singleton.1 hb
          subst e
          rcases (hpm _).1 ha with ⟨j', d, e1, e2, _⟩ | ⟨_, h2⟩
          · omega
          · exact hyt h2
        ·
          have hlt : ∀ a ∈ ps, 0 ≤ a ∧ a < (k : Int) := fun a ha => by
            rcases (hpm a).1 ha with ⟨j', d, e1, e2, _⟩ | ⟨_, h2⟩
            · omega
            · exact absurd h2 hyt
          have hle : ps.length ≤ k := by
            have hsub : ∀ (m : Nat) (q : List Int), q.Nodup → (∀ a ∈ q, 0 ≤ a ∧ a < (m : Int)) → q.length ≤ m := by
              intro m
              induction m with
              | zero => intro q _ hq; cases q with | nil => simp | cons a q => have := hq a (List.mem_cons_self ..); omega
              | succ m ih =>
                intro q hq hb
                have h1 := ih (q.filter fun a => decide (a ≠ (m : Int))) (hq.filter _) (fun a ha => by
                  rw [List.mem_filter] at ha
                  have := hb a ha.1
                  have : a ≠ (m : Int) := by simpa using ha.2
                  omega)
                have h2 : ∀ (q : List Int), q.Nodup → q.length ≤ (q.filter fun a => decide (a ≠ (m : Int))).length + 1 := by
                  intro q
                  induction q with
                  | nil => intro _; simp
                  | cons a q ih =>
                    intro hn
                    have hn' := List.nodup_cons.1 hn
                    rw [List.filter_cons]
                    by_cases e : a = (m : Int)
                    · have : q.filter (fun a => decide (a ≠ (m : Int))) = q := List.filter_eq_self.2 fun b hb => by
                        have : b ≠ (m : Int) := fun e' => hn'.1 (by rw [e, ← e']; exact hb)
                        simpa using this
                      rw [if_neg (by simp [e]), this]; simp
                    · rw [if_pos (by simpa using e)]
                      have := ih hn'.2
                      simp only [List.length_cons]; omega
                have := h2 q hq
                omega
            exact hsub k ps hnd hlt
          simp; omega
        · rw [List.mem_append, List.mem_singleton, hpm, take_snoc_of hy]
          constructor
          · rintro ((h | ⟨h1, h2⟩) | h)
            · exact Or.inl h
            · exact Or.inr ⟨h1, List.mem_append_left _ h2⟩
            · exact Or.inr ⟨h, by simp⟩
          · rintro (h | ⟨h1, h2⟩)
            · exact Or.inl (Or.inl h)
            · exact Or.inr h1
      · obtain ⟨qs, hq1, hq2, hq3, hq4⟩ := hT.at_ l l0 ln
        refine ⟨qs, ?_, hq2, hq3, fun i => ?_⟩
        · rw [List.getElem?_set, if_neg ?_]
          · exact hq1
          · intro e2
            exact e (idxL_inj (by omega) l0)
        · rw [hq4, take_snoc_of hy, List.mem_append, List.mem_singleton]
          constructor
          · rintro (h | ⟨h1, h2⟩)
            · exact Or.inl h
            · exact Or.inr ⟨h1, Or.inl h2⟩
          · rintro (h | ⟨h1, h2 | h2⟩)
            · exact Or.inl h
            · exact Or.inr ⟨h1, h2⟩
            · exact absurd h2 e
  · intro t hT
    refine ⟨t, ?_, ?_⟩
    · simp only [m_cnf_Propagate_lp2, ltB', if_false, Bool.false_eq_true]
    · rw [List.take_length] at hT; exact hT
theorem Tab.next {n : Int} {F : List (List Int)} {k : Nat} {c : List Int} {tab : List (List Int)} (h : Tab n F k c tab) (hk : F[k]? = some c) : Tab n F (k + 1) [] tab := by
  refine ⟨h.len, fun l l0 ln => ?_⟩
  obtain ⟨ps, h1, h2, h3, h4⟩ := h.at_ l l0 ln
  refine ⟨ps, h1, h2, by omega, fun i => ?_⟩
  rw [h4]
  constructor
  · rintro (⟨j, d, a, b, e⟩ | ⟨a, b⟩)
    · exact Or.inl ⟨j, d, a, by omega, e⟩
    · exact Or.inl ⟨k, c, a, by omega, hk, b⟩
  · rintro (⟨j, d, a, b, e1, e2⟩ | ⟨_, b⟩)
    · by_cases e : j = k
      · subst e; rw [hk] at e1; obtain rfl := Option.some.inj e1; exact Or.inr ⟨a, e2⟩
      · exact Or.inl ⟨j, d, a, by omega, e1, e2⟩
    · simp at b
theorem tab_lp1 {f : Formula} {S : List Int} (hL : Lits f.vars f.clauses S) (hlen : f.clauses.length ≤ 262144) (hl : ∀ c ∈ f.clauses, c.length ≤ 4294967296) :
    ∃ b, loopM (fun s : Int × List Int × List (List Int) => m_cnf_Propagate_lp1 f s.1 s.2.1 s.2.2) (0, [], List.replicate (2 * f.vars + 2).toNat []) = some b ∧ b.1 = f.clauses.map (fun c => (c.length : Int)) ∧ Tab f.vars f.clauses f.clauses.length [] b.2 := by
  have hnn := hL.nn
  refine loopN (body := fun s : Int × List Int × List (List Int) => m_cnf_Propagate_lp1 f s.1 s.2.1 s.2.2) f.clauses.length (fun k t => ((k : Int), t.1, t.2)) (fun k t => t.1 = (f.clauses.take k).map (fun c => (c.length : Int)) ∧ Tab f.vars f.clauses k [] t.2) _ (t0 := ([], List.replicate (2 * f.vars + 2).toNat [])) rfl ⟨rfl, ?_⟩ ?_ ?_
  · refine ⟨by rw [List.length_replicate]; omega, fun l l0 ln => ⟨[], ?_, List.nodup_nil, by simp, fun i => ?_⟩⟩
    · have := idxL_bnd (vr_le.1 ln)
      rw [List.getElem?_replicate, if_pos (by omega)]
    · simp
  · rintro k ⟨left, tab⟩ hk ⟨h1, h2⟩
    simp only at h1 h2
    obtain ⟨c, hc⟩ := get_of_lt hk
    obtain ⟨b, hb, hT⟩ := tab_lp2 hL hc (hl c (mem_get hc)) (by omega) h2
    refine Or.inl ⟨(left ++ [(c.length : Int)], b), ?_, ?_, hT.next hc⟩
    · have hll : left.length ≤ 262144 := by rw [h1, List.length_map, List.length_take]; omega
      simp only [m_cnf_Propagate_lp1, ltB hk, if_true, idx_nat hc, bsm, app_ok (show left.length + [(c.length : Int)].length ≤ 4294967296 by simp; omega), hb, inK_up hk (show f.clauses.length ≤ 9223372036854775807 by omega)]
    · simp only
      rw [h1, take_snoc_of hc, List.map_append]; rfl
  · rintro ⟨left, tab⟩ ⟨h1, h2⟩
    refine ⟨(left, tab), ?_, ?_, h2⟩
    · simp only [m_cnf_Propagate_lp1, ltB', if_false, Bool.false_eq_true]
    · rw [List.take_length] at h1; exact h1
abbrev LT := List Int × List Int × Bool × List Int
def LP (n : Int) (F : List (List Int)) (S : List Int) (t : LT) : Prop := PSt n F S t.2.2.2 t.1 t.2.2.1
def LE (t u : LT) : Prop := Ext t.2.2.2 t.1 t.2.2.1 u.2.2.2 u.1 u.2.2.1
theorem LE.rf (t : LT) : LE t t := Ext.rf _ _ _
theorem start_mono {val lst val' lst' : List Int} {fa fa' : Bool} {y : Int} (h0 : y ≠ 0) (h : gv val y = some y ∨ fa = true) (k : Ext val lst fa val' lst' fa') : gv val' y = some y ∨ fa' = true := by
  rcases h with h | h
  · left
    rw [k.val y (by rw [h]; intro e; exact h0 (Option.some.inj e))]; exact h
  · exact Or.inr (k.fl h)
theorem prop_lp3 {f : Formula} {S : List Int} (hL : Lits f.vars f.clauses S) (hS : S.length ≤ 4294967296) (b5 : List Int × List (List Int)) {t0 : LT} (h0 : LP f.vars f.clauses S t0) :
    ∃ t, loopM (fun s : Int × LT => m_cnf_Propagate_lp3 f S b5 s.1 s.2.1 s.2.2.1 s.2.2.2.1 s.2.2.2.2) (0, t0) = some t ∧ LP f.vars f.clauses S t ∧ t.2.1 = t0.2.1 ∧ ∀ x ∈ S, gv t.2.2.2 x = some x ∨ t.2.2.1 = true := by
  refine loopN (body := fun s : Int × LT => m_cnf_Propagate_lp3 f S b5 s.1 s.2.1 s.2.2.1 s.2.2.2.1 s.2.2.2.2) S.length (fun k t => ((k : Int), t)) (fun k t => LP f.vars f.clauses S t ∧ t.2.1 = t0.2.1 ∧ ∀ j x, j < k → S[j]? = some x → gv t.2.2.2 x = some x ∨ t.2.2.1 = true) _ (t0 := t0) rfl ⟨h0, rfl, fun j x hj => by omega⟩ ?_ ?_
  · rintro k ⟨li, le, fa, va⟩ hk ⟨h1, h2, h3⟩
    obtain ⟨x, hx⟩ := get_of_lt hk
    obtain ⟨p', a1, a2, a3, a4, a5, a6, _, a7⟩ := add_ok hL (p := ⟨f, va, b5.2, le, li, fa⟩) h1 (UP.start (mem_get hx))
    refine Or.inl ⟨(p'.list, p'.left, p'.fails, p'.value), ?_, a5, ?_, fun j y hj hy => ?_⟩
    · simp only [m_cnf_Propagate_lp3, ltB hk, if_true, idx_nat hx, bsm, a1, inK_up hk (show S.length ≤ 9223372036854775807 by omega)]
    · show p'.left = _; rw [a4]; exact h2
    · by_cases e : j = k
      · subst e; rw [hx] at hy; obtain rfl := Option.some.inj hy; exact a7
      · exact start_mono (hL.st y (mem_get hy)).1 (h3 j y (by omega) hy) a6
  · rintro ⟨li, le, fa, va⟩ ⟨h1, h2, h3⟩
    refine ⟨(li, le, fa, va), ?_, h1, h2, fun x hx => ?_⟩
    · simp only [m_cnf_Propagate_lp3, ltB', if_false, Bool.false_eq_true]
    · obtain ⟨j, hj⟩ := List.getElem?_of_mem hx
      exact h3 j x (len_lt hj) hj
def LeftOk (F : List (List Int)) (proc : Int → List Int) (left : List Int) : Prop := left.length = F.length ∧ ∀ (i : Nat) c, F[i]? = some c → left[i]? = some (cnt (proc i) c : Int)
theorem prop_lp4 {f : Formula} {S : List Int} (hL : Lits f.vars f.clauses S) (hlen : f.clauses.length ≤ 262144) (hl : ∀ c ∈ f.clauses, c.length ≤ 4294967296) (b5 : List Int × List (List Int)) {t0 : LT} (h0 : LP f.vars f.clauses S t0) (hleft : LeftOk f.clauses (fun _ => []) t0.2.1) :
    ∃ t, loopM (fun s : Int × LT => m_cnf_Propagate_lp4 f b5 s.1 s.2.1 s.2.2.1 s.2.2.2.1 s.2.2.2.2) (0, t0) = some t ∧ LP f.vars f.clauses S t ∧ LE t0 t ∧ t.2.1 = t0.2.1 ∧ ∀ c ∈ f.clauses, WW [] c t.2.2.2 t.2.2.1 := by
  refine loopN (body := fun s : Int × LT => m_cnf_Propagate_lp4 f b5 s.1 s.2.1 s.2.2.1 s.2.2.2.1 s.2.2.2.2) f.clauses.length (fun k t => ((k : Int), t)) (fun k t => LP f.vars f.clauses S t ∧ LE t0 t ∧ t.2.1 = t0.2.1 ∧ ∀ j c, j < k → f.clauses[j]? = some c → WW [] c t.2.2.2 t.2.2.1) _ (t0 := t0) rfl ⟨h0, LE.rf _, rfl, fun j x hj => by omega⟩ ?_ ?_
  · rintro k ⟨li, le, fa, va⟩ hk ⟨h1, h2, h3, h4⟩
    simp only at h3
    obtain ⟨c, hc⟩ := get_of_lt hk
    have hle : le[k]? = some (cnt [] c : Int) := by rw [h3]; exact hleft.2 k c hc
    by_cases h2c : (cnt [] c : Int) < 2
    · obtain ⟨p', a1, a2, a3, a4, a5, a6, a7⟩ := look_ok (p := ⟨f, va, b5.2, le, li, fa⟩) hL h1 (idx_nat hc) (proc := []) (by simp) (idx_nat hle) (hl c (mem_get hc))
      refine Or.inl ⟨(p'.list, p'.left, p'.fails, p'.value), ?_, a5, Ext.tr h2 a6, ?_, fun j d hj hd => ?_⟩
      · simp only [m_cnf_Propagate_lp4, ltB hk, if_true, idx_nat hle, bsm, h2c, decide_true, a1, inK_up hk (show f.clauses.length ≤ 9223372036854775807 by omega)]
      · show p'.left = _; rw [a4]; exact h3
      · by_cases e : j = k
        · subst e; rw [hc] at hd; obtain rfl := Option.some.inj hd; exact a7
        · exact (h4 j d (by omega) hd).mono a6
    · refine Or.inl ⟨(li, le, fa, va), ?_, h1, h2, h3, fun j d hj hd => ?_⟩
      · simp only [m_cnf_Propagate_lp4, ltB hk, if_true, idx_nat hle, bsm, h2c, decide_false, Bool.false_eq_true, if_false, inK_up hk (show f.clauses.length ≤ 9223372036854775807 by omega)]
      · by_cases e : j = k
        · subst e; rw [hc] at hd; obtain rfl := Option.some.inj hd; intro hh; omega
        · exact h4 j d (by omega) hd
  · rintro ⟨li, le, fa, va⟩ ⟨h1, h2, h3, h4⟩
    refine ⟨(li, le, fa, va), ?_, h1, h2, h3, fun c hc => ?_⟩
    · simp only [m_cnf_Propagate_lp4, ltB', if_false, Bool.false_eq_true]
    · obtain ⟨j, hj⟩ := List.getElem?_of_mem hc
      exact h4 j c (len_lt hj) hj
def procI (proc : List Int) (x : Int) (q : List Int) (i : Int) : List Int := if i ∈ q then proc else proc ++ [x]
theorem pI_y {proc q : List Int} {x i : Int} (h : i ∈ q) : procI proc x q i = proc := if_pos h
theorem pI_n {proc q : List Int} {x i : Int} (h : i ∉ q) : procI proc x q i = proc ++ [x] := if_neg h
theorem prop_lp6 {f : Formula} {S : List Int} (hL : Lits f.vars f.clauses S) (hlen : f.clauses.length ≤ 262144) (hl : ∀ c ∈ f.clauses, c.length ≤ 4294967296) (b5 : List Int × List (List Int)) {t0 : LT} (h0 : LP f.vars f.clauses S t0)
    {proc : List Int} {x : Int} (hx : x ∉ proc) (hpx : ∀ y ∈ proc ++ [x], y ∈ t0.1) {ps : List Int} (hnd : ps.Nodup) (hpl : ps.length ≤ 4294967296) (hps : ∀ i, i ∈ ps ↔ ∃ (j : Nat) (d : List Int), i = (j : Int) ∧ f.clauses[j]? = some d ∧ -x ∈ d)
    (hleft : LeftOk f.clauses (fun _ => proc) t0.2.1) (hW : ∀ c ∈ f.clauses, WW proc c t0.2.2.2 t0.2.2.1) :
    ∃ t, loopM (fun s : Int × LT => m_cnf_Propagate_lp6 f b5 ps s.1 s.2.1 s.2.2.1 s.2.2.2.1 s.2.2.2.2) (0, t0) = some t ∧ LP f.vars f.clauses S t ∧ LE t0 t ∧ LeftOk f.clauses (fun _ => proc ++ [x]) t.2.1 ∧ ∀ c ∈ f.clauses, WW (proc ++ [x]) c t.2.2.2 t.2.2.1 := by
  have hno : ∀ (i : Nat) c, f.clauses[i]? = some c → (i : Int) ∉ ps → -x ∉ c := fun i c hc hi hm => hi ((hps _).2 ⟨i, c, rfl, hc, hm⟩)
  refine loopN (body := fun s : Int × LT => m_cnf_Propagate_lp6 f b5 ps s.1 s.2.1 s.2.2.1 s.2.2.2.1 s.2.2.2.2) ps.length (fun k t => ((k : Int), t))
    (fun k t => LP f.vars f.clauses S t ∧ LE t0 t ∧ LeftOk f.clauses (procI proc x (ps.drop k)) t.2.1 ∧ ∀ (j : Nat) c, f.clauses[j]? = some c → WW (procI proc x (ps.drop k) j) c t.2.2.2 t.2.2.1) _ (t0 := t0) rfl ⟨h0, LE.rf _, ⟨hleft.1, fun i c hc => ?_⟩, fun j c hc => ?_⟩ ?_ ?_
  · rw [List.drop_zero]
    by_cases hi : (i : Int) ∈ ps
    · rw [pI_y hi]; exact hleft.2 i c hc
    · rw [pI_n hi, cnt_same (hno i c hc hi)]; exact hleft.2 i c hc
  · rw [List.drop_zero]
    by_cases hi : (j : Int) ∈ ps
    · rw [pI_y hi]; exact hW c (mem_get hc)
    · rw [pI_n hi]; exact (hW c (mem_get hc)).same (hno j c hc hi)
  · rintro k ⟨li, le, fa, va⟩ hk ⟨h1, h2, h3, h4⟩
    simp only at h3 h4
    obtain ⟨i, hi⟩ := get_of_lt hk
    obtain ⟨i, d, rfl, hd, hxd⟩ := (hps i).1 (mem_get hi)
    have hdm := mem_get hd
    have hdrop := drop_cons_of hi
    have hmem : (i : Int) ∈ ps.drop k := by rw [hdrop]; exact List.mem_cons_self ..
    have hnmem : (i : Int) ∉ ps.drop (k + 1) := by
      have := hnd
      rw [← List.take_append_drop k ps, hdrop] at this
      exact (List.nodup_cons.1 (List.nodup_append.1 this).2.1).1
    have hother : ∀ j : Int, j ≠ (i : Int) → (j ∈ ps.drop k ↔ j ∈ ps.drop (k + 1)) := fun j hj => by rw [hdrop]; simp [hj]
    have hle : le[i]? = some (cnt proc d : Int) := by have := h3.2 i d hd; rwa [pI_y hmem] at this
    have hcl := cnt_less hx (hL.nd d hdm) hxd
    have hil := len_lt hle
    have e31 : inK .i64 ((cnt proc d : Int) - 1) = some (cnt (proc ++ [x]) d : Int) := inK_at (by omega) ⟨by omega, by
      have : cnt (proc ++ [x]) d ≤ d.length := by unfold cnt; exact List.length_filter_le ..
      have := hl d hdm
      omega⟩
    have hset : (le.set ((i : Int)).toNat (cnt (proc ++ [x]) d : Int))[i]? = some (cnt (proc ++ [x]) d : Int) := by
      rw [List.getElem?_set, if_pos (by omega), if_pos (by omega)]
    have hleft' : LeftOk f.clauses (procI proc x (ps.drop (k + 1))) (le.set ((i : Int)).toNat (cnt (proc ++ [x]) d : Int)) := by
      refine ⟨by rw [List.length_set]; exact h3.1, fun j c hc => ?_⟩
      by_cases e : j = i
      · subst e
        rw [hd] at hc
        obtain rfl := Option.some.inj hc
        rw [pI_n hnmem]; exact hset
      · rw [List.getElem?_set, if_neg (by omega), h3.2 j c hc]
        have := hother j (by omega)
        by_cases hj : (j : Int) ∈ ps.drop k
        · rw [pI_y hj, pI_y (this.1 hj)]
        · rw [pI_n hj, pI_n (fun h => hj (this.2 h))]
    by_cases h2c : (cnt (proc ++ [x]) d : Int) < 2
    · obtain ⟨p', a1, a2, a3, a4, a5, a6, a7⟩ := look_ok (p := ⟨f, va, b5.2, le.set ((i : Int)).toNat (cnt (proc ++ [x]) d : Int), li, fa⟩) hL h1 (idx_nat hd) (proc := proc ++ [x]) (fun y hy => by
        obtain ⟨m, hm⟩ := h2.app
        show y ∈ li
        have : li = t0.1 ++ m := hm
        rw [this]
        exact List.mem_append_left _ (hpx y hy)) (idx_nat hset) (hl d hdm)
      refine Or.inl ⟨(p'.list, p'.left, p'.fails, p'.value), ?_, a5, Ext.tr h2 a6, ?_, fun j c hc => ?_⟩
      · simp only [m_cnf_Propagate_lp6, ltB hk, if_true, idx_nat hi, idx_nat hle, bsm, e31, idx_nat hset, h2c, decide_true, a1, inK_up hk (show ps.length ≤ 9223372036854775807 by omega)]
      · show LeftOk _ _ p'.left; rw [a4]; exact hleft'
      · by_cases e : j = i
        · subst e
          rw [hd] at hc
          obtain rfl := Option.some.inj hc
          rw [pI_n hnmem]; exact a7
        · have h5 := (h4 j c hc).mono a6
          have := hother j (by omega)
          by_cases hj : (j : Int) ∈ ps.drop k
          · rw [pI_y hj] at h5; rw [pI_y (this.1 hj)]; exact h5
          · rw [pI_n hj] at h5; rw [pI_n (fun h => hj (this.2 h))]; exact h5
    · refine Or.inl ⟨(li, le.set ((i : Int)).toNat (cnt (proc ++ [x]) d : Int), fa, va), ?_, h1, h2, hleft', fun j c hc => ?_⟩
      · simp only [m_cnf_Propagate_lp6, ltB hk, if_true, idx_nat hi, idx_nat hle, bsm, e31, idx_nat hset, h2c, decide_false, Bool.false_eq_true, if_false, inK_up hk (show ps.length ≤ 9223372036854775807 by omega)]
      · by_cases e : j = i
        · subst e
          rw [hd] at hc
          obtain rfl := Option.some.inj hc
          rw [pI_n hnmem]; intro hh; omega
        · have h5 := h4 j c hc
          have := hother j (by omega)
          by_cases hj : (j : Int) ∈ ps.drop k
          · rw [pI_y hj] at h5; rw [pI_y (this.1 hj)]; exact h5
          · rw [pI_n hj] at h5; rw [pI_n (fun h => hj (this.2 h))]; exact h5
  · rintro ⟨li, le, fa, va⟩ ⟨h1, h2, h3, h4⟩
    simp only at h3 h4
    refine ⟨(li, le, fa, va), ?_, h1, h2, ?_, fun c hc => ?_⟩
    · simp only [m_cnf_Propagate_lp6, ltB', if_false, Bool.false_eq_true]
    · refine ⟨h3.1, fun i c hc => ?_⟩
      have := h3.2 i c hc
      rwa [List.drop_length, pI_n (by simp)] at this
    · obtain ⟨j, hj⟩ := List.getElem?_of_mem hc
      have := h4 j c hj
      rwa [List.drop_length, pI_n (by simp)] at this
theorem prop_lp5 {f : Formula} {S : List Int} (hL : Lits f.vars f.clauses S) (hlen : f.clauses.length ≤ 262144) (hl : ∀ c ∈ f.clauses, c.length ≤ 4294967296) (b5 : List Int × List (List Int)) (hT : Tab f.vars f.clauses f.clauses.length [] b5.2) {t0 : LT} (h0 : LP f.vars f.clauses S t0)
    (hs : ∀ x ∈ S, gv t0.2.2.2 x = some x ∨ t0.2.2.1 = true) (hleft : LeftOk f.clauses (fun _ => []) t0.2.1) (hW : ∀ c ∈ f.clauses, WW [] c t0.2.2.2 t0.2.2.1) :
    ∃ t, loopM (fun s : Int × LT => m_cnf_Propagate_lp5 f b5 s.1 s.2.1 s.2.2.1 s.2.2.2.1 s.2.2.2.2) (0, t0) = some t ∧ LP f.vars f.clauses S t ∧ (∀ x ∈ S, gv t.2.2.2 x = some x ∨ t.2.2.1 = true) ∧ (t.2.2.1 = true ∨ ∀ c ∈ f.clauses, WW t.1 c t.2.2.2 t.2.2.1) := by
  have hnn := hL.nn
  refine loopM_inv (body := fun s : Int × LT => m_cnf_Propagate_lp5 f b5 s.1 s.2.1 s.2.2.1 s.2.2.2.1 s.2.2.2.2)
    (fun s => ∃ k : Nat, s.1 = (k : Int) ∧ k ≤ s.2.1.length ∧ LP f.vars f.clauses S s.2 ∧ (∀ x ∈ S, gv s.2.2.2.2 x = some x ∨ s.2.2.2.1 = true) ∧ LeftOk f.clauses (fun _ => s.2.1.take k) s.2.2.1 ∧ ∀ c ∈ f.clauses, WW (s.2.1.take k) c s.2.2.2.2 s.2.2.2.1)
    (fun s => (f.vars + 2 - s.1).toNat) _ ?_ (0, t0) ⟨0, rfl, Nat.zero_le _, h0, hs, by simpa using hleft, by simpa using hW⟩
  rintro ⟨i, li, le, fa, va⟩ ⟨k, hi, hk, h1, h2, h3, h4⟩
  simp only at hi hk h2 h3 h4
  subst hi
  cases fa with
  | true =>
    refine Or.inr ⟨(li, le, true, va), ?_, h1, h2, Or.inl rfl⟩
    simp only [m_cnf_Propagate_lp5, Bool.not_true, Bool.and_false, if_false, Bool.false_eq_true]
  | false =>
    by_cases hkl : k < li.length
    · obtain ⟨x, hx⟩ := get_of_lt hkl
      obtain ⟨x0, xn, xu⟩ := h1.lit hL (mem_get hx)
      have xb := vr_le.1 xn
      have e26 : inK .i64 (0 - x) = some (-x) := inK_at (by omega) ⟨by omega, by omega⟩
      obtain ⟨ps, p1, p2, p3, p4⟩ := hT.at_ (-x) (by omega) (by rw [vr_neg]; exact xn)
      have hib := idxL_bnd (l := -x) (n := f.vars) (by omega)
      have hlen' := h1.len
      simp only at hlen'
      have hxp : x ∉ li.take k := by
        intro hm
        have hnd := h1.nd
        simp only at hnd
        rw [← List.take_append_drop k li, drop_cons_of hx, List.map_append] at hnd
        exact (List.nodup_append.1 hnd).2.2 _ (List.mem_map_of_mem hm) _ (List.mem_map_of_mem (List.mem_cons_self ..)) rfl
      have htake := take_snoc_of hx
      obtain ⟨t, q1, q2, q3, q4, q5⟩ := prop_lp6 hL hlen hl b5 h1 hxp (fun y hy => by
        show y ∈ li
        rw [← htake] at hy
        exact List.mem_of_mem_take hy) p2 (by omega) (fun i => by
        rw [p4]
        constructor
        · rintro (⟨j, d, a, b, c, e⟩ | ⟨_, h⟩)
          · exact ⟨j, d, a, c, e⟩
          · simp at h
        · rintro ⟨j, d, a, c, e⟩
          exact Or.inl ⟨j, d, a, len_lt c, c, e⟩) h3 h4
      have hk1 : inK .i64 ((k : Int) + 1) = some ((k + 1 : Nat) : Int) := inK_at rfl ⟨by omega, by omega⟩
      obtain ⟨m, hm⟩ := q3.app
      have hm : t.1 = li ++ m := hm
      have htk : t.1.take (k + 1) = li.take k ++ [x] := by
        rw [← htake, hm, List.take_append_of_le_length (by omega)]
      refine Or.inl ⟨(((k + 1 : Nat) : Int), t), ?_, ⟨k + 1, rfl, ?_, q2, fun y hy => ?_, ?_, ?_⟩, ?_⟩
      · simp only [m_cnf_Propagate_lp5, ltB hkl, Bool.not_false, Bool.and_true, if_true, idx_nat hx, bsm, e26, index_ok (show -1099511627776 ≤ -x ∧ -x ≤ 1099511627776 by omega), idx_of hib.1 p1]
        rw [q1, bsm, hk1, bsm]
      · show k + 1 ≤ t.1.length; rw [hm, List.length_append]; omega
      · exact start_mono (hL.st y hy).1 (h2 y hy) q3
      · show LeftOk _ (fun _ => t.1.take (k + 1)) _; rw [htk]; exact q4
      · show ∀ c ∈ f.clauses, WW (t.1.take (k + 1)) c _ _; rw [htk]; exact q5
      · show (f.vars + 2 - ((k + 1 : Nat) : Int)).toNat < (f.vars + 2 - (k : Int)).toNat
        omega
    · refine Or.inr ⟨(li, le, false, va), ?_, h1, h2, Or.inr ?_⟩
      · have : (decide ((k : Int) < (li.length : Int))) = false := by simpa using hkl
        simp only [m_cnf_Propagate_lp5, this, Bool.false_and, if_false, Bool.false_eq_true]
      · show ∀ c ∈ f.clauses, WW li c va false
        rw [List.take_of_length_le (by omega)] at h4
        exact h4
theorem sorted_inc {l : List Int} (h : (l.map vr).Nodup) : (l.mergeSort fun x y => !ltN y x).Pairwise fun x y => vr x < vr y := by
  have h1 := sortN_pair l
  have h2 : ((l.mergeSort fun x y => !ltN y x).map vr).Nodup := ((List.mergeSort_perm l _).map vr).nodup_iff.2 h
  have h3 : (l.mergeSort fun x y => !ltN y x).Pairwise fun x y => vr x ≠ vr y := List.pairwise_map.1 h2
  refine (h1.and h3).imp fun {a b} hab => ?_
  have := hab.1
  rw [ltN_iff] at this
  have := hab.2
  omega
theorem cnf_propagate {f : Formula} {S : List Int} (hl : FLen f.clauses) (hS : S.length ≤ 4294967296) (hSb : ∀ x ∈ S, -9223372036854775808 ≤ x ∧ x ≤ 9223372036854775807) (hc4 : ∀ c ∈ f.clauses, c.length ≤ 4294967296) : ∃ r, m_cnf_Propagate f S = some r ∧ PropOk f S r := by
  unfold m_cnf_Propagate
  rw [cnf_valid hl, bsm]
  by_cases hv : validB f = true
  · have hb := valid_bnd hv
    have hchk : m_slices_ContainsFunc_cnf_Propagate_1 S f = some (S.any fun x => !sOk f.vars x) := by
      unfold m_slices_ContainsFunc_cnf_Propagate_1 m_slices_IndexFunc_cnf_Propagate_1
      have h := scan_loop (body := fun s => m_slices_IndexFunc_cnf_Propagate_1_lp1 S f s) S (fun x => !sOk f.vars x) (fun k _ => Out.ret (k : Int)) (Out.brk ()) ?_ ?_
      · rcases h with ⟨k, a, _, _, _, h2, _, e⟩ | ⟨_, h2, _, e⟩
        · rw [e, h2, bsm]; simp
        · rw [e, h2, bsm]; simp
      · intro k a hk
        have hkl := len_lt hk
        have e1 : inK .i64 (0 - f.vars) = some (-f.vars) := inK_at (by omega) ⟨by omega, by omega⟩
        simp only [m_slices_IndexFunc_cnf_Propagate_1_lp1, m_cnf_Propagate_1, ltB hkl, if_true, idx_nat hk, bsm, e1, inK_up hkl (show S.length ≤ 9223372036854775807 by omega)]
        unfold sOk
        by_cases h0 : a = 0
        · simp [h0]
        · by_cases h1 : a < -f.vars
          · have : ¬ -f.vars ≤ a := by omega
            simp [h0, h1, this]
          · by_cases h2 : f.vars < a
            · have : ¬ a ≤ f.vars := by omega
              simp [h0, h1, h2, this]
            · have h3 : -f.vars ≤ a := by omega
              have h4 : a ≤ f.vars := by omega
              simp [h0, h1, h2, h3, h4]
      · simp only [m_slices_IndexFunc_cnf_Propagate_1_lp1, ltB', if_false, Bool.false_eq_true]
    rw [if_neg (by simp [hv]), hchk, bsm, bsm]
    by_cases hs : S.any (fun x => !sOk f.vars x) = true
    · rw [if_pos hs]
      refine ⟨_, rfl, ?_⟩
      unfold PropOk
      obtain ⟨x, hx, h⟩ := List.any_eq_true.1 hs
      rw [if_neg (fun h' => by have := h'.2 x hx; rw [this] at h; cases h)]
    · rw [if_neg hs]
      have hs' : ∀ x ∈ S, sOk f.vars x = true := fun x hx => by
        cases h : sOk f.vars x with
        | true => rfl
        | false => exact absurd (List.any_eq_true.2 ⟨x, hx, by simp [h]⟩) hs
      have hL := valid_lits hv hs'
      rw [inK_eq ⟨by omega, by omega⟩, bsm, mkc_ok ⟨by omega, by omega, by omega⟩, bsm, inK_eq ⟨by omega, by omega⟩, bsm, inK_eq ⟨by omega, by omega⟩, bsm, mkc_ok ⟨by omega, by omega, by omega⟩, bsm]
      obtain ⟨b5, g1, g2, g3⟩ := tab_lp1 hL hb.2.2.1 hc4
      rw [g1, bsm]
      have hz0 : zeros (List.replicate (f.vars + 1).toNat 0) = (f.vars + 1).toNat := by
        unfold zeros
        rw [List.filter_eq_self.2 (fun a ha => by simpa using List.eq_of_mem_replicate ha), List.length_replicate]
      have hp0 : LP f.vars f.clauses S ([], b5.1, false, List.replicate (f.vars + 1).toNat 0) := by
        refine ⟨valOk_init hL, fun x => ?_, List.nodup_nil, fun h => (by cases h), ?_⟩
        · constructor
          · intro h; cases h
          · rintro ⟨h0, h1⟩
            exact absurd (List.eq_of_mem_replicate (List.mem_of_getElem? h1)) h0
        · simp only [hz0, List.length_nil]; omega
      obtain ⟨t1, a1, a2, a3, a4⟩ := prop_lp3 hL hS b5 hp0
      have hleft : LeftOk f.clauses (fun _ => []) t1.2.1 := by
        rw [a3]
        simp only
        rw [g2]
        refine ⟨List.length_map .., fun i c hc => ?_⟩
        rw [List.getElem?_map, hc, cnt_nil]; rfl
      rw [show (loopM (fun s : Int × LT => m_cnf_Propagate_lp3 f S b5 s.1 s.2.1 s.2.2.1 s.2.2.2.1 s.2.2.2.2) (0, [], b5.1, false, List.replicate (f.vars + 1).toNat 0)) = some t1 from a1, bsm]
      obtain ⟨t2, c1, c2, c3, c4, c5⟩ := prop_lp4 hL hb.2.2.1 hc4 b5 a2 hleft
      rw [show (loopM (fun s : Int × LT => m_cnf_Propagate_lp4 f b5 s.1 s.2.1 s.2.2.1 s.2.2.2.1 s.2.2.2.2) (0, t1.1, t1.2.1, t1.2.2.1, t1.2.2.2)) = some t2 from c1, bsm]
      obtain ⟨t3, d1, d2, d3, d4⟩ := prop_lp5 hL hb.2.2.1 hc4 b5 g3 c2 (fun x hx => start_mono (hL.st x hx).1 (a4 x hx) c3) (by rw [c4]; exact hleft) c5
      rw [show (loopM (fun s : Int × LT => m_cnf_Propagate_lp5 f b5 s.1 s.2.1 s.2.2.1 s.2.2.2.1 s.2.2.2.2) (0, t2.1, t2.2.1, t2.2.2.1, t2.2.2.2)) = some t3 from d1, bsm]
      by_cases hf : t3.2.2.1 = true
      · rw [if_pos hf]
        refine ⟨_, rfl, ?_⟩
        unfold PropOk
        rw [if_pos ⟨hv, hs'⟩]
        exact ⟨rfl, Or.inr ⟨rfl, rfl, d2.fl hf⟩⟩
      · rw [if_neg hf]
        have hlen3 := d2.len
        have hso : m_sortV t3.1 = some (t3.1.mergeSort fun x y => !ltN y x) := by
          unfold m_sortV
          rw [if_pos ⟨by omega, mem_litOk fun x hx => by have := vr_le.1 (d2.lit hL hx).2.1; omega, d2.nd⟩]
        rw [hso, bsm]
        refine ⟨_, rfl, ?_⟩
        unfold PropOk
        rw [if_pos ⟨hv, hs'⟩]
        have hst : ∀ x ∈ S, gv t3.2.2.2 x = some x := fun x hx => (d3 x hx).resolve_right hf
        have hgood : ∀ c ∈ f.clauses, Good t3.2.2.2 c := by
          intro c hc
          have hW := d4.resolve_left hf c hc
          have hval : ∀ y ∈ c, -y ∉ t3.1 → gv t3.2.2.2 y = some 0 ∨ gv t3.2.2.2 y = some y := by
            intro y hy hn
            obtain ⟨y0, yn⟩ := hL.cl c hc y hy
            obtain ⟨x, e1, _, e3⟩ := d2.vok.get yn
            rcases e3 with e | e | e
            · exact Or.inl (e ▸ e1)
            · exact Or.inr (e ▸ e1)
            · exact absurd ((d2.mem _).2 ⟨by omega, by rw [gv_neg, e1, e]⟩) hn
          by_cases h2 : cnt t3.1 c < 2
          · rcases hW h2 with h | ⟨y, hy, h3, h4⟩
            · exact absurd h hf
            · exact Or.inl ⟨y, hy, (hval y hy h3).resolve_left h4⟩
          · obtain ⟨y, hy, z, hz, hyz, h3, h4⟩ := cnt_two (proc := t3.1) (hL.nd c hc) (by omega)
            rcases hval y hy h3 with h5 | h5
            · rcases hval z hz h4 with h6 | h6
              · exact Or.inr ⟨y, hy, z, hz, hyz, h5, h6⟩
              · exact Or.inl ⟨z, hz, h6⟩
            · exact Or.inl ⟨y, hy, h5⟩
        refine ⟨rfl, Or.inl ⟨rfl, closed_ok hL d2.vok hst hgood, sorted_inc d2.nd, fun x => ?_⟩⟩
        rw [List.mem_mergeSort, d2.mem]
        exact ⟨fun h => d2.vok.up h.1 h.2, fun h => ⟨(h.lit hL).1, closed_up hL d2.vok hst hgood h⟩⟩
  · rw [if_pos (by simp [hv]), bsm, if_pos rfl]
    refine ⟨_, rfl, ?_⟩
    unfold PropOk
    rw [if_neg (fun h => hv h.1)]
end Go.Proofs.YtelioaepnpnojaaGreatDoor

/- Numerals, and Format: the text of a formula. -/
set_option linter.unusedVariables false
set_option linter.unusedSimpArgs false
namespace Go.Proofs.YtelioaepnpnojaaGreatDoor
open Go.RowKit
def bs (l : List UInt8) : ByteArray := ⟨l.toArray⟩
theorem bs_data (l : List UInt8) : (bs l).data.toList = l := by simp [bs]
theorem bs_size (l : List UInt8) : (bs l).size = l.length := by simp [bs, ByteArray.size]
theorem bs_of (s : ByteArray) : bs s.data.toList = s := by obtain ⟨⟨l⟩⟩ := s; rfl
theorem bs_inj {l m : List UInt8} (h : bs l = bs m) : l = m := by rw [← bs_data l, h, bs_data]
theorem bs_app (l m : List UInt8) : bs l ++ bs m = bs (l ++ m) := by
  rw [← bs_of (bs l ++ bs m)]
  congr 1
theorem catK_bs {l m : List UInt8} (h : l.length + m.length ≤ 4294967296) : catK (bs l) (bs m) = some (bs (l ++ m)) := by
  rw [catK_ok (by rw [bs_size, bs_size]; exact h), bs_app]
theorem wstr_bs {l m : List UInt8} (h : l.length + m.length ≤ 4294967296) : m_WStr (bs l) (bs m) = some (bs (l ++ m)) := by
  unfold m_WStr
  rw [if_pos (by rw [bs_size, bs_size]; omega), bs_app]
open Go.Lib
theorem dd_small {u : Nat} (h : u < 10) : decDigits u = [UInt8.ofNat (48 + u)] := by rw [decDigits, dif_pos h]
theorem dd_big {u : Nat} (h : ¬ u < 10) : decDigits u = decDigits (u / 10) ++ [UInt8.ofNat (48 + u % 10)] := by rw [decDigits, dif_neg h]
theorem dig_nat {d : Nat} (h : d < 10) : (UInt8.ofNat (48 + d)).toNat = 48 + d := by
  rw [UInt8.toNat_ofNat']; omega
theorem dd_ind {p : Nat → Prop} (h1 : ∀ u, u < 10 → p u) (h2 : ∀ u, ¬ u < 10 → p (u / 10) → p u) : ∀ u, p u := by
  intro u
  induction u using Nat.strongRecOn with
  | _ u ih =>
    by_cases h : u < 10
    · exact h1 u h
    · exact h2 u h (ih _ (by omega))
theorem dd_digit : ∀ (u : Nat), ∀ b ∈ decDigits u, 48 ≤ b.toNat ∧ b.toNat ≤ 57 :=
  dd_ind (fun u h b hb => by
    rw [dd_small h, List.mem_singleton] at hb
    rw [hb, dig_nat h]; omega) (fun u h ih b hb => by
    rw [dd_big h, List.mem_append, List.mem_singleton] at hb
    rcases hb with hb | rfl
    · exact ih b hb
    · rw [dig_nat (by omega)]; omega)
theorem dd_ne (u : Nat) : decDigits u ≠ [] := by
  by_cases h : u < 10
  · rw [dd_small h]; simp
  · rw [dd_big h]; simp
def valD (n : Nat) (l : List UInt8) : Nat := l.foldl (fun n b => 10 * n + (b.toNat - 48)) n
theorem dd_val : ∀ u, valD 0 (decDigits u) = u :=
  dd_ind (fun u h => by rw [dd_small h]; simp only [valD, List.foldl_cons, List.foldl_nil, dig_nat h]; omega)
    (fun u h ih => by
      rw [dd_big h]
      unfold valD at *
      rw [List.foldl_append, ih]
      simp only [List.foldl_cons, List.foldl_nil, dig_nat (show u % 10 < 10 by omega)]
      omega)
theorem dd_len : ∀ (k u : Nat), u < 10 ^ (k + 1) → (decDigits u).length ≤ k + 1
  | 0, u, h => by rw [dd_small (by simpa using h)]; simp
  | k + 1, u, h => by
    by_cases h1 : u < 10
    · rw [dd_small h1]; simp
    · rw [dd_big h1, List.length_append]
      have := dd_len k (u / 10) (by rw [Nat.pow_succ] at h; omega)
      simp only [List.length_singleton]; omega
theorem itoa_len {n : Int} (h : -9223372036854775808 ≤ n ∧ n ≤ 9223372036854775807) : (itoa n).length ≤ 20 := by
  unfold itoa
  split
  · have := dd_len 18 n.natAbs (by omega)
    simp only [List.length_cons]; omega
  · have := dd_len 18 n.toNat (by omega)
    omega
theorem itoa_ok {n : Int} (h : -9223372036854775808 ≤ n ∧ n ≤ 9223372036854775807) : m_itoa n = some (bs (itoa n)) := by
  unfold m_itoa; rw [if_pos h]; rfl
def litL (l : Int) : List UInt8 := itoa l ++ [32]
def lineL (c : List Int) : List UInt8 := c.flatMap litL ++ [48, 10]
def headL (f : Formula) : List UInt8 := [112, 32, 99, 110, 102, 32] ++ itoa f.vars ++ [32] ++ itoa (f.clauses.length : Int) ++ [10]
def fmtL (f : Formula) : List UInt8 := headL f ++ f.clauses.flatMap lineL
def Fits (cs : List (List Int)) : Prop := cs.length ≤ 10000 ∧ ∀ c ∈ cs, c.length ≤ 10000
theorem I64b_lit {f : Formula} (hv : validB f = true) {c : List Int} (hc : c ∈ f.clauses) {l : Int} (hl : l ∈ c) : -9223372036854775808 ≤ l ∧ l ≤ 9223372036854775807 := by
  have := valid_lit hv hc hl
  have := valid_bnd hv
  omega
theorem litL_len {l : Int} (h : -9223372036854775808 ≤ l ∧ l ≤ 9223372036854775807) : (litL l).length ≤ 21 := by
  have := itoa_len h
  unfold litL; simp only [List.length_append, List.length_singleton]; omega
theorem lits_len {c : List Int} (h : ∀ l ∈ c, -9223372036854775808 ≤ l ∧ l ≤ 9223372036854775807) : (c.flatMap litL).length ≤ 21 * c.length := by
  induction c with
  | nil => simp
  | cons x c ih =>
    rw [List.flatMap_cons, List.length_append, List.length_cons]
    have := litL_len (h x (List.mem_cons_self ..))
    have := ih fun l hl => h l (List.mem_cons_of_mem _ hl)
    omega
theorem lineL_len {c : List Int} (h : ∀ l ∈ c, -9223372036854775808 ≤ l ∧ l ≤ 9223372036854775807) (hc : c.length ≤ 10000) : (lineL c).length ≤ 210002 := by
  have := lits_len h
  unfold lineL; simp only [List.length_append, List.length_cons, List.length_nil]; omega
theorem lines_len : ∀ {cs : List (List Int)}, (∀ c ∈ cs, c.length ≤ 10000 ∧ ∀ l ∈ c, -9223372036854775808 ≤ l ∧ l ≤ 9223372036854775807) → (cs.flatMap lineL).length ≤ 210002 * cs.length
  | [], _ => by simp
  | c :: cs, h => by
    rw [List.flatMap_cons, List.length_append, List.length_cons]
    have h1 := h c (List.mem_cons_self ..)
    have := lineL_len h1.2 h1.1
    have := lines_len (cs := cs) fun d hd => h d (List.mem_cons_of_mem _ hd)
    omega
theorem flatMap_take {α β : Type} (g : α → List β) {l : List α} {k : Nat} {a : α} (h : l[k]? = some a) : (l.take (k + 1)).flatMap g = (l.take k).flatMap g ++ g a := by
  rw [take_snoc_of h, List.flatMap_append]; simp
theorem headL_len {f : Formula} (h1 : -9223372036854775808 ≤ f.vars ∧ f.vars ≤ 9223372036854775807) (h2 : f.clauses.length ≤ 10000) : (headL f).length ≤ 50 := by
  have a := itoa_len h1
  have b := itoa_len (n := (f.clauses.length : Int)) ⟨by omega, by omega⟩
  unfold headL
  simp only [List.length_append, List.length_cons, List.length_nil]; omega
theorem head_cat {f : Formula} (h1 : -9223372036854775808 ≤ f.vars ∧ f.vars ≤ 9223372036854775807) (h2 : f.clauses.length ≤ 10000) :
    catK (ByteArray.mk #[112, 32, 99, 110, 102, 32]) (bs (itoa f.vars)) = some (bs ([112, 32, 99, 110, 102, 32] ++ itoa f.vars)) ∧
    catK (bs ([112, 32, 99, 110, 102, 32] ++ itoa f.vars)) (ByteArray.mk #[32]) = some (bs ([112, 32, 99, 110, 102, 32] ++ itoa f.vars ++ [32])) ∧
    catK (bs ([112, 32, 99, 110, 102, 32] ++ itoa f.vars ++ [32])) (bs (itoa (f.clauses.length : Int))) = some (bs ([112, 32, 99, 110, 102, 32] ++ itoa f.vars ++ [32] ++ itoa (f.clauses.length : Int))) ∧
    catK (bs ([112, 32, 99, 110, 102, 32] ++ itoa f.vars ++ [32] ++ itoa (f.clauses.length : Int))) (ByteArray.mk #[10]) = some (bs (headL f)) := by
  have a := itoa_len h1
  have b := itoa_len (n := (f.clauses.length : Int)) ⟨by omega, by omega⟩
  refine ⟨?_, ?_, ?_, ?_⟩
  · rw [show (ByteArray.mk #[112, 32, 99, 110, 102, 32]) = bs [112, 32, 99, 110, 102, 32] from rfl, catK_bs (by simp only [List.length_cons, List.length_nil]; omega)]
  · rw [show (ByteArray.mk #[32]) = bs [32] from rfl, catK_bs (by simp only [List.length_append, List.length_cons, List.length_nil]; omega)]
  · rw [catK_bs (by simp only [List.length_append, List.length_cons, List.length_nil]; omega)]
  · rw [show (ByteArray.mk #[10]) = bs [10] from rfl, catK_bs (by simp only [List.length_append, List.length_cons, List.length_nil]; omega)]; rfl
def fmtB (f : Formula) : ByteArray := if validB f = true then bs (fmtL f) else bs []
theorem fits_flen {cs : List (List Int)} (h : Fits cs) : FLen cs := ⟨by have := h.1; omega, fun c hc => by have := h.2 c hc; omega⟩
theorem cnf_line {x : List Int} (hc : x.length ≤ 10000) (h : ∀ l ∈ x, -9223372036854775808 ≤ l ∧ l ≤ 9223372036854775807) {acc : List UInt8} (ha : acc.length ≤ 2200000000) :
    loopM (fun s : Int × ByteArray => m_cnf_Format_lp2 x s.1 s.2) (0, bs acc) = some (bs (acc ++ x.flatMap litL)) := by
  have htl : ∀ k, ((x.take k).flatMap litL).length ≤ 210000 := fun k => by
    have := lits_len (c := x.take k) fun l hl => h l (List.mem_of_mem_take hl)
    have : (x.take k).length ≤ x.length := by rw [List.length_take]; omega
    omega
  have hloop : ∃ b, loopM (fun s : Int × ByteArray => m_cnf_Format_lp2 x s.1 s.2) (0, bs acc) = some b ∧ b = bs (acc ++ x.flatMap litL) := by
    refine loopN (body := fun s : Int × ByteArray => m_cnf_Format_lp2 x s.1 s.2) x.length (fun k t => ((k : Int), t)) (fun k t => t = bs (acc ++ (x.take k).flatMap litL)) _ (t0 := bs acc) rfl (by simp) ?_ ?_
    · rintro k t hk rfl
      obtain ⟨l, hx⟩ := get_of_lt hk
      have hb := h l (mem_get hx)
      have hl := itoa_len hb
      have := htl k
      refine Or.inl ⟨_, ?_, rfl⟩
      have e1 : catK (bs (itoa l)) (ByteArray.mk #[32]) = some (bs (litL l)) := by
        rw [show (ByteArray.mk #[32]) = bs [32] from rfl, catK_bs (by simp only [List.length_singleton]; omega)]; rfl
      have hll := litL_len hb
      have e2 : m_WStr (bs (acc ++ (x.take k).flatMap litL)) (bs (litL l)) = some (bs (acc ++ (x.take (k + 1)).flatMap litL)) := by
        rw [wstr_bs (by simp only [List.length_append]; omega), flatMap_take litL hx, List.append_assoc]
      simp only [m_cnf_Format_lp2, ltB hk, if_true, idx_nat hx, bsm, itoa_ok hb, e1, e2, inK_up hk (show x.length ≤ 9223372036854775807 by omega)]
    · rintro t rfl
      refine ⟨_, ?_, rfl⟩
      simp only [m_cnf_Format_lp2, ltB', if_false, Bool.false_eq_true, List.take_length]
  obtain ⟨b, hb, rfl⟩ := hloop
  exact hb
theorem cnf_format {f : Formula} (hf : Fits f.clauses) : m_cnf_Format f = some (fmtB f) := by
  unfold m_cnf_Format fmtB
  rw [cnf_valid (fits_flen hf), bsm]
  by_cases hv : validB f = true
  · rw [if_neg (by simp [hv]), if_pos hv]
    have hb := valid_bnd hv
    have hi : -9223372036854775808 ≤ f.vars ∧ f.vars ≤ 9223372036854775807 := by omega
    obtain ⟨e1, e2, e3, e4⟩ := head_cat hi hf.1
    have hh := headL_len hi hf.1
    have e5 : m_WStr ByteArray.empty (bs (headL f)) = some (bs (headL f)) := by
      rw [show ByteArray.empty = bs [] from rfl, wstr_bs (by simp only [List.length_nil]; omega)]; rfl
    rw [itoa_ok hi, bsm, e1, bsm, e2, bsm, itoa_ok ⟨by omega, by omega⟩, bsm, e3, bsm, e4, bsm, e5, bsm]
    have hcl : ∀ c ∈ f.clauses, c.length ≤ 10000 ∧ ∀ l ∈ c, -9223372036854775808 ≤ l ∧ l ≤ 9223372036854775807 := fun c hc => ⟨hf.2 c hc, fun l hl => I64b_lit hv hc hl⟩
    have htl : ∀ k, ((f.clauses.take k).flatMap lineL).length ≤ 2100020000 := fun k => by
      have := lines_len (cs := f.clauses.take k) fun c hc => hcl c (List.mem_of_mem_take hc)
      have : (f.clauses.take k).length ≤ f.clauses.length := by rw [List.length_take]; omega
      have := hf.1
      omega
    have hloop : ∃ b, loopM (fun s : Int × ByteArray => m_cnf_Format_lp1 f s.1 s.2) (0, bs (headL f)) = some b ∧ b = bs (fmtL f) := by
      refine loopN (body := fun s : Int × ByteArray => m_cnf_Format_lp1 f s.1 s.2) f.clauses.length (fun k t => ((k : Int), t)) (fun k t => t = bs (headL f ++ (f.clauses.take k).flatMap lineL)) _ (t0 := bs (headL f)) rfl (by simp) ?_ ?_
      · rintro k t hk rfl
        obtain ⟨x, hx⟩ := get_of_lt hk
        have hx2 := hcl x (mem_get hx)
        have hl := lits_len hx2.2
        have := htl k
        refine Or.inl ⟨_, ?_, rfl⟩
        have e5 : m_WStr (bs (headL f ++ (f.clauses.take k).flatMap lineL ++ x.flatMap litL)) (ByteArray.mk #[48, 10]) = some (bs (headL f ++ (f.clauses.take (k + 1)).flatMap lineL)) := by
          rw [show (ByteArray.mk #[48, 10]) = bs [48, 10] from rfl, wstr_bs (by simp only [List.length_append, List.length_cons, List.length_nil]; omega), flatMap_take lineL hx]
          unfold lineL
          simp only [List.append_assoc]
        simp only [m_cnf_Format_lp1, ltB hk, if_true, idx_nat hx, bsm, cnf_line hx2.1 hx2.2 (acc := headL f ++ (f.clauses.take k).flatMap lineL) (by simp only [List.length_append]; omega), e5, inK_up hk (show f.clauses.length ≤ 9223372036854775807 by omega)]
      · rintro t rfl
        refine ⟨_, ?_, rfl⟩
        simp only [m_cnf_Format_lp1, ltB', if_false, Bool.false_eq_true, List.take_length]
        rfl
    obtain ⟨b, hb2, rfl⟩ := hloop
    rw [hb2, bsm]
    unfold m_BStr
    rw [if_pos (by rw [bs_size]; unfold fmtL headL; simp), bsm]
  · rw [if_pos (by simp [hv]), if_neg hv]; rfl
end Go.Proofs.YtelioaepnpnojaaGreatDoor

/- The program's Parse: lines, words, numbers; it inverts Format. -/
set_option linter.unusedVariables false
set_option linter.unusedSimpArgs false
namespace Go.Proofs.YtelioaepnpnojaaGreatDoor
open Go.RowKit Go.Lib
def preC (c : UInt8) (l : List UInt8) : List UInt8 := l.takeWhile (· != c)
def rstC (c : UInt8) (l : List UInt8) : List UInt8 := (l.dropWhile (· != c)).drop 1
theorem preC_app {c : UInt8} : ∀ {x r : List UInt8}, c ∉ x → preC c (x ++ c :: r) = x ∧ rstC c (x ++ c :: r) = r
  | [], r, _ => by simp [preC, rstC]
  | b :: x, r, h => by
    have hb : (b != c) = true := by simp; intro e; exact h (by rw [e]; exact List.mem_cons_self ..)
    have := preC_app (c := c) (x := x) (r := r) (fun hm => h (List.mem_cons_of_mem _ hm))
    unfold preC rstC at *
    rw [List.cons_append, List.takeWhile_cons, List.dropWhile_cons, if_pos hb, if_pos hb, this.1, this.2]
    exact ⟨rfl, rfl⟩
theorem preC_none {c : UInt8} : ∀ {x : List UInt8}, c ∉ x → preC c x = x ∧ rstC c x = []
  | [], _ => by simp [preC, rstC]
  | b :: x, h => by
    have hb : (b != c) = true := by simp; intro e; exact h (by rw [e]; exact List.mem_cons_self ..)
    have := preC_none (c := c) (x := x) (fun hm => h (List.mem_cons_of_mem _ hm))
    unfold preC rstC at *
    rw [List.takeWhile_cons, List.dropWhile_cons, if_pos hb, if_pos hb, this.1, this.2]
    exact ⟨rfl, rfl⟩
theorem split_at (c : UInt8) : ∀ (l : List UInt8), c ∈ l → ∃ x r, l = x ++ c :: r ∧ c ∉ x
  | [], h => by simp at h
  | b :: l, h => by
    by_cases hb : b = c
    · exact ⟨[], l, by rw [hb]; rfl, by simp⟩
    · obtain ⟨x, r, h1, h2⟩ := split_at c l (by rcases List.mem_cons.1 h with h | h; exact absurd h.symm hb; exact h)
      exact ⟨b :: x, r, by rw [h1]; rfl, by simp [h2]; exact fun e => hb e.symm⟩
theorem index_app {c : UInt8} {x r : List UInt8} (h : c ∉ x) : index (x ++ c :: r) [c] = x.length := by
  refine index_first (by simp) ?_ fun j hj => ?_
  · simp [occAt, List.isPrefixOf]
  · unfold occAt
    have hlt : j < (x ++ c :: r).length := by simp; omega
    rw [List.drop_eq_getElem_cons hlt]
    have : (x ++ c :: r)[j] = x[j] := List.getElem_append_left hj
    rw [this]
    have hne : ¬ c = x[j] := fun e => h (e ▸ List.getElem_mem hj)
    simp [List.isPrefixOf, hne]
theorem index_no {c : UInt8} {x : List UInt8} (h : c ∉ x) : index x [c] = -1 := by
  refine index_none fun j hj => ?_
  unfold occAt
  by_cases hlt : j < x.length
  · rw [List.drop_eq_getElem_cons hlt]
    have hne : ¬ c = x[j] := fun e => h (e ▸ List.getElem_mem hlt)
    simp [List.isPrefixOf, hne]
  · rw [List.drop_eq_nil_of_le (by omega)]; rfl
theorem cut_eq (c : UInt8) (l : List UInt8) : (Lib.cut l [c]).1 = preC c l ∧ (Lib.cut l [c]).2.1 = rstC c l := by
  unfold Lib.cut
  by_cases h : c ∈ l
  · obtain ⟨x, r, rfl, hx⟩ := split_at c l h
    rw [index_app hx, if_pos (by omega), (preC_app hx).1, (preC_app hx).2]
    simp
  · rw [index_no h, if_neg (by decide), (preC_none h).1, (preC_none h).2]
    exact ⟨rfl, rfl⟩
def splitC (c : UInt8) : List UInt8 → List (List UInt8)
  | [] => [[]]
  | b :: r => if b = c then [] :: splitC c r else match splitC c r with
    | [] => [[b]]
    | w :: ws => (b :: w) :: ws
theorem splitC_none {c : UInt8} : ∀ {x : List UInt8}, c ∉ x → splitC c x = [x]
  | [], _ => rfl
  | b :: x, h => by
    have hb : ¬ b = c := fun e => h (by rw [e]; exact List.mem_cons_self ..)
    unfold splitC
    rw [if_neg hb, splitC_none (fun hm => h (List.mem_cons_of_mem _ hm))]
theorem splitC_app {c : UInt8} : ∀ {x r : List UInt8}, c ∉ x → splitC c (x ++ c :: r) = x :: splitC c r
  | [], r, _ => by rw [List.nil_append, splitC, if_pos rfl]
  | b :: x, r, h => by
    have hb : ¬ b = c := fun e => h (by rw [e]; exact List.mem_cons_self ..)
    rw [List.cons_append, splitC, if_neg hb, splitC_app (fun hm => h (List.mem_cons_of_mem _ hm))]
theorem splitC_len (c : UInt8) : ∀ (l : List UInt8), 1 ≤ (splitC c l).length ∧ (splitC c l).length ≤ l.length + 1
  | [] => by simp [splitC]
  | b :: r => by
    have := splitC_len c r
    unfold splitC
    by_cases hb : b = c
    · rw [if_pos hb]; simp only [List.length_cons]; omega
    · rw [if_neg hb]
      cases h : splitC c r with
      | nil => rw [h] at this; simp at this
      | cons w ws => rw [h] at this; simp only [List.length_cons] at *; omega
theorem splitC_word (c : UInt8) : ∀ (l : List UInt8), ∀ w ∈ splitC c l, w.length ≤ l.length
  | [], w, h => by simp [splitC] at h; simp [h]
  | b :: r, w, h => by
    have ih := splitC_word c r
    unfold splitC at h
    by_cases hb : b = c
    · rw [if_pos hb] at h
      rcases List.mem_cons.1 h with rfl | h
      · simp
      · have := ih w h; simp only [List.length_cons]; omega
    · rw [if_neg hb] at h
      cases hs : splitC c r with
      | nil => have := splitC_len c r; rw [hs] at this; simp at this
      | cons v vs =>
        rw [hs] at h ih
        simp only at h
        rcases List.mem_cons.1 h with rfl | h
        · have := ih v (List.mem_cons_self ..); simp only [List.length_cons]; omega
        · have := ih w (List.mem_cons_of_mem _ h); simp only [List.length_cons]; omega
theorem splitK_eq (c : UInt8) : ∀ (n : Nat) (l : List UInt8), l.length ≤ n → splitK [c] 0 (l.count c) l = splitC c l := by
  intro n
  induction n with
  | zero => intro l hl; have : l = [] := List.eq_nil_of_length_eq_zero (by omega); subst this; rfl
  | succ n ih =>
    intro l hl
    by_cases h : c ∈ l
    · obtain ⟨x, r, rfl, hx⟩ := split_at c l h
      have hc : (x ++ c :: r).count c = r.count c + 1 := by
        rw [List.count_append, List.count_cons_self, List.count_eq_zero.2 hx]; omega
      rw [hc, splitC_app hx]
      unfold splitK
      rw [index_app hx, if_neg (by simp)]
      simp only [Nat.add_zero, Int.toNat_natCast, List.length_singleton]
      rw [List.take_left' rfl, show List.drop (x.length + 1) (x ++ c :: r) = r by simp]
      simp only [List.length_append, List.length_cons] at hl
      rw [ih r (by omega)]
    · rw [List.count_eq_zero.2 h, splitC_none h]; rfl
theorem split_ok {l : List UInt8} (h : l.length ≤ 1000000) : m_split (bs l) (ByteArray.mk #[32]) = some ((splitC 32 l).map bs) := by
  have hc : countB (bs l) (ByteArray.mk #[32]) = l.count 32 := by
    rw [← count_one]
    show Lib.count (bs l).data.toList _ = _
    rw [bs_data]
  have hle : l.count 32 ≤ l.length := List.count_le_length
  unfold m_split
  rw [if_pos ⟨by rw [bs_size]; omega, by decide, by rw [hc]; omega⟩, hc]
  congr 1
  have h1 := splitB_data (ByteArray.mk #[32]) 0 (l.count 32) (bs l)
  rw [bs_data, show (ByteArray.mk #[32]).data.toList = [32] from rfl, splitK_eq 32 l.length l (Nat.le_refl _)] at h1
  rw [← h1, List.map_map]
  have : (bs ∘ fun x : ByteArray => x.data.toList) = id := by funext x; exact bs_of x
  rw [this, List.map_id]
theorem cut_ok {l : List UInt8} (h : l.length ≤ 1000000) : ∃ b, m_cut (bs l) (ByteArray.mk #[10]) = some (bs (preC 10 l), bs (rstC 10 l), b) := by
  unfold m_cut
  rw [if_pos (by rw [bs_size]; omega), bs_data]
  have h1 := cut_eq 10 l
  exact ⟨_, by rw [show (ByteArray.mk #[10]).data.toList = [10] from rfl, h1.1, h1.2]; rfl⟩
theorem rst_len {c : UInt8} {l : List UInt8} (h : l ≠ []) : (rstC c l).length < l.length := by
  by_cases hm : c ∈ l
  · obtain ⟨x, r, rfl, hx⟩ := split_at c l hm
    rw [(preC_app hx).2]; simp; omega
  · rw [(preC_none hm).2]
    cases l with
    | nil => exact absurd rfl h
    | cons b l => simp
theorem pre_len (c : UInt8) (l : List UInt8) : (preC c l).length ≤ l.length := by
  unfold preC
  exact (List.takeWhile_sublist _).length_le
def pfold {σ ε : Type} (step : List UInt8 → σ → Step σ ε) : Nat → List UInt8 → σ → Step σ ε
  | 0, _, s => .next s
  | n + 1, l, s => if l = [] then .next s else match step (preC 10 l) s with
    | .next s' => pfold step n (rstC 10 l) s'
    | .done r => .done r
theorem bs_nil {l : List UInt8} : bs l = ByteArray.mk #[] ↔ l = [] := by
  constructor
  · intro h; exact bs_inj (h.trans rfl)
  · rintro rfl; rfl
theorem yield_loop {σ ε : Type} {yf : ByteArray → σ → Option (Step σ ε)} {step : List UInt8 → σ → Step σ ε} (I : σ → Nat → Prop) (hI : ∀ s n m, I s n → m ≤ n → I s m)
    (h : ∀ line s n, I s (n + 1) → line.length ≤ n + 1 → yf (bs line) s = some (step line s) ∧ ∀ s', step line s = .next s' → I s' n) :
    ∀ (n : Nat) (l : List UInt8) (s : σ), l.length ≤ n → l.length ≤ 1000000 → I s l.length → ∃ b, m_cnf_lines_1_yield yf (.next s) (bs l) = some b ∧ b.2 = pfold step n l s := by
  have key : ∀ (n : Nat) (l : List UInt8) (s : σ), l.length ≤ n → l.length ≤ 1000000 → I s l.length →
      ∃ b, loopM (fun s => m_cnf_lines_1_yield_lp1 yf s.1 s.2) (bs l, .next s) = some b ∧ (match b with | .brk t => t.2 | .ret t => t.2) = pfold step n l s := by
    intro n
    induction n with
    | zero =>
      intro l s hl hb hi
      have : l = [] := List.eq_nil_of_length_eq_zero (by omega)
      subst this
      refine ⟨.brk (bs [], .next s), loopM_done ?_, rfl⟩
      have : bs [] = ByteArray.mk #[] := rfl
      simp [m_cnf_lines_1_yield_lp1, this]
    | succ n ih =>
      intro l s hl hb hi
      by_cases h0 : l = []
      · subst h0
        refine ⟨.brk (bs [], .next s), loopM_done ?_, by simp [pfold]⟩
        have : bs [] = ByteArray.mk #[] := rfl
        simp [m_cnf_lines_1_yield_lp1, this]
      · obtain ⟨q, hq⟩ := cut_ok hb
        have hne : ¬ bs l = ByteArray.mk #[] := fun e => h0 (bs_nil.1 e)
        obtain ⟨m, hm⟩ : ∃ m, l.length = m + 1 := ⟨l.length - 1, by have := List.length_pos_iff.2 h0; omega⟩
        obtain ⟨h1, h2⟩ := h (preC 10 l) s m (by rw [← hm]; exact hi) (by rw [← hm]; exact pre_len _ _)
        have hrl := rst_len (c := 10) h0
        cases hs : step (preC 10 l) s with
        | next s' =>
          rw [hs] at h1
          have hbody : m_cnf_lines_1_yield_lp1 yf (bs l) (.next s) = some (.next (bs (rstC 10 l), .next s')) := by
            simp only [m_cnf_lines_1_yield_lp1, hne, decide_false, Bool.not_false, if_true, hq, bsm, yieldM, h1, Step.more, Bool.not_true, Bool.false_eq_true, if_false]
          obtain ⟨b, hb1, hb2⟩ := ih (rstC 10 l) s' (by omega) (by omega) (hI s' m _ (h2 s' hs) (by omega))
          refine ⟨b, ?_, ?_⟩
          · rw [loopM_next (body := fun s => m_cnf_lines_1_yield_lp1 yf s.1 s.2) (s := (bs l, Step.next s)) hbody]; exact hb1
          · rw [hb2, pfold, if_neg h0, hs]
        | done r =>
          rw [hs] at h1
          have hbody : m_cnf_lines_1_yield_lp1 yf (bs l) (.next s) = some (.done (.ret (bs l, .done r))) := by
            simp only [m_cnf_lines_1_yield_lp1, hne, decide_false, Bool.not_false, if_true, hq, bsm, yieldM, h1, Step.more, Bool.not_false]
          refine ⟨.ret (bs l, .done r), loopM_done hbody, ?_⟩
          rw [pfold, if_neg h0, hs]
  intro n l s hl hb hi
  obtain ⟨b, h1, h2⟩ := key n l s hl hb hi
  unfold m_cnf_lines_1_yield
  rw [h1, bsm]
  cases b with
  | brk t => exact ⟨t, rfl, h2⟩
  | ret t => exact ⟨t, rfl, h2⟩
def atoiV (w : List UInt8) : Int := match Lib.atoiAll w with | .ok v => v | .range => Lib.atoiSat w | _ => 0
theorem atoi_ok {w : List UInt8} (h : w.length ≤ 1000000) : m_atoi (bs w) = some (atoiV w) := by
  unfold m_atoi atoiV
  rw [if_pos (by rw [bs_size]; omega), bs_data]
  rfl
theorem valD_ge : ∀ (l : List UInt8) (acc : Nat), acc ≤ valD acc l
  | [], acc => Nat.le_refl _
  | b :: l, acc => by
    have := valD_ge l (10 * acc + (b.toNat - 48))
    show acc ≤ valD (10 * acc + (b.toNat - 48)) l
    omega
theorem parse_digits : ∀ (l : List UInt8) (acc : Nat), (∀ b ∈ l, 48 ≤ b.toNat ∧ b.toNat ≤ 57) → valD acc l ≤ 1000000000000000000 → parseUint10 acc l = .ok (valD acc l)
  | [], acc, _, _ => rfl
  | b :: l, acc, hd, hv => by
    have hb := hd b (List.mem_cons_self ..)
    have hv' : valD (10 * acc + (b.toNat - 48)) l ≤ 1000000000000000000 := hv
    have hge := valD_ge l (10 * acc + (b.toNat - 48))
    unfold parseUint10
    rw [if_pos hb, if_neg (by omega), if_neg (by omega), show acc * 10 + (b.toNat - 48) = 10 * acc + (b.toNat - 48) by omega, parse_digits l _ (fun c hc => hd c (List.mem_cons_of_mem _ hc)) hv']
    rfl
theorem dd_cons (u : Nat) : ∃ b r, decDigits u = b :: r ∧ 48 ≤ b.toNat ∧ b.toNat ≤ 57 := by
  cases h : decDigits u with
  | nil => exact absurd h (dd_ne u)
  | cons b r => exact ⟨b, r, rfl, dd_digit u b (by rw [h]; exact List.mem_cons_self ..)⟩
theorem atoi_itoa {n : Int} (h : -1000000000000000000 ≤ n ∧ n ≤ 1000000000000000000) : atoiV (itoa n) = n := by
  unfold atoiV itoa
  by_cases h0 : n < 0
  · rw [if_pos h0]
    have hp : parseMag (decDigits n.natAbs) = .ok n.natAbs := by
      unfold parseMag
      rw [if_neg (dd_ne _), parse_digits _ 0 (dd_digit _) (by rw [dd_val]; omega), dd_val]
    have h1 : atoiAll (45 :: decDigits n.natAbs) = .ok n := by
      unfold atoiAll
      have e : (45 : UInt8).toNat = 45 := rfl
      simp only [e, or_true, if_true, hp, not_true_eq_false, false_and, if_false, true_and]
      rw [if_neg (by omega)]
      congr 1
      omega
    rw [h1]
  · rw [if_neg h0]
    obtain ⟨b, r, hb, h1, h2⟩ := dd_cons n.toNat
    have hp : parseMag (decDigits n.toNat) = .ok n.toNat := by
      unfold parseMag
      rw [if_neg (dd_ne _), parse_digits _ 0 (dd_digit _) (by rw [dd_val]; omega), dd_val]
    have h3 : atoiAll (decDigits n.toNat) = .ok n := by
      rw [hb] at hp ⊢
      unfold atoiAll
      have e1 : ¬ b.toNat = 43 := by omega
      have e2 : ¬ b.toNat = 45 := by omega
      simp only [e1, e2, or_self, if_false, hp, not_false_eq_true, true_and, false_and]
      rw [if_neg (by omega)]
      congr 1
      omega
    rw [h3]
abbrev PS := List (List Int) × Bool × Int
def pstep (line : List UInt8) (s : PS) : Step PS (Formula × Int) :=
  if s.2.1 = true then (if (splitC 32 line).length ≠ 4 then .done (⟨0, []⟩, 3) else .next (s.1, false, atoiV ((splitC 32 line).getD 2 [])))
  else .next (s.1 ++ [(splitC 32 line).dropLast.map atoiV], s.2.1, s.2.2)
theorem parse_words {ws : List (List UInt8)} (hw : ∀ w ∈ ws, w.length ≤ 1000000) (hl : ws.length ≤ 1000000) : loopM (fun s : Int × List Int => m_cnf_Parse_lp2 (ws.map bs) s.1 s.2) (0, []) = some (ws.map atoiV) := by
  have h : ∃ b, loopM (fun s : Int × List Int => m_cnf_Parse_lp2 (ws.map bs) s.1 s.2) (0, []) = some b ∧ b = ws.map atoiV := by
    refine loopN (body := fun s : Int × List Int => m_cnf_Parse_lp2 (ws.map bs) s.1 s.2) ws.length (fun k t => ((k : Int), t)) (fun k t => t = (ws.take k).map atoiV) _ (t0 := []) rfl rfl ?_ ?_
    · rintro k t hk rfl
      obtain ⟨w, hw1⟩ := get_of_lt hk
      have hw2 : (ws.map bs)[k]? = some (bs w) := by rw [List.getElem?_map, hw1]; rfl
      refine Or.inl ⟨_, ?_, rfl⟩
      have e1 : app ((ws.take k).map atoiV) [atoiV w] = some ((ws.take (k + 1)).map atoiV) := by
        rw [app_ok (by simp only [List.length_map, List.length_take, List.length_singleton]; omega), take_snoc_of hw1, List.map_append]; rfl
      have e2 : (decide ((k : Int) < ((ws.map bs).length : Int))) = true := by simpa using hk
      simp only [m_cnf_Parse_lp2, e2, if_true, idx_nat hw2, bsm, atoi_ok (hw w (mem_get hw1)), e1, inK_up hk (show ws.length ≤ 9223372036854775807 by omega)]
    · rintro t rfl
      have e2 : ¬ (decide ((ws.length : Int) < ((ws.map bs).length : Int))) = true := by simp
      exact ⟨_, by simp only [m_cnf_Parse_lp2, e2, if_false, Bool.false_eq_true, List.take_length], rfl⟩
  obtain ⟨b, hb, rfl⟩ := h
  exact hb
theorem parse_round {line : List UInt8} {s : PS} (h : line.length ≤ 100000) (hs : s.1.length ≤ 1000000) : m_cnf_Parse_lp1 (bs line) s.1 s.2.1 s.2.2 = some (pstep line s) := by
  obtain ⟨cs, fst, v⟩ := s
  simp only at hs
  have hsl := splitC_len 32 line
  have hsw := splitC_word 32 line
  unfold pstep
  simp only [m_cnf_Parse_lp1, split_ok (show line.length ≤ 1000000 by omega), bsm, List.length_map]
  cases fst with
  | true =>
    by_cases h4 : (splitC 32 line).length = 4
    · have e1 : ((splitC 32 line).length : Int) = 4 := by omega
      obtain ⟨w, hw⟩ := get_of_lt (show 2 < (splitC 32 line).length by omega)
      have hw2 : idx ((splitC 32 line).map bs) 2 = some (bs w) := idx_nat (k := 2) (by rw [List.getElem?_map, hw]; rfl)
      have hg : (splitC 32 line).getD 2 [] = w := by rw [List.getD_eq_getElem?_getD, hw]; rfl
      have e0 : (!decide (((splitC 32 line).length : Int) = 4)) = false := by simp [e1]
      simp only [if_true, e0, Bool.false_eq_true, if_false, hw2, bsm, atoi_ok (show w.length ≤ 1000000 by have := hsw w (mem_get hw); omega)]
      rw [if_neg (fun hc : (splitC 32 line).length ≠ 4 => hc h4), hg]
    · have e1 : ¬ ((splitC 32 line).length : Int) = 4 := by omega
      have e0 : (!decide (((splitC 32 line).length : Int) = 4)) = true := by simp [e1]
      rw [if_pos h4]
      simp only [if_true, e0, bsm]
  | false =>
    have e1 : inK .i64 (((splitC 32 line).length : Int) - 1) = some (((splitC 32 line).length - 1 : Nat) : Int) := inK_at (by omega) ⟨by omega, by omega⟩
    have e2 : sub ((splitC 32 line).map bs) 0 (((splitC 32 line).length - 1 : Nat) : Int) = some ((splitC 32 line).dropLast.map bs) := by
      rw [sub_ok (by omega) (by omega) (by rw [List.length_map]; omega)]
      simp only [Int.toNat_natCast, Int.toNat_zero, List.drop_zero, List.dropLast_eq_take, List.map_take, List.length_map]
    have e3 := parse_words (ws := (splitC 32 line).dropLast) (fun w hw => by have := hsw w (List.dropLast_subset _ hw); omega) (by rw [List.length_dropLast]; omega)
    simp only [Bool.false_eq_true, if_false, e1, bsm, e2, e3, app_ok (show cs.length + [(splitC 32 line).dropLast.map atoiV].length ≤ 4294967296 by simp; omega)]
theorem itoa_mem {n : Int} : ∀ b ∈ itoa n, b ≠ 32 ∧ b ≠ 10 := by
  intro b hb
  have hd : ∀ u, b ∈ decDigits u → b ≠ 32 ∧ b ≠ 10 := fun u hu => by
    have := dd_digit u b hu
    refine ⟨fun e => ?_, fun e => ?_⟩
    · rw [e] at this; exact absurd this.1 (by decide)
    · rw [e] at this; exact absurd this.1 (by decide)
  unfold itoa at hb
  split at hb
  · rcases List.mem_cons.1 hb with rfl | hb
    · exact ⟨by decide, by decide⟩
    · exact hd _ hb
  · exact hd _ hb
theorem split_lits : ∀ (c : List Int) (r : List UInt8), splitC 32 (c.flatMap litL ++ r) = c.map itoa ++ splitC 32 r
  | [], r => rfl
  | l :: c, r => by
    rw [List.flatMap_cons, List.append_assoc]
    rw [show litL l ++ (c.flatMap litL ++ r) = itoa l ++ 32 :: (c.flatMap litL ++ r) by unfold litL; simp, splitC_app (fun hm => (itoa_mem _ hm).1 rfl), split_lits c r]
    rfl
theorem lits_no {c : List Int} : (10 : UInt8) ∉ c.flatMap litL := by
  intro h
  obtain ⟨l, _, hl⟩ := List.mem_flatMap.1 h
  unfold litL at hl
  rcases List.mem_append.1 hl with hl | hl
  · exact (itoa_mem _ hl).2 rfl
  · simp at hl
theorem pfold_next {σ ε : Type} {step : List UInt8 → σ → Step σ ε} {x r : List UInt8} {s s' : σ} {n : Nat} (hx : (10 : UInt8) ∉ x) (hn : (x ++ 10 :: r).length ≤ n) (hs : step x s = .next s') :
    ∃ m, r.length ≤ m ∧ pfold step n (x ++ 10 :: r) s = pfold step m r s' := by
  cases n with
  | zero => simp at hn
  | succ n =>
    refine ⟨n, by simp only [List.length_append, List.length_cons] at hn; omega, ?_⟩
    rw [pfold, if_neg (by simp), (preC_app hx).1, (preC_app hx).2, hs]
theorem pfold_nil {σ ε : Type} {step : List UInt8 → σ → Step σ ε} {s : σ} : ∀ {n : Nat}, pfold step n [] s = .next s
  | 0 => rfl
  | n + 1 => by rw [pfold, if_pos rfl]
def Wide (c : List Int) : Prop := ∀ l ∈ c, -1000000000000000000 ≤ l ∧ l ≤ 1000000000000000000
theorem map_back : ∀ {c : List Int}, Wide c → (c.map itoa).map atoiV = c
  | [], _ => rfl
  | l :: c, h => by
    rw [List.map_cons, List.map_cons, atoi_itoa (h l (List.mem_cons_self ..)), map_back fun m hm => h m (List.mem_cons_of_mem _ hm)]
theorem pfold_lines : ∀ (cs acc : List (List Int)) (v : Int) (n : Nat), (∀ c ∈ cs, Wide c) → (cs.flatMap lineL).length ≤ n → pfold pstep n (cs.flatMap lineL) (acc, false, v) = .next (acc ++ cs, false, v)
  | [], acc, v, n, _, _ => by rw [List.flatMap_nil, pfold_nil, List.append_nil]
  | c :: cs, acc, v, n, h, hn => by
    have e : (c :: cs).flatMap lineL = (c.flatMap litL ++ [48]) ++ 10 :: cs.flatMap lineL := by
      rw [List.flatMap_cons]; unfold lineL; simp
    have h10 : (10 : UInt8) ∉ c.flatMap litL ++ [48] := by
      intro hm
      rcases List.mem_append.1 hm with hm | hm
      · exact lits_no hm
      · simp at hm
    have hs : pstep (c.flatMap litL ++ [48]) (acc, false, v) = .next (acc ++ [c], false, v) := by
      unfold pstep
      rw [if_neg (by simp), split_lits, splitC_none (by decide)]
      simp only [List.dropLast_concat]
      rw [map_back (h c (List.mem_cons_self ..))]
    rw [e] at hn ⊢
    obtain ⟨m, hm, he⟩ := pfold_next h10 hn hs
    rw [he, pfold_lines cs (acc ++ [c]) v m (fun d hd => h d (List.mem_cons_of_mem _ hd)) hm]
    simp
theorem valid_wide {f : Formula} (hv : validB f = true) : ∀ c ∈ f.clauses, Wide c := fun c hc l hl => by
  have := valid_lit hv hc hl
  have := valid_bnd hv
  omega
theorem pfold_fmt {f : Formula} (hv : validB f = true) {n : Nat} (hn : (fmtL f).length ≤ n) : pfold pstep n (fmtL f) ([], true, 0) = .next (f.clauses, false, f.vars) := by
  have hb := valid_bnd hv
  have e : fmtL f = ([112, 32, 99, 110, 102, 32] ++ itoa f.vars ++ [32] ++ itoa (f.clauses.length : Int)) ++ 10 :: f.clauses.flatMap lineL := by
    unfold fmtL headL; simp
  have h10 : (10 : UInt8) ∉ ([112, 32, 99, 110, 102, 32] ++ itoa f.vars ++ [32] ++ itoa (f.clauses.length : Int)) := by
    intro hm
    simp only [List.mem_append] at hm
    rcases hm with ((hm | hm) | hm) | hm
    · revert hm; decide
    · exact (itoa_mem _ hm).2 rfl
    · revert hm; decide
    · exact (itoa_mem _ hm).2 rfl
  have hsp : splitC 32 ([112, 32, 99, 110, 102, 32] ++ itoa f.vars ++ [32] ++ itoa (f.clauses.length : Int)) = [[112], [99, 110, 102], itoa f.vars, itoa (f.clauses.length : Int)] := by
    have e1 : ([112, 32, 99, 110, 102, 32] ++ itoa f.vars ++ [32] ++ itoa (f.clauses.length : Int)) = [112] ++ 32 :: ([99, 110, 102] ++ 32 :: (itoa f.vars ++ 32 :: itoa (f.clauses.length : Int))) := by simp
    rw [e1, splitC_app (by decide), splitC_app (by decide), splitC_app (fun hm => (itoa_mem _ hm).1 rfl), splitC_none (fun hm => (itoa_mem _ hm).1 rfl)]
  have hs : pstep ([112, 32, 99, 110, 102, 32] ++ itoa f.vars ++ [32] ++ itoa (f.clauses.length : Int)) ([], true, 0) = .next ([], false, f.vars) := by
    unfold pstep
    rw [if_pos rfl, hsp, if_neg (by simp)]
    show Step.next (_, _, atoiV (itoa f.vars)) = _
    rw [atoi_itoa (by omega)]
  rw [e] at hn ⊢
  obtain ⟨m, hm, he⟩ := pfold_next h10 hn hs
  rw [he, pfold_lines f.clauses [] f.vars m (valid_wide hv) hm]
  rfl
theorem fmtL_ne (f : Formula) : fmtL f ≠ [] := by unfold fmtL headL; simp
def ParseSpec (l : List UInt8) (r : Formula × Int) : Prop :=
  (∃ f, validB f = true ∧ Fits f.clauses ∧ l = fmtL f ∧ r = (f, 0)) ∨ ((∀ f, validB f = true → Fits f.clauses → l ≠ fmtL f) ∧ r = (⟨0, []⟩, 3))
theorem fmtL_inj {f g : Formula} (hf : validB f = true) (hg : validB g = true) (h : fmtL f = fmtL g) : f = g := by
  have h1 := pfold_fmt hf (Nat.le_refl _)
  have h2 := pfold_fmt hg (Nat.le_refl _)
  rw [h, h2] at h1
  simp only [Step.next.injEq, Prod.mk.injEq] at h1
  obtain ⟨fv, fc⟩ := f
  obtain ⟨gv, gc⟩ := g
  simp only at h1
  rw [h1.1, h1.2.2]
theorem ParseSpec.eq {l : List UInt8} {r r' : Formula × Int} (h : ParseSpec l r) (h' : ParseSpec l r') : r = r' := by
  rcases h with ⟨f, hv, hf, rfl, rfl⟩ | ⟨h, rfl⟩
  · rcases h' with ⟨g, hv', hg, he, rfl⟩ | ⟨h', rfl⟩
    · rw [fmtL_inj hv hv' he]
    · exact absurd rfl (h' f hv hf)
  · rcases h' with ⟨g, hv', hg, rfl, rfl⟩ | ⟨h', rfl⟩
    · exact absurd rfl (h g hv' hg)
    · rfl
theorem ParseSpec.fmt {f : Formula} (hv : validB f = true) (hf : Fits f.clauses) : ParseSpec (fmtL f) (f, 0) := Or.inl ⟨f, hv, hf, rfl, rfl⟩
theorem pfold_inv {σ ε : Type} {step : List UInt8 → σ → Step σ ε} (I : σ → Nat → Prop) (hI : ∀ s n m, I s n → m ≤ n → I s m)
    (h : ∀ line s n, I s (n + 1) → line.length ≤ n + 1 → ∀ s', step line s = .next s' → I s' n) :
    ∀ (n : Nat) (l : List UInt8) (s s' : σ), l.length ≤ n → I s l.length → pfold step n l s = .next s' → I s' 0
  | 0, l, s, s', _, hi, he => by
    simp only [pfold, Step.next.injEq] at he
    subst he
    exact hI _ _ _ hi (Nat.zero_le _)
  | n + 1, l, s, s', hl, hi, he => by
    rw [pfold] at he
    by_cases h0 : l = []
    · rw [if_pos h0, Step.next.injEq] at he
      subst he
      exact hI _ _ _ hi (Nat.zero_le _)
    · rw [if_neg h0] at he
      cases hs : step (preC 10 l) s with
      | done r => rw [hs] at he; cases he
      | next t =>
        rw [hs] at he
        have hrl := rst_len (c := 10) h0
        obtain ⟨m, hm⟩ : ∃ m, l.length = m + 1 := ⟨l.length - 1, by omega⟩
        have h1 := h (preC 10 l) s m (by rw [← hm]; exact hi) (by rw [← hm]; exact pre_len _ _) t hs
        exact pfold_inv I hI h n (rstC 10 l) t s' (by omega) (hI _ _ _ h1 (by omega)) he
theorem pfold_done : ∀ (n : Nat) (l : List UInt8) (s : PS) (r : Formula × Int), pfold pstep n l s = .done r → r = (⟨0, []⟩, 3)
  | 0, l, s, r, h => by simp [pfold] at h
  | n + 1, l, s, r, h => by
    rw [pfold] at h
    by_cases h0 : l = []
    · rw [if_pos h0] at h; cases h
    · rw [if_neg h0] at h
      cases hs : pstep (preC 10 l) s with
      | next t => rw [hs] at h; exact pfold_done n _ t r h
      | done q =>
        rw [hs] at h
        simp only [Step.done.injEq] at h
        subst h
        unfold pstep at hs
        split at hs
        · split at hs
          · simp only [Step.done.injEq] at hs; exact hs.symm
          · cases hs
        · cases hs
def PInv (s : PS) (n : Nat) : Prop := s.1.length + n ≤ 10000 ∧ ∀ c ∈ s.1, c.length ≤ 10000
theorem PInv.step {line : List UInt8} {s s' : PS} {n : Nat} (h : PInv s (n + 1)) (hl : line.length ≤ n + 1) (hs : pstep line s = .next s') : PInv s' n := by
  obtain ⟨h1, h2⟩ := h
  unfold pstep at hs
  split at hs
  · split at hs
    · cases hs
    · simp only [Step.next.injEq] at hs
      subst hs
      exact ⟨by simp only; omega, h2⟩
  · simp only [Step.next.injEq] at hs
    subst hs
    refine ⟨by simp only [List.length_append, List.length_singleton]; omega, fun c hc => ?_⟩
    rcases List.mem_append.1 hc with hc | hc
    · exact h2 c hc
    · rw [List.mem_singleton] at hc
      subst hc
      have := splitC_len 32 line
      rw [List.length_map, List.length_dropLast]; omega
theorem cnf_parse {l : List UInt8} (hl : l.length ≤ 10000) : ∃ r, m_cnf_Parse (bs l) = some r ∧ ParseSpec l r := by
  have hI : ∀ (s : PS) (n m : Nat), PInv s n → m ≤ n → PInv s m := fun s n m h hm => ⟨by have := h.1; omega, h.2⟩
  have h0 : PInv (([], true, 0) : PS) l.length := ⟨by simp; omega, by simp⟩
  obtain ⟨b, hb, hb2⟩ := yield_loop (yf := fun x (s : PS) => m_cnf_Parse_lp1 x s.1 s.2.1 s.2.2) (step := pstep) PInv hI
    (fun line s n h hn => ⟨parse_round (by have := h.1; omega) (by have := h.1; omega), fun s' hs => h.step hn hs⟩) l.length l ([], true, 0) (Nat.le_refl _) (by omega) h0
  unfold m_cnf_Parse m_cnf_lines
  rw [bsm, hb, bsm, hb2]
  cases hp : pfold pstep l.length l ([], true, 0) with
  | done r =>
    refine ⟨r, rfl, Or.inr ⟨fun f hv hf e => ?_, pfold_done _ _ _ _ hp⟩⟩
    subst e
    rw [pfold_fmt hv (Nat.le_refl _)] at hp
    cases hp
  | next s =>
    obtain ⟨cs, fst, v⟩ := s
    have hinv := pfold_inv PInv hI (fun line s n h hn s' hs => h.step hn hs) l.length l _ _ (Nat.le_refl _) h0 hp
    have hfit : Fits (Formula.mk v cs).clauses := ⟨by have := hinv.1; simp only at *; omega, hinv.2⟩
    simp only
    by_cases hnil : l = []
    · have : bs l = ByteArray.mk #[] := bs_nil.2 hnil
      refine ⟨(⟨0, []⟩, 3), by rw [if_pos (by simpa using this)]; rfl, Or.inr ⟨fun f _ _ e => ?_, rfl⟩⟩
      exact fmtL_ne f (e.symm.trans hnil)
    · have hne : ¬ (decide (bs l = ByteArray.mk #[])) = true := by
        rw [decide_eq_true_eq]; exact fun e => hnil (bs_nil.1 e)
      rw [if_neg hne, cnf_format hfit, bsm, bsm]
      by_cases he : fmtB ⟨v, cs⟩ = bs l
      · rw [if_neg (by simp [he])]
        unfold fmtB at he
        by_cases hv : validB ⟨v, cs⟩ = true
        · rw [if_pos hv] at he
          exact ⟨_, rfl, Or.inl ⟨⟨v, cs⟩, hv, hfit, (bs_inj he).symm, rfl⟩⟩
        · rw [if_neg hv] at he
          exact absurd (bs_inj he).symm hnil
      · rw [if_pos (by simp [he])]
        refine ⟨_, rfl, Or.inr ⟨fun f hv hf e => he ?_, rfl⟩⟩
        subst e
        rw [pfold_fmt hv (Nat.le_refl _)] at hp
        simp only [Step.next.injEq, Prod.mk.injEq] at hp
        obtain ⟨rfl, rfl, rfl⟩ := hp
        unfold fmtB
        rw [if_pos hv]
end Go.Proofs.YtelioaepnpnojaaGreatDoor

/- The reference's Parse: it reads what Format writes, and nothing else. -/
set_option linter.unusedVariables false
set_option linter.unusedSimpArgs false
namespace Go.Proofs.YtelioaepnpnojaaGreatDoor
open Go.RowKit Go.Lib
def Sm (v : Int) : Prop := -999999999 ≤ v ∧ v ≤ 999999999
def NL (c : List Int) : Prop := ∀ l ∈ c, Sm l ∧ l ≠ 0
theorem NL.wide {c : List Int} (h : NL c) : Wide c := fun l hl => by
  have := (h l hl).1; unfold Sm at this; omega
end Go.Proofs.YtelioaepnpnojaaGreatDoor
