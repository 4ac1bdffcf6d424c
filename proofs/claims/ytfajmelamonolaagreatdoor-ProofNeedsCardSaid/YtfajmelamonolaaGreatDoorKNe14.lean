/- The engine of proofs: propagate. -/
import Derived.Test.YtfajmelamonolaaGreatDoorKNe13
import Derived.Test.YtfajmelamonolaaGreatDoorKNe4
import Derived.Test.YtfajmelamonolaaGreatDoorKNe3
set_option linter.unusedVariables false
set_option linter.unusedSimpArgs false
namespace Go.Proofs.YtfajmelamonolaaGreatDoor
open Go.RowKit
theorem swap_same {c : List Int} {i j : Nat} {a b : Int} (hn : c.Nodup) (hi : c[i]? = some a) (hj : c[j]? = some b) : Same c ((c.set i b).set j a) := by
  obtain ⟨h1, rfl⟩ := List.getElem?_eq_some_iff.1 hi
  obtain ⟨h2, rfl⟩ := List.getElem?_eq_some_iff.1 hj
  have hp := List.set_set_perm h1 h2
  exact ⟨by simp, hp.nodup_iff.2 hn, fun y => hp.mem_iff⟩
theorem guardEq_self {κ : Type} [DecidableEq κ] (a : κ) : guardEq a a = some () := by unfold guardEq; rw [if_pos rfl]
theorem guardNe_nat {a b : Nat} (h : a ≠ b) : guardNe (a : Int) (b : Int) = some () := by unfold guardNe; rw [if_neg (by simpa using h)]
theorem mem_le2 {c : List Int} {y : Int} (h : y ∈ c) {P : Int → Prop} (h0 : ∀ z, c[0]? = some z → P z) (h1 : ∀ z, c[1]? = some z → P z) (h2 : ∀ j z, 2 ≤ j → c[j]? = some z → P z) : P y := by
  obtain ⟨j, hj⟩ := List.getElem?_of_mem h
  match j, hj with
  | 0, hj => exact h0 _ hj
  | 1, hj => exact h1 _ hj
  | j + 2, hj => exact h2 _ _ (by omega) hj
section
variable {n : Int} {F : List (List Int)} {S : List Int} {np nc : Nat} {D : Nat → Int → Prop} {val trail : List Int} {ws : List (List Nat)} {cl : List (List Int)}
theorem Eng.clLen (h : Eng n F S np nc D val trail ws cl) (hn : 0 ≤ n ∧ n ≤ 65536) {id : Nat} {c : List Int} (hc : cl[id]? = some c) : c.length ≤ 131074 := by
  obtain ⟨_, h2, h3⟩ := h.ok id c hc
  have h1 := nodup_lt 131074 (c.map ixL) (by
    unfold List.Nodup
    rw [List.pairwise_map]
    exact List.Pairwise.imp (fun {a b} hne he => hne (ixL_inj he)) h2) (fun x hx => by
    obtain ⟨y, hy, rfl⟩ := List.mem_map.1 hx
    have := ixL_bnd (h3 y hy).2
    omega)
  rwa [List.length_map] at h1
end
structure Amid (n : Int) (F : List (List Int)) (S : List Int) (np nc : Nat) (l : Int) (list : List Nat) (h cN : Nat) (tr0 : List Int) (k : Nat) (kept : List Nat) (W : List (List Nat) × List (List Int)) (val trail : List Int) : Prop where
  eng : Eng n F S np nc (fun id w => -w ∈ trail.take h ∨ (w = l ∧ id ∉ list.drop k)) val trail (W.1.set (ixL l) (kept ++ list.drop k)) W.2
  row : W.1[ixL l]? = some list
  ext : ∃ e, trail = tr0 ++ e
  at_ : trail[h]? = some (-l)
  kl : kept.length ≤ k
  cn : W.2.length = cN
  ll : list.length ≤ cN
section
variable {n : Int} {F : List (List Int)} {S : List Int} {np nc : Nat}
theorem pair01 {c d : List Int} {a b : Int} (h0 : c[0]? = some a) (h1 : c[1]? = some b) (d0 : d[0]? = some b) (d1 : d[1]? = some a) (w o : Int) : Pair d w o ↔ Pair c w o := by
  unfold Pair
  rw [h0, h1, d0, d1]
  exact ⟨fun h => h.elim (fun ⟨x, y⟩ => Or.inr ⟨x, y⟩) (fun ⟨x, y⟩ => Or.inl ⟨x, y⟩), fun h => h.elim (fun ⟨x, y⟩ => Or.inr ⟨x, y⟩) (fun ⟨x, y⟩ => Or.inl ⟨x, y⟩)⟩
set_option maxHeartbeats 1000000 in
theorem amid_round {l : Int} {list : List Nat} {h cN : Nat} {tr0 : List Int} {k : Nat} {kept : List Nat} {W : List (List Nat) × List (List Int)} {val trail : List Int} {hd : Int} {fl : Bool} (hn : 0 ≤ n ∧ n ≤ 65536) (hcN : cN ≤ 1000000000)
    (hA : Amid n F S np nc l list h cN tr0 k kept W val trail) (hk : k < list.length) :
    (∃ kept' W' val' trail', m_proof_engine_propagate_lp2 l (ixL l : Int) list (k : Int) kept W hd fl val trail = some (.next (((k + 1 : Nat) : Int), kept', W', hd, fl, val', trail')) ∧ Amid n F S np nc l list h cN tr0 (k + 1) kept' W' val' trail') ∨
    (∃ W', m_proof_engine_propagate_lp2 l (ixL l : Int) list (k : Int) kept W hd fl val trail = some (.done (.ret (false, PEng.mk val trail hd W' fl))) ∧ Fails F S ∧ (∃ D, Eng n F S np nc D val trail W'.1 W'.2) ∧ W'.2.length = cN) := by
  have hE := hA.eng
  obtain ⟨id, hid⟩ := get_of_lt hk
  have hdrop := drop_cons_of hid
  have hlm : -l ∈ trail := mem_get hA.at_
  have hl0 := hE.lit hlm
  have hl : l ≠ 0 ∧ vr l ≤ n := ⟨by omega, by rw [← vr_neg]; exact hl0.2⟩
  have hlb := vr_le.1 hl.2
  have hvr : (W.1.set (ixL l) (kept ++ list.drop k))[ixL l]? = some (kept ++ list.drop k) := get_set_eq hA.row
  have hrl := hE.rowLen hvr
  have hlist : list.length - k ≤ cN := by rw [List.length_append, List.length_drop, hA.cn] at hrl; omega
  have hkept : kept.length ≤ cN := by rw [List.length_append, hA.cn] at hrl; omega
  obtain ⟨c, w, o, hc, hp, hw⟩ := ((hE.row _ _ hvr).2 id).1 (by rw [hdrop]; simp)
  have hwl := ixL_inj hw
  rw [hwl] at hp
  obtain ⟨hc2, hcn, hcl⟩ := hE.ok id c hc
  have hc4 := hE.clLen hn hc
  have hlo := hp.ne hcn
  have ho := hcl o hp.mem.2
  have hcn' := hA.cn
  obtain ⟨a, ha, j1, hjm, hs, hpj, hj0, hj1l⟩ : ∃ a, c[0]? = some a ∧ ∃ j1, (if (decide (a = l)) = true then
      (idx c 1).bind fun x9 =>
      (some a).bind fun x10 =>
      (some a).bind fun x11 =>
      (idx (c.set (0 : Int).toNat x9) 1).bind fun x12 =>
      some ((c.set (0 : Int).toNat x9).set (1 : Int).toNat x10)
    else some c) = some j1 ∧ Same c j1 ∧ (∀ w o, Pair j1 w o ↔ Pair c w o) ∧ j1[0]? = some o ∧ j1[1]? = some l := by
    rcases hp with ⟨e0, e1⟩ | ⟨e1, e0⟩
    · refine ⟨l, e0, (c.set 0 o).set 1 l, ?_, swap_same hcn e0 e1, ?_, ?_, ?_⟩
      · rw [if_pos (by simp), show idx c 1 = some o from idx_of (by decide) e1, bsm, bsm, bsm,
          show idx (c.set (0 : Int).toNat o) 1 = some o from idx_of (by decide) (by rw [get_set_ne (by decide)]; exact e1), bsm]
        rfl
      · exact pair01 e0 e1 (by rw [get_set_ne (by decide)]; exact get_set_eq e0) (get_set_eq (by rw [get_set_ne (by decide)]; exact e1))
      · rw [get_set_ne (by decide)]; exact get_set_eq e0
      · exact get_set_eq (by rw [get_set_ne (by decide)]; exact e1)
    · refine ⟨o, e0, c, ?_, ⟨rfl, hcn, fun _ => Iff.rfl⟩, fun _ _ => Iff.rfl, e0, e1⟩
      rw [if_neg (by simpa using fun e : o = l => hlo e.symm)]
  have hjlen := hs.len
  have hjcl : ∀ y ∈ j1, y ≠ 0 ∧ vr y ≤ n := fun y hy => hcl y ((hs.mem y).1 hy)
  have hpl : Pair j1 l o := Or.inr ⟨hj1l, hj0⟩
  obtain ⟨b, hb, hb2, hble, hball, hbno⟩ := seek_ok hE hn.2 hjcl (by omega) (by omega) (tr := trail) (hd := hd) (W := W) (fl := fl)
  obtain ⟨r, hr, hcase⟩ := of_ok hE ho.1 ho.2 hn.2 (tr := trail) (hd := hd) (W := W) (fl := fl)
  have hT := hE.turn hc hs hpj
  have hset : (W.2.set id j1)[id]? = some j1 := get_set_eq hc
  have hins : id ∉ list.drop (k + 1) := by
    have h1 := (hE.row _ _ hvr).1
    rw [hdrop] at h1
    have h2 := (List.nodup_append.1 h1).2.1
    exact (List.nodup_cons.1 h2).1
  have weak : ∀ (tr : List Int) (id' : Nat) (w' : Int), (-w' ∈ tr.take h ∨ (w' = l ∧ id' ∉ list.drop (k + 1))) → (-w' ∈ tr.take h ∨ (w' = l ∧ id' ∉ list.drop k)) ∨ (id' = id ∧ w' = l) := fun tr id' w' hd => by
    rcases hd with hd | ⟨e, hd⟩
    · exact Or.inl (Or.inl hd)
    · by_cases e' : id' = id
      · exact Or.inr ⟨e', e⟩
      · exact Or.inl (Or.inr ⟨e, by rw [hdrop]; simp [e', hd]⟩)
  have hap : app kept [id] = some (kept ++ [id]) := app_ok (by simp; omega)
  have hup := inK_up hk (show list.length ≤ 9223372036854775807 by have := hA.ll; omega)
  have hsnoc : W.1.set (ixL l) (kept ++ list.drop k) = W.1.set (ixL l) ((kept ++ [id]) ++ list.drop (k + 1)) := by rw [hdrop, List.append_assoc, List.singleton_append]
  unfold m_proof_engine_propagate_lp2
  rw [if_pos (ltB hk), idx_nat hid, bsm, hc, bsm, show idx c 0 = some a from idx_of (by decide) ha, bsm, hjm, bsm, hb, bsm, show idx j1 0 = some o from idx_of (by decide) hj0, bsm, hr, bsm]
  by_cases hom : o ∈ trail
  ·
    have er : r = 1 := by
      rcases hcase with ⟨e, _⟩ | ⟨_, e⟩ | ⟨_, _, e, _⟩
      · exact e
      · exact (hE.opp hom e).elim
      · exact absurd hom e
    rw [if_pos (by rw [er]; decide), hap, bsm, hup, bsm]
    refine Or.inl ⟨kept ++ [id], (W.1, W.2.set id j1), val, trail, rfl, ?_, hA.row, hA.ext, hA.at_, by simp; exact hA.kl, by simp [hcn'], hA.ll⟩
    have h1 := (hT.done hset hpl hom).less (weak trail)
    rwa [hsnoc] at h1
  · have er : ¬ (0 < r) := by
      rcases hcase with ⟨_, e⟩ | ⟨e, _⟩ | ⟨e, _⟩
      · exact absurd e hom
      · omega
      · omega
    rw [if_neg (by simpa using er)]
    by_cases hbl : b < j1.length
    ·
      obtain ⟨y, hy⟩ := get_of_lt hbl
      have hyn := hbno y hy
      have hyl := hjcl y (mem_get hy)
      have hyb := vr_le.1 hyl.2
      have hb1 : b ≠ 1 := by omega
      have hb0 : b ≠ 0 := by omega
      have hyne : y ≠ l := fun e => hyn (e ▸ hlm)
      have hyo : y ≠ o := fun e => by have := nodup_ix hs.nd hy (e ▸ hj0); omega
      have hix : ixL y ≠ ixL l := fun e => hyne (ixL_inj e)
      obtain ⟨R, hR⟩ := hE.rowAt hyl.2
      have hRl := hE.rowLen hR
      have hR' : W.1[ixL y]? = some R := by rwa [get_set_ne hix] at hR
      have g1 : (j1.set 1 y)[b]? = some y := by rw [get_set_ne hb1]; exact hy
      have g2 : ((j1.set 1 y).set b l)[1]? = some y := by rw [get_set_ne (Ne.symm hb1)]; exact get_set_eq hj1l
      have g3 : ((j1.set 1 y).set b l)[0]? = some o := by rw [get_set_ne (Ne.symm hb0), get_set_ne (by decide)]; exact hj0
      have e1 : idx j1 1 = some l := idx_of (by decide) hj1l
      have e2 : idx (j1.set (1 : Int).toNat y) (b : Int) = some y := idx_nat g1
      have e3 : idx ((j1.set (1 : Int).toNat y).set (b : Int).toNat l) 1 = some y := idx_of (by decide) g2
      have e4 := index_ok (l := y) (by omega)
      rw [if_pos (by simpa using hbl), idx_nat hy, bsm, e1, bsm, bsm, e2, bsm, e3, bsm, e4, bsm, bsm, e4, bsm, idx_nat hR', bsm, guardNe_nat hix, bsm, app_ok (by simp; omega), bsm, guardEq_self, bsm, hup, bsm]
      refine Or.inl ⟨kept, (W.1.set (ixL y) (R ++ [id]), W.2.set id ((j1.set 1 y).set b l)), val, trail, rfl, ?_, by rw [get_set_ne (Ne.symm hix)]; exact hA.row, hA.ext, hA.at_, by have := hA.kl; omega, by simp [hcn'], hA.ll⟩
      have hs2 : Same j1 ((j1.set 1 y).set b l) := swap_same hs.nd hj1l hy
      have hp2 : Pair ((j1.set 1 y).set b l) y o := Or.inr ⟨g2, g3⟩
      have hD : ∀ (i : Nat) (w' : Int), (-w' ∈ trail.take h ∨ (w' = l ∧ i ∉ list.drop k)) → -w' ∈ trail := fun i w' hd => by
        rcases hd with hd | ⟨e, _⟩
        · exact List.mem_of_mem_take hd
        · rw [e]; exact hlm
      have h1 := hT.move hset hs2 hpl hp2 hyne hyo hlm hyn hom hD (V1 := kept) (V2 := list.drop (k + 1)) (by rw [← hdrop]; exact hvr) hR
      rw [List.set_comm _ _ (Ne.symm hix), List.set_set, List.set_set] at h1
      refine (h1.void (id := id) (l := l) (get_set_eq hc) fun p hq => ?_).less (weak trail)
      rcases hp2.other hq with ⟨e, _⟩ | ⟨e, _⟩
      · exact hyne e.symm
      · exact hlo e
    ·
      have hbe : b = j1.length := by omega
      have hrest : ∀ y ∈ j1, y ≠ o → -y ∈ trail := fun y hy => mem_le2 hy (P := fun y => y ≠ o → -y ∈ trail)
        (fun z hz hne => by rw [hj0] at hz; exact absurd (Option.some.inj hz).symm hne) (fun z hz _ => by rw [hj1l] at hz; exact Option.some.inj hz ▸ hlm)
        (fun j z hj hz _ => hball j z hj (by have := len_lt hz; omega) hz)
      rw [if_neg (by simpa using hbl), bsm, hr, bsm]
      by_cases hon : -o ∈ trail
      · have er : r = -1 := by
          rcases hcase with ⟨_, e⟩ | ⟨e, _⟩ | ⟨_, _, _, e⟩
          · exact absurd e hom
          · exact e
          · exact absurd hon e
        have e1 := index_ok (l := l) (by omega)
        have e2 : sub list (k : Int) (list.length : Int) = some (list.drop k) := by
          rw [sub_ok (by omega) (by omega) (by omega)]
          simp
        rw [if_pos (by rw [er]; decide), e1, bsm, e2, bsm, app_ok (by rw [List.length_drop]; omega), bsm, idx_nat hA.row, bsm, guardEq_self, bsm]
        refine Or.inr ⟨(W.1.set (ixL l) (kept ++ list.drop k), W.2.set id j1), rfl, hE.fail hc fun y hy => ?_, ⟨_, hT⟩, by simp [hcn']⟩
        by_cases e : y = o
        · rw [e]; exact hon
        · exact hrest y ((hs.mem y).2 hy) e
      · obtain ⟨er, hz⟩ : r = 0 ∧ gv val o = some 0 := by
          rcases hcase with ⟨_, e⟩ | ⟨_, e⟩ | ⟨e, e', _⟩
          · exact absurd e hom
          · exact absurd e hon
          · exact ⟨e, e'⟩
        have hu : UP F S o := hE.unit hc hp.mem.2 fun y hy hne => hrest y ((hs.mem y).2 hy) hne
        rw [if_neg (by rw [er]; decide), hap, bsm, bsm, hold_ok hE ho.2 hn.2 hn.1, bsm, hup, bsm]
        have hlt := len_lt hA.at_
        have htk : (trail ++ [o]).take h = trail.take h := List.take_append_of_le_length (by omega)
        refine Or.inl ⟨kept ++ [id], (W.1, W.2.set id j1), val.set (vr o).toNat o, trail ++ [o], rfl, ?_, hA.row, ?_, by rw [List.getElem?_append_left hlt]; exact hA.at_, by simp; exact hA.kl, by simp [hcn'], hA.ll⟩
        · have h1 := hT.hold ho.1 ho.2 hz hu
          have h2 := (h1.done hset hpl (List.mem_append_right _ (List.mem_singleton.2 rfl))).less (weak trail)
          rw [← htk] at h2
          rwa [hsnoc] at h2
        · obtain ⟨e, he⟩ := hA.ext
          exact ⟨e ++ [o], by rw [he, List.append_assoc]⟩
theorem amid_loop {l : Int} {list : List Nat} {h cN : Nat} {tr0 : List Int} {W : List (List Nat) × List (List Int)} {val trail : List Int} {hd : Int} {fl : Bool} (hn : 0 ≤ n ∧ n ≤ 65536) (hcN : cN ≤ 1000000000)
    (hA : Amid n F S np nc l list h cN tr0 0 [] W val trail) :
    ∃ b, loopM (fun s : Int × List Nat × (List (List Nat) × List (List Int)) × Int × Bool × List Int × List Int => m_proof_engine_propagate_lp2 l (ixL l : Int) list s.1 s.2.1 s.2.2.1 s.2.2.2.1 s.2.2.2.2.1 s.2.2.2.2.2.1 s.2.2.2.2.2.2) (0, [], W, hd, fl, val, trail) = some b ∧
      (match b with
        | .brk s => ∃ kept W val trail, s = (kept, W, hd, fl, val, trail) ∧ Amid n F S np nc l list h cN tr0 list.length kept W val trail
        | .ret r => ∃ val trail W', r = (false, PEng.mk val trail hd W' fl) ∧ Fails F S ∧ (∃ D, Eng n F S np nc D val trail W'.1 W'.2) ∧ W'.2.length = cN ∧ ∃ e, trail = tr0 ++ e) := by
  refine loopN (body := fun s : Int × List Nat × (List (List Nat) × List (List Int)) × Int × Bool × List Int × List Int => m_proof_engine_propagate_lp2 l (ixL l : Int) list s.1 s.2.1 s.2.2.1 s.2.2.2.1 s.2.2.2.2.1 s.2.2.2.2.2.1 s.2.2.2.2.2.2) list.length
    (fun k (t : List Nat × (List (List Nat) × List (List Int)) × List Int × List Int) => ((k : Int), t.1, t.2.1, hd, fl, t.2.2.1, t.2.2.2)) (fun k t => Amid n F S np nc l list h cN tr0 k t.1 t.2.1 t.2.2.1 t.2.2.2) _ (t0 := ([], W, val, trail)) rfl hA ?_ ?_
  · rintro k ⟨kept, W, val, trail⟩ hk hA
    rcases amid_round hn hcN hA hk (hd := hd) (fl := fl) with ⟨kept', W', val', trail', h1, h2⟩ | ⟨W', h1, h2, h3, h4⟩
    · exact Or.inl ⟨(kept', W', val', trail'), h1, h2⟩
    · exact Or.inr ⟨_, h1, val, trail, W', rfl, h2, h3, h4, hA.ext⟩
  · rintro ⟨kept, W, val, trail⟩ hA
    refine ⟨.brk (kept, W, hd, fl, val, trail), ?_, kept, W, val, trail, rfl, hA⟩
    simp only [m_proof_engine_propagate_lp2, ltB', if_false, Bool.false_eq_true]
theorem propagate_ok {val trail : List Int} {W : List (List Nat) × List (List Int)} {h : Nat} {fl : Bool} (hn : 0 ≤ n ∧ n ≤ 65536) (hcN : W.2.length ≤ 1000000000)
    (hE : Eng n F S np nc (fun _ w => -w ∈ trail.take h) val trail W.1 W.2) (hh : h ≤ trail.length) :
    ∃ ok val' ext W' h', m_proof_engine_propagate (PEng.mk val trail (h : Int) W fl) = some (ok, PEng.mk val' (trail ++ ext) h' W' fl) ∧ W'.2.length = W.2.length ∧
      ((ok = true ∧ h' = ((trail ++ ext).length : Int) ∧ Eng n F S np nc (fun _ w => -w ∈ trail ++ ext) val' (trail ++ ext) W'.1 W'.2) ∨ (ok = false ∧ Fails F S ∧ ∃ D, Eng n F S np nc D val' (trail ++ ext) W'.1 W'.2)) := by
  refine Exists.elim (loopM_inv (body := fun s : Int × Bool × List Int × List Int × (List (List Nat) × List (List Int)) => m_proof_engine_propagate_lp1 s.1 s.2.1 s.2.2.1 s.2.2.2.1 s.2.2.2.2)
    (fun t => ∃ h' : Nat, t.1 = h' ∧ t.2.1 = fl ∧ h' ≤ t.2.2.2.1.length ∧ (∃ e, t.2.2.2.1 = trail ++ e) ∧ t.2.2.2.2.2.length = W.2.length ∧ Eng n F S np nc (fun _ w => -w ∈ t.2.2.2.1.take h') t.2.2.1 t.2.2.2.1 t.2.2.2.2.1 t.2.2.2.2.2)
    (fun t => (n + 1 - t.1).toNat)
    (fun b => match b with
      | .brk s => ∃ val' tr' W', s = ((tr'.length : Int), fl, val', tr', W') ∧ (∃ e, tr' = trail ++ e) ∧ W'.2.length = W.2.length ∧ Eng n F S np nc (fun _ w => -w ∈ tr') val' tr' W'.1 W'.2
      | .ret r => ∃ val' tr' W' hd, r = (false, PEng.mk val' tr' hd W' fl) ∧ (∃ e, tr' = trail ++ e) ∧ W'.2.length = W.2.length ∧ Fails F S ∧ ∃ D, Eng n F S np nc D val' tr' W'.1 W'.2) ?_ ((h : Int), fl, val, trail, W) ⟨h, rfl, rfl, hh, ⟨[], by simp⟩, rfl, hE⟩) ?_
  · rintro ⟨hd, fl', val, tr, W1⟩ ⟨h', rfl, rfl, hle, ⟨e, he⟩, hcl, hE⟩
    simp only at hle he hcl hE ⊢
    have htl := hE.trailLen hn.1
    unfold m_proof_engine_propagate_lp1
    by_cases hlt : h' < tr.length
    · obtain ⟨x, hx⟩ := get_of_lt hlt
      have hx0 := hE.lit (mem_get hx)
      have hxb := vr_le.1 hx0.2
      have hlv : vr (-x) ≤ n := by rw [vr_neg]; exact hx0.2
      obtain ⟨list, hlist⟩ := hE.rowAt hlv
      have i1 : inK .i64 (0 - x) = some (-x) := inK_at (by omega) ⟨by omega, by omega⟩
      have i2 : inK .i64 ((h' : Int) + 1) = some ((h' + 1 : Nat) : Int) := inK_at rfl ⟨by omega, by omega⟩
      have hA : Amid n F S np nc (-x) list h' W.2.length trail 0 [] W1 val tr := by
        refine ⟨?_, hlist, ⟨e, he⟩, by rw [Int.neg_neg]; exact hx, Nat.le_refl _, hcl, by have := hE.rowLen hlist; omega⟩
        have hsame : W1.1.set (ixL (-x)) ([] ++ list.drop 0) = W1.1 := by
          rw [List.nil_append, List.drop_zero]; exact set_self hlist
        rw [hsame]
        have hn2 := (hE.row _ _ hlist).2
        refine { hE with pr := fun id c w o hc hp hd => ?_ }
        rcases hd with hd | ⟨rfl, hd⟩
        · exact hE.pr id c w o hc hp hd
        · exact absurd ((hn2 id).2 ⟨c, _, o, hc, hp, rfl⟩) hd
      obtain ⟨b, hb, hpost⟩ := amid_loop hn hcN hA (hd := ((h' + 1 : Nat) : Int)) (fl := fl')
      rw [if_pos (by simpa using hlt), idx_nat hx, bsm, i1, bsm, i2, bsm, index_ok (by omega), bsm, idx_nat hlist, bsm, hb, bsm]
      cases b with
      | brk s =>
        obtain ⟨kept, W2, val2, tr2, rfl, hA2⟩ := hpost
        simp only
        rw [bsm, idx_nat hA2.row, bsm, guardEq_self, bsm]
        have hlt2 := len_lt hA2.at_
        refine Or.inl ⟨_, rfl, ⟨h' + 1, rfl, rfl, by show h' + 1 ≤ tr2.length; omega, hA2.ext, hA2.cn, ?_⟩, ?_⟩
        · have h3 := hA2.eng
          rw [List.drop_length, List.append_nil] at h3
          refine h3.less fun id w hd => ?_
          have h4 : tr2.take (h' + 1) = tr2.take h' ++ [x] := take_snoc_of (by have := hA2.at_; rwa [Int.neg_neg] at this)
          have hd : -w ∈ tr2.take (h' + 1) := hd
          rw [h4, List.mem_append, List.mem_singleton] at hd
          rcases hd with hd | hd
          · exact Or.inl hd
          · exact Or.inr ⟨by omega, by simp⟩
        · show (n + 1 - ((h' + 1 : Nat) : Int)).toNat < (n + 1 - (h' : Int)).toNat
          omega
      | ret r =>
        obtain ⟨val2, tr2, W2, rfl, h1, h2, h3, h4⟩ := hpost
        exact Or.inr ⟨_, rfl, val2, tr2, W2, _, rfl, h4, h3, h1, h2⟩
    · rw [if_neg (by simpa using hlt)]
      have : h' = tr.length := by omega
      subst this
      rw [List.take_length] at hE
      exact Or.inr ⟨_, rfl, val, tr, W1, rfl, ⟨e, he⟩, hcl, hE⟩
  · rintro b ⟨hb, hp⟩
    unfold m_proof_engine_propagate
    simp only
    rw [hb, bsm]
    cases b with
    | brk s =>
      obtain ⟨val', tr', W', rfl, ⟨e, rfl⟩, h1, h2⟩ := hp
      exact ⟨true, val', e, W', _, rfl, h1, Or.inl ⟨rfl, rfl, h2⟩⟩
    | ret r =>
      obtain ⟨val', tr', W', hd, rfl, ⟨e, rfl⟩, h1, h2, h3⟩ := hp
      exact ⟨false, val', e, W', hd, rfl, h1, Or.inr ⟨rfl, h2, h3⟩⟩
end
end Go.Proofs.YtfajmelamonolaaGreatDoor

/- The engine of proofs: clauses are added, and what follows is told. -/
set_option linter.unusedVariables false
set_option linter.unusedSimpArgs false
namespace Go.Proofs.YtfajmelamonolaaGreatDoor
open Go.RowKit
def ClOk (n : Int) (q : List Int) : Prop := (∀ y ∈ q, y ≠ 0 ∧ vr y ≤ n) ∧ q.Nodup
theorem clF_nodup {v : Int} : ∀ {t : Int} {c : List Int}, 0 ≤ t → clF v t c = true → c.Nodup
  | _, [], _, _ => List.nodup_nil
  | t, x :: c, ht, hc => by
    unfold clF at hc
    simp only [Bool.and_eq_true, decide_eq_true_eq] at hc
    refine List.nodup_cons.2 ⟨fun hx => ?_, clF_nodup (vr_nn x) hc.2⟩
    have := (clF_mem (vr_nn x) hc.2 x hx).2.2
    omega
theorem clF_ok {n : Int} {q : List Int} (h : clF n 0 q = true) : ClOk n q := by
  refine ⟨fun y hy => ?_, clF_nodup (Int.le_refl 0) h⟩
  have := clF_mem (Int.le_refl 0) h y hy
  exact ⟨fun e => by rw [e] at this; simp [vr] at this, vr_le.2 ⟨this.1, this.2.1⟩⟩
theorem ClOk.len {n : Int} {q : List Int} (h : ClOk n q) (hn : 0 ≤ n ∧ n ≤ 65536) : q.length ≤ 131074 := by
  have h1 := nodup_lt 131074 (q.map ixL) (by
    unfold List.Nodup
    rw [List.pairwise_map]
    exact List.Pairwise.imp (fun {a b} hne he => hne (ixL_inj he)) h.2) (fun x hx => by
    obtain ⟨y, hy, rfl⟩ := List.mem_map.1 hx
    have := ixL_bnd (h.1 y hy).2
    omega)
  rwa [List.length_map] at h1
structure EngB (n : Int) (F : List (List Int)) (e : PEng) : Prop where
  len : e.watches.2.length ≤ F.length
  st : (e.fails = true ∧ Fails F []) ∨ (e.fails = false ∧ e.head = (e.trail.length : Int) ∧ Eng n F [] e.trail.length e.trail.length (fun _ w => -w ∈ e.trail) e.value e.trail e.watches.1 e.watches.2)
section
variable {n : Int} {F : List (List Int)} {S : List Int} {np nc : Nat} {D : Nat → Int → Prop} {val trail : List Int} {ws : List (List Nat)} {cl : List (List Int)}
theorem open_loop (h : Eng n F S np nc D val trail ws cl) {q : List Int} (hq : ClOk n q) (hn : 0 ≤ n ∧ n ≤ 65536) {e : PEng} (he : e.value = val) :
    ∃ b, loopM (fun s : Int × List Int => m_proof_engine_add_lp1 e q s.1 s.2) (0, []) = some b ∧
      (match b with | .ret r => r = e ∧ ∃ y ∈ q, y ∈ trail | .brk c => c = q.filter (fun y => decide (gv val y = some 0)) ∧ ∀ y ∈ q, y ∉ trail) := by
  have hql := hq.len hn
  obtain ⟨tr, hd, W, fl, rfl⟩ : ∃ tr hd W fl, e = PEng.mk val tr hd W fl := ⟨e.trail, e.head, e.watches, e.fails, by rw [← he]⟩
  refine loopN (body := fun s : Int × List Int => m_proof_engine_add_lp1 (PEng.mk val tr hd W fl) q s.1 s.2) q.length (fun k t => ((k : Int), t))
    (fun k c => c = (q.take k).filter (fun y => decide (gv val y = some 0)) ∧ ∀ y ∈ q.take k, y ∉ trail) _ (t0 := []) rfl ⟨by simp, by simp⟩ ?_ ?_
  · rintro k c hk ⟨h1, h2⟩
    obtain ⟨y, hy⟩ := get_of_lt hk
    obtain ⟨r, hr, hcase⟩ := of_ok h (hq.1 y (mem_get hy)).1 (hq.1 y (mem_get hy)).2 hn.2 (tr := tr) (hd := hd) (W := W) (fl := fl)
    have htk := take_snoc_of hy
    have hup := inK_up hk (show q.length ≤ 9223372036854775807 by omega)
    simp only [m_proof_engine_add_lp1, ltB hk, if_true, idx_nat hy, bsm, hr]
    rcases hcase with ⟨rfl, hm⟩ | ⟨rfl, hm⟩ | ⟨rfl, hz, hm, hm'⟩
    · exact Or.inr ⟨.ret (PEng.mk val tr hd W fl), by rw [if_pos (by decide)], rfl, y, mem_get hy, hm⟩
    · rw [if_neg (by decide), if_neg (by decide), hup, bsm]
      refine Or.inl ⟨c, rfl, ?_, fun z hz => ?_⟩
      · have hg : ¬ gv val y = some 0 := fun e => by
          have := (h.tr (-y)).1 hm
          rw [gv_neg, e] at this
          exact this.1 (Option.some.inj this.2).symm
        rw [htk, List.filter_append, ← h1]
        simp [hg]
      · rw [htk, List.mem_append, List.mem_singleton] at hz
        rcases hz with hz | rfl
        · exact h2 z hz
        · exact fun hp => h.opp hp hm
    · have hcl : c.length ≤ q.length := by rw [h1]; exact Nat.le_trans (List.length_filter_le _ _) (by rw [List.length_take]; omega)
      rw [if_neg (by decide), if_pos (by decide), app_ok (by simp; omega), bsm, hup, bsm]
      refine Or.inl ⟨c ++ [y], rfl, ?_, fun z hz' => ?_⟩
      · rw [htk, List.filter_append, ← h1]
        simp [hz]
      · rw [htk, List.mem_append, List.mem_singleton] at hz'
        rcases hz' with hz' | rfl
        · exact h2 z hz'
        · exact hm
  · rintro c ⟨h1, h2⟩
    rw [List.take_length] at h1 h2
    refine ⟨.brk c, ?_, h1, h2⟩
    simp only [m_proof_engine_add_lp1, ltB', if_false, Bool.false_eq_true]
theorem Eng.ids (h : Eng n F S np nc D val trail ws cl) : idsOk cl.length ws = true := by
  unfold idsOk
  simp only [List.all_eq_true, decide_eq_true_eq]
  intro ids hids id hid
  obtain ⟨r, hr⟩ := List.getElem?_of_mem hids
  obtain ⟨c, _, _, hc, _⟩ := ((h.row r ids hr).2 id).1 hid
  exact len_lt hc
theorem lp2_round {p0 : PEng} {x10 : List Int} {k : Nat} {l : Int} {W : List (List Nat) × List (List Int)} {R : List Nat} (hk : x10[k]? = some l) (hkl : x10.length ≤ 1000) (hl : -1099511627776 ≤ l ∧ l ≤ 1099511627776) (hR : W.1[ixL l]? = some R) (hRl : R.length ≤ 1000000000) :
    m_proof_engine_add_lp2 p0 x10 (k : Int) W = some (.next (((k + 1 : Nat) : Int), (W.1.set (ixL l) (R ++ [p0.watches.2.length]), W.2))) := by
  have hlt := len_lt hk
  unfold m_proof_engine_add_lp2
  rw [if_pos (ltB hlt), idx_nat hk, bsm, index_ok hl, bsm, bsm, idx_nat hR, bsm, app_ok (by simp; omega), bsm, guardEq_self, bsm, inK_up hlt (by omega), bsm]
  rfl
theorem add_ok (hn : 0 ≤ n ∧ n ≤ 65536) (hF : F.length ≤ 1000000) {e : PEng} (he : EngB n F e) {q : List Int} (hq : ClOk n q) : ∃ e', m_proof_engine_add e q = some e' ∧ EngB n (F ++ [q]) e' := by
  have hFm : ∀ c ∈ F, c ∈ F ++ [q] := fun c hc => List.mem_append_left _ hc
  have hqm : q ∈ F ++ [q] := List.mem_append_right _ (List.mem_singleton.2 rfl)
  have hlen := he.len
  unfold m_proof_engine_add
  rcases he.st with ⟨hf, hfail⟩ | ⟨hf, hh, hE⟩
  · rw [if_pos hf]
    exact ⟨e, rfl, by rw [List.length_append]; omega, Or.inl ⟨hf, hfail.mono hFm (fun _ h => h)⟩⟩
  · rw [if_neg (by rw [hf]; decide)]
    have e3 : e.trail.take e.trail.length = e.trail := List.take_length
    obtain ⟨b, hb, hp⟩ := open_loop hE hq hn (e := e) rfl
    rw [hb, bsm]
    cases b with
    | ret r =>
      obtain ⟨rfl, y, hy, hm⟩ := hp
      exact ⟨r, rfl, by rw [List.length_append]; omega, Or.inr ⟨hf, hh, hE.addSat hy (by rw [e3]; exact hm)⟩⟩
    | brk c =>
      obtain ⟨hc, hno⟩ := hp
      have hcm : ∀ y, y ∈ c ↔ y ∈ q ∧ gv e.value y = some 0 := fun y => by rw [hc, List.mem_filter]; simp
      have hex : ∀ y ∈ q, y ∉ c → -y ∈ e.trail := fun y hy hn2 => by
        rcases hE.cases (hq.1 y hy).1 (hq.1 y hy).2 with ⟨_, h1⟩ | ⟨_, h1⟩ | ⟨h1, _⟩
        · exact absurd h1 (hno y hy)
        · exact h1
        · exact absurd ((hcm y).2 ⟨hy, h1⟩) hn2
      have hcn : c.Nodup := by rw [hc]; exact hq.2.sublist List.filter_sublist
      have hopen : ∀ y ∈ c, -y ∉ e.trail := fun y hy hm => by
        have h1 := ((hcm y).1 hy).2
        have h2 := (hE.tr (-y)).1 hm
        rw [gv_neg, h1] at h2
        exact h2.1 (Option.some.inj h2.2).symm
      have hcl : c.length ≤ 131074 := by
        have := hq.len hn
        have : c.length ≤ q.length := by rw [hc]; exact List.length_filter_le _ _
        omega
      simp only
      match c, hcm, hex, hcn, hopen, hcl with
      | [], hcm, hex, _, _, _ =>
        rw [if_pos (by simp)]
        refine ⟨_, rfl, by rw [List.length_append]; show e.watches.2.length ≤ _; omega, Or.inl ⟨rfl, Or.inr ⟨q, hqm, fun y hy => ?_⟩⟩⟩
        exact (hE.up (hex y hy (by simp))).mono hFm (fun _ h => h)
      | [x], hcm, hex, _, _, _ =>
        rw [if_neg (by simp), if_pos (by simp), show idx [x] 0 = some x from rfl, bsm]
        obtain ⟨hx1, hx2⟩ := (hcm x).1 (by simp)
        obtain ⟨hx0, hxn⟩ := hq.1 x hx1
        have hhold := hold_ok hE hxn hn.2 hn.1 (hd := e.head) (W := e.watches) (fl := e.fails)
        rw [show (PEng.mk e.value e.trail e.head e.watches e.fails) = e from rfl] at hhold
        rw [hhold, bsm]
        have hU := hE.addUnit hx1 hx0 hxn hx2 (fun y hy hne => hex y hy (by simp [hne]))
        have htk : (e.trail ++ [x]).take e.trail.length = e.trail := List.take_left' rfl
        have hU2 : Eng n (F ++ [q]) [] e.trail.length (e.trail.length + 1) (fun _ w => -w ∈ (e.trail ++ [x]).take e.trail.length) (e.value.set (vr x).toNat x) (e.trail ++ [x]) e.watches.1 e.watches.2 := by rw [htk]; exact hU
        obtain ⟨ok, val', ext, W', h', hpr, hWl, hres⟩ := propagate_ok hn (by omega) hU2 (by simp) (fl := e.fails)
        simp only
        rw [hh, hpr, bsm]
        refine ⟨_, rfl, by rw [List.length_append]; show W'.2.length ≤ _; omega, ?_⟩
        rcases hres with ⟨rfl, rfl, hE'⟩ | ⟨rfl, hfail, _⟩
        · refine Or.inr ⟨rfl, rfl, hE'.rebase (fun id w hw => hw)⟩
        · exact Or.inl ⟨rfl, hfail⟩
      | a :: b :: c', hcm, hex, hcn, hopen, hcl =>
        rw [if_neg (by simp; omega), if_neg (by simp; omega)]
        have haq := (hcm a).1 (by simp)
        have hbq := (hcm b).1 (by simp)
        have hab : a ≠ b := fun e => by subst e; have := nodup_ix hcn (i := 0) (j := 1) rfl rfl; omega
        obtain ⟨Ra, hRa⟩ := hE.rowAt (hq.1 a haq.1).2
        obtain ⟨Rb, hRb⟩ := hE.rowAt (hq.1 b hbq.1).2
        have hRal := hE.rowLen hRa
        have hRbl := hE.rowLen hRb
        have hva := vr_le.1 (hq.1 a haq.1).2
        have hvb := vr_le.1 (hq.1 b hbq.1).2
        have hix : ixL b ≠ ixL a := fun e => hab (ixL_inj e).symm
        have e1 : arPut e.watches.2 e.watches.1 (a :: b :: c') = some (e.watches.2 ++ [a :: b :: c']) := by unfold arPut; rw [if_pos hE.ids]
        have e2 : sub (a :: b :: c') 0 2 = some [a, b] := by rw [sub_ok (by decide) (by decide) (by simp; omega)]; rfl
        rw [e1, bsm, e2, bsm]
        have r0 := lp2_round (p0 := e) (x10 := [a, b]) (k := 0) (W := (e.watches.1, e.watches.2 ++ [a :: b :: c'])) rfl (by simp) (by omega) hRa (by omega)
        have r1 := lp2_round (p0 := e) (x10 := [a, b]) (k := 1) (W := (e.watches.1.set (ixL a) (Ra ++ [e.watches.2.length]), e.watches.2 ++ [a :: b :: c'])) rfl (by simp) (by omega) (by show (e.watches.1.set _ _)[ixL b]? = _; rw [get_set_ne hix]; exact hRb) (by omega)
        rw [loopM_next r0, loopM_next r1, loopM_done (b := ((e.watches.1.set (ixL a) (Ra ++ [e.watches.2.length])).set (ixL b) (Rb ++ [e.watches.2.length]), e.watches.2 ++ [a :: b :: c'])) (by simp [m_proof_engine_add_lp2]), bsm]
        have hset : (e.watches.2 ++ [a :: b :: c']).set e.watches.2.length (a :: b :: c') = e.watches.2 ++ [a :: b :: c'] := set_self (by simp)
        simp only [hset]
        refine ⟨_, rfl, by simp; omega, Or.inr ⟨hf, hh, ?_⟩⟩
        exact hE.addCl (q := q) (d := a :: b :: c') (a := a) (b := b) rfl rfl hcn (fun y hy => hq.1 y ((hcm y).1 hy).1) (fun y hy => ((hcm y).1 hy).1) (fun y hy hm => by rw [e3]; exact hex y hy hm)
          (hopen a (by simp)) (hopen b (by simp)) (fun i w hw => hw) hRa hRb
end
theorem newEngine_ok {f : Formula} (hn : 0 ≤ f.vars ∧ f.vars ≤ 65536) (hF : f.clauses.length ≤ 1000000) (hq : ∀ c ∈ f.clauses, ClOk f.vars c) : ∃ e, m_proof_newEngine f = some e ∧ EngB f.vars f.clauses e := by
  unfold m_proof_newEngine
  rw [inK_eq ⟨by omega, by omega⟩, bsm, mkc_ok ⟨by omega, by omega, by omega⟩, bsm, inK_eq ⟨by omega, by omega⟩, bsm, inK_eq ⟨by omega, by omega⟩, bsm, mkc_ok ⟨by omega, by omega, by omega⟩, bsm]
  obtain ⟨b, hb, hp⟩ := loopN (body := fun s : Int × List Int × Int × Bool × (List (List Nat) × List (List Int)) × List Int => m_proof_newEngine_lp1 f s.1 s.2.1 s.2.2.1 s.2.2.2.1 s.2.2.2.2.1 s.2.2.2.2.2) (s0 := (0, [], 0, false, (List.replicate (2 * f.vars + 2).toNat [], []), List.replicate (f.vars + 1).toNat 0)) f.clauses.length
    (fun k (e : PEng) => ((k : Int), e.trail, e.head, e.fails, e.watches, e.value)) (fun k e => EngB f.vars (f.clauses.take k) e) (fun b => EngB f.vars f.clauses (PEng.mk b.2.2.2.2 b.1 b.2.1 b.2.2.2.1 b.2.2.1)) (t0 := PEng.mk (List.replicate (f.vars + 1).toNat 0) [] 0 (List.replicate (2 * f.vars + 2).toNat [], []) false) rfl
    ⟨by simp, Or.inr ⟨rfl, rfl, by rw [List.take_zero]; exact Eng.start hn.1⟩⟩ (by
      intro k e hk he
      obtain ⟨c, hc⟩ := get_of_lt hk
      obtain ⟨e', h1, h2⟩ := add_ok hn (by rw [List.length_take]; omega) he (hq c (mem_get hc))
      rw [← take_snoc_of hc] at h2
      refine Or.inl ⟨e', ?_, h2⟩
      simp only [m_proof_newEngine_lp1, ltB hk, if_true, idx_nat hc, bsm]
      rw [show (PEng.mk e.value e.trail e.head e.watches e.fails) = e from rfl, h1, bsm, inK_up hk (by omega), bsm]) (by
      intro e he
      rw [List.take_length] at he
      exact ⟨(e.trail, e.head, e.fails, e.watches, e.value), by simp only [m_proof_newEngine_lp1, ltB', if_false, Bool.false_eq_true], he⟩)
  rw [hb, bsm]
  exact ⟨_, rfl, hp⟩
end Go.Proofs.YtfajmelamonolaaGreatDoor

/- The checker of proofs: what follows, what is a proof, what is accepted. -/
set_option linter.unusedVariables false
set_option linter.unusedSimpArgs false
namespace Go.Proofs.YtfajmelamonolaaGreatDoor
open Go.RowKit
def negs (q : List Int) : List Int := q.map fun y => -y
theorem mem_negs {q : List Int} {y : Int} : -y ∈ negs q ↔ y ∈ q := by
  unfold negs
  rw [List.mem_map]
  exact ⟨fun ⟨z, hz, e⟩ => by rwa [show y = z by omega], fun h => ⟨y, h, rfl⟩⟩
theorem mem_negs' {q : List Int} {y : Int} (h : y ∈ negs q) : -y ∈ q := by
  rw [← mem_negs, Int.neg_neg]; exact h
theorem lits_of {n : Int} {F : List (List Int)} {q : List Int} (hn : 0 ≤ n ∧ n ≤ 65536) (hF : ∀ c ∈ F, ClOk n c) (hq : ClOk n q) : Lits n F (negs q) :=
  ⟨hn, fun c hc y hy => (hF c hc).1 y hy, fun y hy => by
    have h1 := hq.1 _ (mem_negs' hy)
    rw [vr_neg] at h1
    exact ⟨by omega, h1.2⟩, fun c hc => (hF c hc).2⟩
section
variable {n : Int} {F : List (List Int)}
theorem follows_loop (hn : 0 ≤ n ∧ n ≤ 65536) {e : PEng} {q : List Int} (hq : ClOk n q) (hE : Eng n F (negs q) e.trail.length e.trail.length (fun _ w => -w ∈ e.trail) e.value e.trail e.watches.1 e.watches.2) :
    ∃ b, loopM (fun s : Bool × Int × Int × Bool × List Int × List Int => m_proof_engine_follows_lp1 e q s.1 s.2.1 s.2.2.1 s.2.2.2.1 s.2.2.2.2.1 s.2.2.2.2.2) (true, 0, e.head, e.fails, e.value, e.trail) = some b ∧
      ∃ ok val ext, b = (ok, e.head, e.fails, val, e.trail ++ ext) ∧ Eng n F (negs q) e.trail.length e.trail.length (fun _ w => -w ∈ e.trail) val (e.trail ++ ext) e.watches.1 e.watches.2 ∧
        ((ok = true ∧ ∀ y ∈ q, -y ∈ e.trail ++ ext) ∨ (ok = false ∧ Fails F (negs q))) := by
  have hql := hq.len hn
  refine loopN (body := fun s : Bool × Int × Int × Bool × List Int × List Int => m_proof_engine_follows_lp1 e q s.1 s.2.1 s.2.2.1 s.2.2.2.1 s.2.2.2.2.1 s.2.2.2.2.2) q.length
    (fun k (t : List Int × List Int) => (true, (k : Int), e.head, e.fails, t.1, e.trail ++ t.2))
    (fun k t => Eng n F (negs q) e.trail.length e.trail.length (fun _ w => -w ∈ e.trail) t.1 (e.trail ++ t.2) e.watches.1 e.watches.2 ∧ ∀ j y, j < k → q[j]? = some y → -y ∈ e.trail ++ t.2) _ (t0 := (e.value, [])) (by simp) ⟨by simpa using hE, fun j y hj => by omega⟩ ?_ ?_
  · rintro k ⟨val, ext⟩ hk ⟨h, h2⟩
    simp only at h h2
    obtain ⟨y, hy⟩ := get_of_lt hk
    have hyq := hq.1 y (mem_get hy)
    have hyb := vr_le.1 hyq.2
    obtain ⟨r, hr, hcase⟩ := of_ok h hyq.1 hyq.2 hn.2 (tr := e.trail ++ ext) (hd := e.head) (W := e.watches) (fl := e.fails)
    have hup := inK_up hk (show q.length ≤ 9223372036854775807 by omega)
    simp only [m_proof_engine_follows_lp1, ltB hk, if_true, idx_nat hy, bsm, hr]
    have hs : UP F (negs q) (-y) := .start (mem_negs.2 (mem_get hy))
    rcases hcase with ⟨rfl, hm⟩ | ⟨rfl, hm⟩ | ⟨rfl, hz, hm, hm'⟩
    · exact Or.inr ⟨(false, e.head, e.fails, val, e.trail ++ ext), by rw [if_pos (by decide)], false, val, ext, rfl, h, Or.inr ⟨rfl, Or.inl ⟨y, h.up hm, hs⟩⟩⟩
    · rw [if_neg (by decide), if_neg (by decide), hup, bsm]
      refine Or.inl ⟨(val, ext), rfl, h, fun j z hj hz => ?_⟩
      by_cases ej : j = k
      · subst ej; rw [hy] at hz; exact Option.some.inj hz ▸ hm
      · exact h2 j z (by omega) hz
    · have hvn : vr (-y) ≤ n := by rw [vr_neg]; exact hyq.2
      have i1 : inK .i64 (0 - y) = some (-y) := inK_at (by omega) ⟨by omega, by omega⟩
      have hh := hold_ok h hvn hn.2 hn.1 (hd := e.head) (W := e.watches) (fl := e.fails)
      rw [if_neg (by decide), if_pos (by decide), i1, bsm, hh, bsm, hup, bsm]
      have h3 := h.hold (x := -y) (by omega) hvn (by rw [gv_neg]; exact hz) hs
      refine Or.inl ⟨(val.set (vr (-y)).toNat (-y), ext ++ [-y]), by simp, by simpa using h3, fun j z hj hz => ?_⟩
      by_cases ej : j = k
      · subst ej; rw [hy] at hz; rw [← Option.some.inj hz]; simp
      · have := h2 j z (by omega) hz
        rw [← List.append_assoc]; exact List.mem_append_left _ this
  · rintro ⟨val, ext⟩ ⟨h, h2⟩
    refine ⟨(true, e.head, e.fails, val, e.trail ++ ext), ?_, true, val, ext, rfl, h, Or.inl ⟨rfl, fun y hy => ?_⟩⟩
    · simp only [m_proof_engine_follows_lp1, ltB', if_false, Bool.false_eq_true]
    · obtain ⟨j, hj⟩ := List.getElem?_of_mem hy
      exact h2 j y (len_lt hj) hj
theorem clear_loop {val dr : List Int} (hd : ∀ x ∈ dr, vr x ≤ n ∧ x ≠ 0) (hn : n ≤ 65536) (hv : (val.length : Int) = n + 1) (hl : dr.length ≤ 1000000) :
    ∃ v', loopM (fun s : Int × List Int => m_proof_engine_follows_lp2 dr s.1 s.2) (0, val) = some v' ∧ v'.length = val.length ∧
      (∀ (v : Nat), (∃ x ∈ dr, (vr x).toNat = v) → v'[v]? = some 0 ∨ val.length ≤ v) ∧ (∀ (v : Nat), (∀ x ∈ dr, (vr x).toNat ≠ v) → v'[v]? = val[v]?) := by
  refine loopN (body := fun s : Int × List Int => m_proof_engine_follows_lp2 dr s.1 s.2) dr.length (fun k t => ((k : Int), t))
    (fun k v' => v'.length = val.length ∧ (∀ (v : Nat), (∃ x ∈ dr.take k, (vr x).toNat = v) → v'[v]? = some 0 ∨ val.length ≤ v) ∧ (∀ (v : Nat), (∀ x ∈ dr.take k, (vr x).toNat ≠ v) → v'[v]? = val[v]?)) _ (t0 := val) rfl
    ⟨rfl, fun v ⟨x, hx, _⟩ => by simp at hx, fun v _ => rfl⟩ ?_ ?_
  · rintro k v' hk ⟨h1, h2, h3⟩
    obtain ⟨x, hx⟩ := get_of_lt hk
    obtain ⟨hxn, hx0⟩ := hd x (mem_get hx)
    have hxb := vr_le.1 hxn
    have hx1 := vr_nn x
    obtain ⟨y, hy⟩ := get_of_lt (show (vr x).toNat < v'.length by omega)
    have em : max x (-x) = vr x := by unfold vr; omega
    have hi : idx v' (max x (-x)) = some y := by rw [em]; exact idx_of hx1 hy
    have i1 : inK .i64 (0 - x) = some (-x) := inK_at (by omega) ⟨by omega, by omega⟩
    refine Or.inl ⟨v'.set (vr x).toNat 0, ?_, by rw [List.length_set]; exact h1, fun v hv' => ?_, fun v hv' => ?_⟩
    · simp only [m_proof_engine_follows_lp2, ltB hk, if_true, idx_nat hx, bsm, i1, hi, inK_up hk (show dr.length ≤ 9223372036854775807 by omega)]
      rw [em]
    · rw [take_snoc_of hx] at hv'
      obtain ⟨z, hz, rfl⟩ := hv'
      by_cases e : (vr z).toNat = (vr x).toNat
      · rw [e]; exact Or.inl (get_set_eq hy)
      · rw [get_set_ne e]
        rw [List.mem_append, List.mem_singleton] at hz
        rcases hz with hz | rfl
        · exact h2 _ ⟨z, hz, rfl⟩
        · exact absurd rfl e
    · rw [take_snoc_of hx] at hv'
      rw [get_set_ne (fun e => hv' x (by simp) e.symm)]
      exact h3 v fun z hz => hv' z (List.mem_append_left _ hz)
  · rintro v' ⟨h1, h2, h3⟩
    rw [List.take_length] at h2 h3
    exact ⟨v', by simp only [m_proof_engine_follows_lp2, ltB', if_false, Bool.false_eq_true], h1, h2, h3⟩
theorem follows_ok (hn : 0 ≤ n ∧ n ≤ 65536) (hF : F.length ≤ 1000000) (hFc : ∀ c ∈ F, ClOk n c) {e : PEng} (he : EngB n F e) {q : List Int} (hq : ClOk n q) :
    ∃ r e', m_proof_engine_follows e q = some (r, e') ∧ EngB n F e' ∧ (r = true ↔ Fails F (negs q)) := by
  have hlen := he.len
  unfold m_proof_engine_follows
  rcases he.st with ⟨hf, hfail⟩ | ⟨hf, hh, hE0⟩
  · rw [if_pos hf]
    exact ⟨true, e, rfl, he, fun _ => hfail.mono (fun _ h => h) (by simp), fun _ => rfl⟩
  · rw [if_neg (by rw [hf]; decide)]
    have hE := hE0.assume (negs q)
    obtain ⟨b, hb, ok, val, ext, rfl, h1, h2⟩ := follows_loop hn hq hE
    rw [hb, bsm]
    have htk : (e.trail ++ ext).take e.trail.length = e.trail := List.take_left' rfl
    have hL := lits_of hn hFc hq
    obtain ⟨ok2, hd2, val2, tr2, W2, hm, ⟨ext2, rfl⟩, hWl, ⟨D2, h3⟩, h4⟩ : ∃ ok2 hd2 val2 tr2 W2, (if ok = true then
        (m_proof_engine_propagate (PEng.mk val (e.trail ++ ext) e.head e.watches e.fails)).bind fun x8 =>
        some (x8.1, x8.2.head, x8.2.fails, x8.2.value, x8.2.trail, x8.2.watches)
      else
        some (false, e.head, e.fails, val, e.trail ++ ext, e.watches)) = some (ok2, hd2, e.fails, val2, tr2, W2) ∧ (∃ x, tr2 = e.trail ++ x) ∧ W2.2.length = e.watches.2.length ∧ (∃ D, Eng n F (negs q) e.trail.length e.trail.length D val2 tr2 W2.1 W2.2) ∧ (ok2 = true ↔ ¬ Fails F (negs q)) := by
      rcases h2 with ⟨rfl, h2⟩ | ⟨rfl, h2⟩
      · have h1' : Eng n F (negs q) e.trail.length e.trail.length (fun _ w => -w ∈ (e.trail ++ ext).take e.trail.length) val (e.trail ++ ext) e.watches.1 e.watches.2 := by rw [htk]; exact h1
        obtain ⟨ok2, val2, ext2, W2, hd2, hpr, hWl, hres⟩ := propagate_ok hn (by omega) h1' (by simp) (fl := e.fails)
        rw [if_pos rfl, hh, hpr, bsm]
        refine ⟨ok2, hd2, val2, _, W2, rfl, ⟨ext ++ ext2, by rw [List.append_assoc]⟩, hWl, ?_⟩
        rcases hres with ⟨rfl, _, h5⟩ | ⟨rfl, h5, D, h6⟩
        · refine ⟨⟨_, h5⟩, fun _ => ?_, fun _ => rfl⟩
          refine closed_ok hL h5.vo (fun l hl => ?_) (h5.closed fun id w hw => hw)
          have h7 := h2 _ (mem_negs' hl)
          rw [Int.neg_neg] at h7
          exact ((h5.tr l).1 (List.mem_append_left _ h7)).2
        · exact ⟨⟨D, h6⟩, fun h => (by cases h), fun h => absurd h5 h⟩
      · rw [if_neg (by decide)]
        exact ⟨false, _, val, _, e.watches, rfl, ⟨ext, rfl⟩, rfl, ⟨_, h1⟩, fun h => (by cases h), fun h => absurd h2 h⟩
    rw [hm, bsm]
    simp only
    have htl := h3.trailLen hn.1
    rw [List.length_append] at htl
    have hdrop : (e.trail ++ ext2).drop e.trail.length = ext2 := List.drop_left' rfl
    have htake : (e.trail ++ ext2).take e.trail.length = e.trail := List.take_left' rfl
    have s1 : sub (e.trail ++ ext2) (e.trail.length : Int) ((e.trail ++ ext2).length : Int) = some ext2 := by
      rw [sub_ok (by omega) (by rw [List.length_append]; omega) (by omega)]
      rw [Int.toNat_natCast, Int.toNat_natCast, List.take_length, hdrop]
    have s2 : sub (e.trail ++ ext2) 0 (e.trail.length : Int) = some e.trail := by
      rw [sub_ok (by decide) (by omega) (by rw [List.length_append]; omega)]
      rw [Int.toNat_natCast, htake]; rfl
    obtain ⟨v', hv, c1, c2, c3⟩ := clear_loop (n := n) (val := val2) (dr := ext2) (fun x hx => by
      have := h3.lit (List.mem_append_right e.trail hx); exact ⟨this.2, this.1⟩) hn.2 h3.vo.len (by omega)
    rw [s1, bsm, hv, bsm, s2, bsm]
    refine ⟨_, _, rfl, ⟨by show W2.2.length ≤ _; omega, Or.inr ⟨hf, rfl, ?_⟩⟩, ?_⟩
    · have h6 := h3.reset c1 (by rw [hdrop]; exact c2) (by rw [hdrop]; exact c3) []
      rw [htake] at h6
      exact h6
    · cases ok2 with
      | true => exact ⟨fun h => (by cases h), fun h => absurd h (h4.1 rfl)⟩
      | false => exact ⟨fun _ => Classical.byContradiction fun h => (by cases h4.2 h), fun _ => rfl⟩
end
def accP (F : List (List Int)) : List (List Int) → Prop
  | [] => True
  | c :: p => Fails F (negs c) ∧ accP (F ++ [c]) p
noncomputable def accB (F p : List (List Int)) : Bool := @decide (p.getLast? = some [] ∧ accP F p) (Classical.propDecidable _)
theorem accB_iff {F p : List (List Int)} : accB F p = true ↔ p.getLast? = some [] ∧ accP F p := by unfold accB; exact @decide_eq_true_iff _ (Classical.propDecidable _)
theorem accepted_ok {f : Formula} {p : List (List Int)} (hn : 0 ≤ f.vars ∧ f.vars ≤ 65536) (hl : f.clauses.length + p.length ≤ 1000000) (hF : ∀ c ∈ f.clauses, ClOk f.vars c) (hp : ∀ c ∈ p, ClOk f.vars c) :
    m_proof_accepted f p = some (accB f.clauses p) := by
  unfold m_proof_accepted
  have hlast : ∀ b : Bool, p.getLast? ≠ some [] → accB f.clauses p = false := fun b h => by
    cases hb : accB f.clauses p with
    | true => exact absurd (accB_iff.1 hb).1 h
    | false => rfl
  by_cases h0 : p.length = 0
  · rw [if_pos (by simpa using h0), bsm, if_pos rfl]
    have : p = [] := List.eq_nil_of_length_eq_zero h0
    rw [hlast true (by rw [this]; simp)]
  · obtain ⟨c, hc⟩ := get_of_lt (show p.length - 1 < p.length by omega)
    have hg : p.getLast? = some c := by rw [List.getLast?_eq_getElem?]; exact hc
    rw [if_neg (by simpa using h0), inK_at (m := ((p.length - 1 : Nat) : Int)) (by omega) ⟨by omega, by omega⟩, bsm, idx_nat hc, bsm, bsm]
    by_cases hcl : 0 < c.length
    · rw [if_pos (by simpa using hcl), hlast true (by rw [hg]; intro e; rw [Option.some.inj e] at hcl; simp at hcl)]
    · rw [if_neg (by simpa using hcl)]
      have hnil : c = [] := List.eq_nil_of_length_eq_zero (by omega)
      subst hnil
      unfold m_proof_steps m_proof_steps_1_yield
      obtain ⟨e0, he0, hE0⟩ := newEngine_ok hn (by omega) hF
      rw [bsm, he0, bsm]
      obtain ⟨b, hb, hpost⟩ := loopN (body := fun s : Int × Int × Bool × List Int × List Int × (List (List Nat) × List (List Int)) × Step Unit Bool => m_proof_steps_1_yield_lp1 (fun x _ => m_proof_accepted_lp1 x) p s.1 s.2.1 s.2.2.1 s.2.2.2.1 s.2.2.2.2.1 s.2.2.2.2.2.1 s.2.2.2.2.2.2)
        (s0 := (0, e0.head, e0.fails, e0.value, e0.trail, e0.watches, .next ())) p.length (fun k (e : PEng) => ((k : Int), e.head, e.fails, e.value, e.trail, e.watches, Step.next ()))
        (fun k e => EngB f.vars (f.clauses ++ p.take k) e ∧ (accP f.clauses p ↔ accP (f.clauses ++ p.take k) (p.drop k)))
        (fun b => match b with | .brk s => s.2.2.2.2.2 = Step.next () ∧ accP f.clauses p | .ret st => st = Step.done false ∧ ¬ accP f.clauses p) (t0 := e0) rfl ⟨by simpa using hE0, by simp⟩ (by
          rintro k e hk ⟨h1, h2⟩
          obtain ⟨c, hc⟩ := get_of_lt hk
          have hcm := hp c (mem_get hc)
          have hFk : ∀ d ∈ f.clauses ++ p.take k, ClOk f.vars d := fun d hd => by
            rcases List.mem_append.1 hd with hd | hd
            · exact hF d hd
            · exact hp d (List.mem_of_mem_take hd)
          have hlk : (f.clauses ++ p.take k).length ≤ 1000000 := by rw [List.length_append, List.length_take]; omega
          obtain ⟨r, e', hr, he', hiff⟩ := follows_ok hn hlk hFk h1 hcm
          have hacc : accP f.clauses p ↔ Fails (f.clauses ++ p.take k) (negs c) ∧ accP (f.clauses ++ p.take (k + 1)) (p.drop (k + 1)) := by
            rw [h2, drop_cons_of hc, take_snoc_of hc, ← List.append_assoc]; exact Iff.rfl
          simp only [m_proof_steps_1_yield_lp1, ltB hk, if_true, idx_nat hc, bsm]
          rw [show (PEng.mk e.value e.trail e.head e.watches e.fails) = e from rfl, hr, bsm]
          cases r with
          | false =>
            refine Or.inr ⟨.ret (Step.done false), ?_, rfl, fun h => ?_⟩
            · simp only [yieldM, m_proof_accepted_lp1, Bool.not_false, if_true, bsm, Step.more, Bool.or_true]
            · have := hiff.2 (hacc.1 h).1
              cases this
          | true =>
            obtain ⟨e'', h3, h4⟩ := add_ok hn hlk he' hcm
            rw [List.append_assoc, ← take_snoc_of hc] at h4
            refine Or.inl ⟨e'', ?_, h4, ?_⟩
            · simp only [yieldM, m_proof_accepted_lp1, Bool.not_true, if_false, Bool.false_eq_true, bsm, Step.more, Bool.or_false, h3, inK_up hk (show p.length ≤ 9223372036854775807 by omega)]
            · rw [hacc]; exact ⟨fun h => h.2, fun h => ⟨hiff.1 rfl, h⟩⟩) (by
          rintro e ⟨h1, h2⟩
          refine ⟨.brk (e.head, e.fails, e.value, e.trail, e.watches, Step.next ()), ?_, rfl, h2.2 (by rw [List.drop_length]; trivial)⟩
          simp only [m_proof_steps_1_yield_lp1, ltB', if_false, Bool.false_eq_true])
      rw [hb, bsm]
      cases b with
      | brk s =>
        obtain ⟨h1, h2⟩ := hpost
        simp only
        rw [bsm, h1, accB_iff.2 ⟨hg, h2⟩]
      | ret st =>
        obtain ⟨rfl, h2⟩ := hpost
        simp only
        rw [bsm]
        cases hb : accB f.clauses p with
        | true => exact absurd (accB_iff.1 hb).2 h2
        | false => rfl
end Go.Proofs.YtfajmelamonolaaGreatDoor

/- Check, Follows, Trim and Core, of the program and of the reference: both are what is said here. -/
set_option linter.unusedVariables false
set_option linter.unusedSimpArgs false
namespace Go.Proofs.YtfajmelamonolaaGreatDoor
open Go.RowKit
theorem normal_ok {c : List Int} {v : Int} (hv : 0 ≤ v ∧ v ≤ 1099511627776) (hc : c.length ≤ 9223372036854775807) : m_proof_normal c v = some (clF v 0 c) := by
  unfold m_proof_normal
  have w : ∀ x : Int, -1099511627776 ≤ x ∧ x ≤ 1099511627776 → IntKind.wrap .i64 (0 - x) = -x := fun x hx => by rw [IntKind.wrap_i64]; omega
  have h := loopL (body := fun s : Int × Int => m_proof_normal_lp1 c v s.1 s.2) (s0 := ((0 : Int), (0 : Int))) c (fun k t => (t, (k : Int)))
    (stCl v) (fun _ => Out.brk ()) (fun _ _ => True) (t0 := (0 : Int)) rfl trivial ?_ ?_
  · rw [h, bsm, ← runL_clF (Int.le_refl 0)]
    generalize runL (stCl v) (fun _ => Out.brk ()) c 0 = o
    cases o <;> rfl
  · intro k a t hk _
    refine ⟨?_, fun _ _ => trivial⟩
    simp only [m_proof_normal_lp1, stCl]
    rw [if_pos (ltB (len_lt hk)), idx_nat hk, bsm, w v (by omega)]
    by_cases h1 : (decide (a < -v) || decide (v < a)) = true
    · simp [h1]
    · have h1' : (decide (a < -v) || decide (v < a)) = false := by simpa using h1
      simp only [Bool.or_eq_true, decide_eq_true_eq, not_or] at h1
      rw [w a (by omega), show max a (-a) = vr a by unfold vr; omega]
      simp only [h1', Bool.false_or]
      by_cases h2 : vr a ≤ t
      · simp [h2]
      · simp [h2, inK_up (len_lt hk) hc]
  · intro t _
    simp only [m_proof_normal_lp1]
    rw [if_neg ltB']
def litN (p : List (List Int)) : Nat := (p.map List.length).sum
theorem litN_take {p : List (List Int)} {k : Nat} {c : List Int} (h : p[k]? = some c) : litN (p.take (k + 1)) = litN (p.take k) + c.length := by
  unfold litN; rw [take_snoc_of h]; simp
theorem litN_app (p q : List (List Int)) : litN (p ++ q) = litN p + litN q := by unfold litN; simp
theorem litN_mono (p : List (List Int)) (k : Nat) : litN (p.take k) ≤ litN p := by
  have := litN_app (p.take k) (p.drop k)
  rw [List.take_append_drop] at this; omega
theorem litN_sub {q p : List (List Int)} (h : q.Sublist p) : litN q ≤ litN p := by
  unfold litN
  induction h with
  | slnil => simp
  | cons a _ ih => simp; omega
  | cons_cons a _ ih => simp; omega
def provB (v : Int) (p : List (List Int)) : Bool := p.all (clF v 0) && decide (litN p ≤ 1048576)
theorem provB_iff {v : Int} {p : List (List Int)} : provB v p = true ↔ (∀ c ∈ p, clF v 0 c = true) ∧ litN p ≤ 1048576 := by
  unfold provB; rw [Bool.and_eq_true, List.all_eq_true, decide_eq_true_eq]
def PLen (p : List (List Int)) : Prop := p.length ≤ 400000 ∧ ∀ c ∈ p, c.length ≤ 400000
theorem PLen.lit {p : List (List Int)} (h : PLen p) (k : Nat) : litN (p.take k) ≤ k * 400000 := by
  induction k with
  | zero => simp [litN]
  | succ k ih =>
    by_cases hk : k < p.length
    · obtain ⟨c, hc⟩ := get_of_lt hk
      have := h.2 c (mem_get hc)
      rw [litN_take hc]; omega
    · have e1 : p.take k = p := List.take_of_length_le (by omega)
      have e2 : p.take (k + 1) = p := List.take_of_length_le (by omega)
      have e3 := congrArg litN e1
      have e4 := congrArg litN e2
      omega
theorem PLen.all {p : List (List Int)} (h : PLen p) : litN p ≤ 160000000000 := by
  have h1 := h.lit p.length
  rw [List.take_length] at h1
  have h2 : p.length * 400000 ≤ 400000 * 400000 := Nat.mul_le_mul_right _ h.1
  omega
theorem valid_ok {p : List (List Int)} {v : Int} (hv : 0 ≤ v ∧ v ≤ 1099511627776) (hp : PLen p) : m_proof_valid p v = some (provB v p) := by
  unfold m_proof_valid
  obtain ⟨b, hb, h⟩ := loopN (body := fun s : Int × Int => m_proof_valid_lp1 p v s.1 s.2) (s0 := ((0 : Int), (0 : Int))) p.length (fun k (t : Nat) => ((t : Int), (k : Int)))
    (fun k t => t = litN (p.take k) ∧ t ≤ 1048576 ∧ ∀ c ∈ p.take k, clF v 0 c = true) (fun b => match b with | .brk _ => provB v p = true | .ret r => r = false ∧ provB v p = false) (t0 := 0) rfl ⟨by simp [litN], by omega, by simp⟩ (by
      rintro k t hk ⟨rfl, h1, h2⟩
      obtain ⟨c, hc⟩ := get_of_lt hk
      have hcl := hp.2 c (mem_get hc)
      have hlt := litN_take hc
      have e1 : inK .i64 ((litN (p.take k) : Int) + (c.length : Int)) = some ((litN (p.take (k + 1)) : Nat) : Int) := inK_at (by omega) ⟨by omega, by omega⟩
      simp only [m_proof_valid_lp1, ltB hk, if_true, idx_nat hc, bsm, e1, normal_ok hv (show c.length ≤ 9223372036854775807 by omega)]
      by_cases h3 : ((!clF v 0 c) || decide (1048576 < ((litN (p.take (k + 1)) : Nat) : Int))) = true
      · refine Or.inr ⟨.ret false, by rw [if_pos h3], rfl, ?_⟩
        cases hpb : provB v p with
        | false => rfl
        | true =>
          have := provB_iff.1 hpb
          have h4 := this.1 c (mem_get hc)
          have h5 := litN_mono p (k + 1)
          rw [h4] at h3
          simp at h3
          omega
      · rw [if_neg h3, inK_up hk (by have := hp.1; omega), bsm]
        simp only [Bool.or_eq_true, Bool.not_eq_true', decide_eq_true_eq, not_or, Bool.not_eq_false] at h3
        refine Or.inl ⟨litN (p.take (k + 1)), rfl, rfl, by omega, fun d hd => ?_⟩
        rw [take_snoc_of hc, List.mem_append, List.mem_singleton] at hd
        rcases hd with hd | rfl
        · exact h2 d hd
        · exact h3.1) (by
      rintro t ⟨rfl, h1, h2⟩
      rw [List.take_length] at h1 h2
      exact ⟨.brk (), by simp only [m_proof_valid_lp1, ltB', if_false, Bool.false_eq_true], provB_iff.2 ⟨h2, h1⟩⟩)
  rw [hb, bsm]
  cases b with
  | brk _ => simp only; rw [h]
  | ret r => simp only; rw [h.1, h.2]
noncomputable def chkB (f : Formula) (p : List (List Int)) : Bool := validB f && provB f.vars p && accB f.clauses p
theorem valid_cl {f : Formula} (h : validB f = true) : ∀ c ∈ f.clauses, ClOk f.vars c := fun c hc => clF_ok ((valid_bnd h).2.2.2 c hc)
theorem prov_cl {v : Int} {p : List (List Int)} (h : provB v p = true) : ∀ c ∈ p, ClOk v c := fun c hc => clF_ok ((provB_iff.1 h).1 c hc)
theorem check_ok {f : Formula} {p : List (List Int)} (hf : FLen f.clauses) (hp : PLen p) : m_proof_Check f p = some (chkB f p) := by
  unfold m_proof_Check chkB
  rw [cnf_valid hf, bsm]
  cases hv : validB f with
  | false => simp
  | true =>
    have hb := valid_bnd hv
    rw [if_pos rfl, valid_ok (by omega) hp, bsm, bsm]
    cases hpr : provB f.vars p with
    | false => simp
    | true =>
      rw [if_pos rfl, accepted_ok ⟨hb.1, hb.2.1⟩ (by have := hp.1; omega) (valid_cl hv) (prov_cl hpr), bsm, bsm]
      simp
theorem follows_prog {f : Formula} {q : List Int} (hf : FLen f.clauses) (hq : q.length ≤ 9223372036854775807) :
    ∃ r, m_proof_Follows f q = some r ∧ (if validB f = true ∧ clF f.vars 0 q = true then r.2 = 0 ∧ (r.1 = true ↔ Fails f.clauses (negs q)) else r = (false, 1)) := by
  unfold m_proof_Follows
  rw [cnf_valid hf, bsm]
  cases hv : validB f with
  | false => exact ⟨(false, 1), by simp, by simp⟩
  | true =>
    have hb := valid_bnd hv
    rw [if_neg (by simp), normal_ok (by omega) hq, bsm, bsm]
    cases hc : clF f.vars 0 q with
    | false => exact ⟨(false, 1), by simp, by simp⟩
    | true =>
      rw [if_neg (by simp)]
      obtain ⟨e, he, hE⟩ := newEngine_ok ⟨hb.1, hb.2.1⟩ (by omega) (valid_cl hv)
      obtain ⟨r, e', hr, _, hiff⟩ := follows_ok ⟨hb.1, hb.2.1⟩ (by omega) (valid_cl hv) hE (clF_ok hc)
      rw [he, bsm, hr, bsm]
      exact ⟨(r, 0), rfl, by rw [if_pos ⟨rfl, rfl⟩]; exact ⟨rfl, hiff⟩⟩
def trimF (g : List (List Int) → Bool) : Nat → List (List Int) → List (List Int)
  | 0, p => p
  | i + 1, p => trimF g i (if g (p.eraseIdx i) = true then p.eraseIdx i else p)
theorem without_prog {p : List (List Int)} {i : Nat} (h : i < p.length) (hl : p.length ≤ 4294967296) : m_proof_without p (i : Int) = some (p.eraseIdx i) := by
  have s1 : sub p 0 (i : Int) = some (p.take i) := by rw [sub_ok (by decide) (by omega) (by omega)]; simp
  have s2 : sub p ((i + 1 : Nat) : Int) (p.length : Int) = some (p.drop (i + 1)) := by rw [sub_ok (by omega) (by omega) (by omega)]; simp
  have e := List.eraseIdx_eq_take_drop_succ p i
  unfold m_proof_without
  rw [s1, bsm, app_ok (by simp; omega), bsm, inK_up h (by omega), bsm, s2, bsm, app_ok (by simp; omega), bsm, e]; rfl
theorem trim_loop {body : List (List Int) × Int → Option (Step (List (List Int) × Int) (List (List Int)))} {g : List (List Int) → Bool} {P : List (List Int) → Prop} (hP : ∀ p i, P p → P (p.eraseIdx i))
    (step : ∀ p (i : Nat), P p → i < p.length → body (p, (i : Int)) = some (.next (if g (p.eraseIdx i) = true then p.eraseIdx i else p, (i : Int) - 1))) (fin : ∀ p, body (p, -1) = some (.done p)) :
    ∀ (i : Nat) (p : List (List Int)), P p → i ≤ p.length → loopM body (p, (i : Int) - 1) = some (trimF g i p)
  | 0, p, _, _ => loopM_done (fin p)
  | i + 1, p, hp, hi => by
    rw [show (((i + 1 : Nat) : Int) - 1) = (i : Int) by omega, loopM_next (step p i hp (by omega))]
    unfold trimF
    refine trim_loop hP step fin i _ ?_ ?_
    · split
      · exact hP p i hp
      · exact hp
    · split
      · rw [List.length_eraseIdx_of_lt (by omega)]; omega
      · omega
theorem PLen.erase {p : List (List Int)} (h : PLen p) (i : Nat) : PLen (p.eraseIdx i) :=
  ⟨Nat.le_trans (List.length_eraseIdx_le ..) h.1, fun c hc => h.2 c (List.mem_of_mem_eraseIdx hc)⟩
theorem provB_sub {v : Int} {q p : List (List Int)} (h : q.Sublist p) (hp : provB v p = true) : provB v q = true := by
  have := provB_iff.1 hp
  exact provB_iff.2 ⟨fun c hc => this.1 c (h.subset hc), by have := litN_sub h; omega⟩
theorem provB_erase {v : Int} {p : List (List Int)} (hp : provB v p = true) (i : Nat) : provB v (p.eraseIdx i) = true := provB_sub (List.eraseIdx_sublist ..) hp
theorem clone_rows {b : List (List Int)} (hb : PLen b) : loopM (fun s : Int × List (List Int) => m_proof_Trim_lp2 b s.1 s.2) (0, []) = some b := by
  obtain ⟨r, hr, rfl⟩ := loopN (body := fun s : Int × List (List Int) => m_proof_Trim_lp2 b s.1 s.2) (s0 := ((0 : Int), ([] : List (List Int)))) b.length (fun k t => ((k : Int), t)) (fun k t => t = b.take k) (fun r => r = b) (t0 := []) rfl (by simp) (by
      rintro k t hk rfl
      obtain ⟨c, hc⟩ := get_of_lt hk
      have h1 := hb.2 c (mem_get hc)
      have h2 := hb.1
      refine Or.inl ⟨b.take (k + 1), ?_, rfl⟩
      simp only [m_proof_Trim_lp2, ltB hk, if_true, idx_nat hc, bsm]
      first | rw [app_ok (by simp; omega), bsm] | rw [cloneI_ok (by omega), bsm]
      rw [app_ok (by simp; omega), bsm, inK_up hk (by omega), bsm, take_snoc_of hc] <;> rfl) (by
      rintro t rfl
      exact ⟨b.take b.length, by simp only [m_proof_Trim_lp2, ltB', if_false, Bool.false_eq_true], by simp⟩)
  exact hr
noncomputable def trimR (f : Formula) (p : List (List Int)) : List (List Int) × Int := if chkB f p = true then (trimF (accB f.clauses) (p.length - 1) p, 0) else ([], 1)
theorem chk_parts {f : Formula} {p : List (List Int)} (h : chkB f p = true) : validB f = true ∧ provB f.vars p = true ∧ p.getLast? = some [] ∧ accP f.clauses p := by
  unfold chkB at h
  simp only [Bool.and_eq_true] at h
  exact ⟨h.1.1, h.1.2, accB_iff.1 h.2⟩
theorem chk_acc {f : Formula} {p : List (List Int)} (hv : validB f = true) (hp : provB f.vars p = true) : chkB f p = accB f.clauses p := by unfold chkB; rw [hv, hp]; simp
theorem last_pos {p : List (List Int)} (h : p.getLast? = some []) : 0 < p.length := by
  cases p with
  | nil => simp at h
  | cons a p => simp
theorem trimF_len {g : List (List Int) → Bool} {P : List (List Int) → Prop} (hP : ∀ p i, P p → P (p.eraseIdx i)) : ∀ (i : Nat) (p : List (List Int)), P p → P (trimF g i p)
  | 0, p, hp => hp
  | i + 1, p, hp => by
    unfold trimF
    refine trimF_len hP i _ ?_
    split
    · exact hP p i hp
    · exact hp
theorem trim_prog {f : Formula} {p : List (List Int)} (hf : FLen f.clauses) (hp : PLen p) : m_proof_Trim f p = some (trimR f p) := by
  unfold m_proof_Trim trimR
  rw [check_ok hf hp, bsm]
  cases hc : chkB f p with
  | false => simp
  | true =>
    obtain ⟨hv, hpr, hg, _⟩ := chk_parts hc
    have hb := valid_bnd hv
    have hpos := last_pos hg
    have hpl := hp.1
    have hl := trim_loop (body := fun s : List (List Int) × Int => m_proof_Trim_lp1 f s.1 s.2) (g := accB f.clauses) (P := fun q => PLen q ∧ provB f.vars q = true) (fun q i h => ⟨h.1.erase i, provB_erase h.2 i⟩) (fun q i h hi => by
        have hql := h.1.1
        have hw := without_prog hi (by omega)
        have ha := accepted_ok (f := f) (p := q.eraseIdx i) ⟨hb.1, hb.2.1⟩ (by have := (h.1.erase i).1; omega) (valid_cl hv) (prov_cl (provB_erase h.2 i))
        have e1 : inK .i64 ((i : Int) - 1) = some ((i : Int) - 1) := inK_eq ⟨by omega, by omega⟩
        simp only [m_proof_Trim_lp1, show (decide (0 ≤ (i : Int))) = true by simp, if_true, hw, bsm, ha, e1]
        cases accB f.clauses (q.eraseIdx i) <;> simp) (fun q => by simp [m_proof_Trim_lp1]) (p.length - 1) p ⟨hp, hpr⟩ (by omega)
    have e2 : inK .i64 ((p.length : Int) - 2) = some (((p.length - 1 : Nat) : Int) - 1) := inK_at (by omega) ⟨by omega, by omega⟩
    have hq := trimF_len (g := accB f.clauses) (P := fun q => PLen q) (fun q i h => h.erase i) (p.length - 1) p hp
    rw [if_neg (by simp), e2, bsm, hl, bsm, clone_rows hq, bsm, if_pos rfl]
def coreF (g : List (List Int) → Bool) : Nat → List Int → List (List Int) → List Int
  | 0, o, F => o
  | i + 1, o, F => if g (F.eraseIdx i) = true then coreF g i o (F.eraseIdx i) else coreF g i ((i : Int) :: o) F
noncomputable def coreR (f : Formula) (p : List (List Int)) : List Int × Int := if chkB f p = true then (coreF (fun F => accB F p) f.clauses.length [] f.clauses, 0) else ([], 1)
theorem valid_erase {f : Formula} (h : validB f = true) (i : Nat) : validB ⟨f.vars, f.clauses.eraseIdx i⟩ = true := by
  have hb := valid_bnd h
  unfold validB
  simp only [Bool.and_eq_true, decide_eq_true_eq, List.all_eq_true]
  exact ⟨⟨⟨hb.1, hb.2.1⟩, Nat.le_trans (List.length_eraseIdx_le ..) hb.2.2.1⟩, fun c hc => hb.2.2.2 c (List.mem_of_mem_eraseIdx hc)⟩
theorem core_loop {body : Int × List Int × List (List Int) → Option (Step (Int × List Int × List (List Int)) (List Int × List (List Int)))} {g : List (List Int) → Bool} {P : List (List Int) → Prop} (fw : List Int → List Int) (hP : ∀ F i, P F → P (F.eraseIdx i))
    (step : ∀ F (i : Nat) o, P F → i < F.length → o.length + i < 1000000 → body ((i : Int), fw o, F) = some (.next (if g (F.eraseIdx i) = true then ((i : Int) - 1, fw o, F.eraseIdx i) else ((i : Int) - 1, fw ((i : Int) :: o), F)))) (fin : ∀ o F, body (-1, o, F) = some (.done (o, F))) :
    ∀ (i : Nat) (o : List Int) (F : List (List Int)), P F → i ≤ F.length → o.length + i ≤ 1000000 → ∃ F', loopM body ((i : Int) - 1, fw o, F) = some (fw (coreF g i o F), F') ∧ (coreF g i o F).length ≤ 1000000
  | 0, o, F, _, _, hl => ⟨F, loopM_done (fin _ F), by unfold coreF; omega⟩
  | i + 1, o, F, hp, hi, hl => by
    rw [show (((i + 1 : Nat) : Int) - 1) = (i : Int) by omega, loopM_next (step F i o hp (by omega) (by omega))]
    unfold coreF
    split
    · exact core_loop fw hP step fin i o _ (hP F i hp) (by rw [List.length_eraseIdx_of_lt (by omega)]; omega) (by omega)
    · exact core_loop fw hP step fin i _ F hp (by omega) (by simp; omega)
theorem core_prog {f : Formula} {p : List (List Int)} (hf : FLen f.clauses) (hp : PLen p) : m_proof_Core f p = some (coreR f p) := by
  unfold m_proof_Core coreR
  rw [check_ok hf hp, bsm]
  cases hc : chkB f p with
  | false => simp
  | true =>
    obtain ⟨hv, hpr, hg, _⟩ := chk_parts hc
    have hb := valid_bnd hv
    have hpl := hp.1
    obtain ⟨F', hl, hcl⟩ := core_loop (body := fun s : Int × List Int × List (List Int) => m_proof_Core_lp1 f p s.1 s.2.1 s.2.2) (g := fun F => accB F p) (P := fun F => validB ⟨f.vars, F⟩ = true) List.reverse (fun F i h => valid_erase (f := ⟨f.vars, F⟩) h i) (fun F i o h hi ho => by
        have hvF := valid_bnd h
        have hFl : F.length ≤ 262144 := hvF.2.2.1
        have hw := without_prog hi (by omega)
        have h2 := valid_erase (f := ⟨f.vars, F⟩) h i
        have ha := accepted_ok (f := ⟨f.vars, F.eraseIdx i⟩) (p := p) ⟨hb.1, hb.2.1⟩ (by have : (F.eraseIdx i).length ≤ 262144 := (valid_bnd h2).2.2.1; show (F.eraseIdx i).length + _ ≤ _; omega) (valid_cl h2) (prov_cl hpr)
        have e1 : inK .i64 ((i : Int) - 1) = some ((i : Int) - 1) := inK_eq ⟨by omega, by omega⟩
        have e2 : app o.reverse [(i : Int)] = some (o.reverse ++ [(i : Int)]) := app_ok (by simp; omega)
        simp only [m_proof_Core_lp1, show (decide (0 ≤ (i : Int))) = true by simp, if_true, hw, bsm, ha, e1]
        cases accB (F.eraseIdx i) p with
        | true => simp
        | false => simp only [Bool.false_eq_true, if_false, e2, bsm, List.reverse_cons]) (fun o F => by simp [m_proof_Core_lp1]) f.clauses.length [] f.clauses hv (by omega) (by simp; omega)
    have e2 : inK .i64 ((f.clauses.length : Int) - 1) = some ((f.clauses.length : Int) - 1) := inK_eq ⟨by omega, by omega⟩
    rw [List.reverse_nil] at hl
    rw [if_neg (by simp), e2, bsm, hl, bsm, if_pos rfl]
    have : m_revI (coreF (fun F => accB F p) f.clauses.length [] f.clauses).reverse = some (coreF (fun F => accB F p) f.clauses.length [] f.clauses) := by
      unfold m_revI
      rw [if_pos (by rw [List.length_reverse]; omega), List.reverse_reverse]
    rw [this, bsm]
end Go.Proofs.YtfajmelamonolaaGreatDoor

/- Numerals, and Format: the text of a formula. -/
set_option linter.unusedVariables false
set_option linter.unusedSimpArgs false
namespace Go.Proofs.YtfajmelamonolaaGreatDoor
open Go.RowKit
def bs (l : List UInt8) : ByteArray := ⟨l.toArray⟩
theorem bs_data (l : List UInt8) : (bs l).data.toList = l := by simp [bs]
theorem bs_size (l : List UInt8) : (bs l).size = l.length := by simp [bs, ByteArray.size]
theorem bs_of (s : ByteArray) : bs s.data.toList = s := by obtain ⟨⟨l⟩⟩ := s; rfl
theorem bs_inj {l m : List UInt8} (h : bs l = bs m) : l = m := by rw [← bs_data l, h, bs_data]
theorem bs_app (l m : List UInt8) : bs l ++ bs m = bs (l ++ m) := by
  rw [← bs_of (bs l ++ bs m)]
  congr 1
theorem catK_bs {l m : List UInt8} (h : l.length + m.length ≤ 4294967296) : catK (bs l) (bs m) = some (bs (l ++ m)) := by
  rw [catK_ok (by rw [bs_size, bs_size]; exact h), bs_app]
theorem wstr_bs {l m : List UInt8} (h : l.length + m.length ≤ 4294967296) : m_WStr (bs l) (bs m) = some (bs (l ++ m)) := by
  unfold m_WStr
  rw [if_pos (by rw [bs_size, bs_size]; omega), bs_app]
open Go.Lib
theorem dd_small {u : Nat} (h : u < 10) : decDigits u = [UInt8.ofNat (48 + u)] := by rw [decDigits, dif_pos h]
theorem dd_big {u : Nat} (h : ¬ u < 10) : decDigits u = decDigits (u / 10) ++ [UInt8.ofNat (48 + u % 10)] := by rw [decDigits, dif_neg h]
theorem dig_nat {d : Nat} (h : d < 10) : (UInt8.ofNat (48 + d)).toNat = 48 + d := by
  rw [UInt8.toNat_ofNat']; omega
theorem dd_ind {p : Nat → Prop} (h1 : ∀ u, u < 10 → p u) (h2 : ∀ u, ¬ u < 10 → p (u / 10) → p u) : ∀ u, p u := by
  intro u
  induction u using Nat.strongRecOn with
  | _ u ih =>
    by_cases h : u < 10
    · exact h1 u h
    · exact h2 u h (ih _ (by omega))
theorem dd_digit : ∀ (u : Nat), ∀ b ∈ decDigits u, 48 ≤ b.toNat ∧ b.toNat ≤ 57 :=
  dd_ind (fun u h b hb => by
    rw [dd_small h, List.mem_singleton] at hb
    rw [hb, dig_nat h]; omega) (fun u h ih b hb => by
    rw [dd_big h, List.mem_append, List.mem_singleton] at hb
    rcases hb with hb | rfl
    · exact ih b hb
    · rw [dig_nat (by omega)]; omega)
theorem dd_ne (u : Nat) : decDigits u ≠ [] := by
  by_cases h : u < 10
  · rw [dd_small h]; simp
  · rw [dd_big h]; simp
def valD (n : Nat) (l : List UInt8) : Nat := l.foldl (fun n b => 10 * n + (b.toNat - 48)) n
theorem dd_val : ∀ u, valD 0 (decDigits u) = u :=
  dd_ind (fun u h => by rw [dd_small h]; simp only [valD, List.foldl_cons, List.foldl_nil, dig_nat h]; omega)
    (fun u h ih => by
      rw [dd_big h]
      unfold valD at *
      rw [List.foldl_append, ih]
      simp only [List.foldl_cons, List.foldl_nil, dig_nat (show u % 10 < 10 by omega)]
      omega)
theorem dd_len : ∀ (k u : Nat), u < 10 ^ (k + 1) → (decDigits u).length ≤ k + 1
  | 0, u, h => by rw [dd_small (by simpa using h)]; simp
  | k + 1, u, h => by
    by_cases h1 : u < 10
    · rw [dd_small h1]; simp
    · rw [dd_big h1, List.length_append]
      have := dd_len k (u / 10) (by rw [Nat.pow_succ] at h; omega)
      simp only [List.length_singleton]; omega
theorem itoa_len {n : Int} (h : -9223372036854775808 ≤ n ∧ n ≤ 9223372036854775807) : (itoa n).length ≤ 20 := by
  unfold itoa
  split
  · have := dd_len 18 n.natAbs (by omega)
    simp only [List.length_cons]; omega
  · have := dd_len 18 n.toNat (by omega)
    omega
theorem itoa_ok {n : Int} (h : -9223372036854775808 ≤ n ∧ n ≤ 9223372036854775807) : m_itoa n = some (bs (itoa n)) := by
  unfold m_itoa; rw [if_pos h]; rfl
def litL (l : Int) : List UInt8 := itoa l ++ [32]
def lineL (c : List Int) : List UInt8 := c.flatMap litL ++ [48, 10]
def headL (f : Formula) : List UInt8 := [112, 32, 99, 110, 102, 32] ++ itoa f.vars ++ [32] ++ itoa (f.clauses.length : Int) ++ [10]
def fmtL (f : Formula) : List UInt8 := headL f ++ f.clauses.flatMap lineL
def Fits (cs : List (List Int)) : Prop := cs.length ≤ 10000 ∧ ∀ c ∈ cs, c.length ≤ 10000
theorem litL_len {l : Int} (h : -9223372036854775808 ≤ l ∧ l ≤ 9223372036854775807) : (litL l).length ≤ 21 := by
  have := itoa_len h
  unfold litL; simp only [List.length_append, List.length_singleton]; omega
theorem lits_len {c : List Int} (h : ∀ l ∈ c, -9223372036854775808 ≤ l ∧ l ≤ 9223372036854775807) : (c.flatMap litL).length ≤ 21 * c.length := by
  induction c with
  | nil => simp
  | cons x c ih =>
    rw [List.flatMap_cons, List.length_append, List.length_cons]
    have := litL_len (h x (List.mem_cons_self ..))
    have := ih fun l hl => h l (List.mem_cons_of_mem _ hl)
    omega
theorem lineL_len {c : List Int} (h : ∀ l ∈ c, -9223372036854775808 ≤ l ∧ l ≤ 9223372036854775807) (hc : c.length ≤ 10000) : (lineL c).length ≤ 210002 := by
  have := lits_len h
  unfold lineL; simp only [List.length_append, List.length_cons, List.length_nil]; omega
theorem lines_len : ∀ {cs : List (List Int)}, (∀ c ∈ cs, c.length ≤ 10000 ∧ ∀ l ∈ c, -9223372036854775808 ≤ l ∧ l ≤ 9223372036854775807) → (cs.flatMap lineL).length ≤ 210002 * cs.length
  | [], _ => by simp
  | c :: cs, h => by
    rw [List.flatMap_cons, List.length_append, List.length_cons]
    have h1 := h c (List.mem_cons_self ..)
    have := lineL_len h1.2 h1.1
    have := lines_len (cs := cs) fun d hd => h d (List.mem_cons_of_mem _ hd)
    omega
theorem flatMap_take {α β : Type} (g : α → List β) {l : List α} {k : Nat} {a : α} (h : l[k]? = some a) : (l.take (k + 1)).flatMap g = (l.take k).flatMap g ++ g a := by
  rw [take_snoc_of h, List.flatMap_append]; simp
end Go.Proofs.YtfajmelamonolaaGreatDoor
