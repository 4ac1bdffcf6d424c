/-
  Maps of slices: the map's own part holds the heads, another part the rows. Plain theorems over any program.
-/
import Derived.Test.YtmfepkadggigpaaTbl
import Derived.Test.YtmfepkadggigpaaMapE
set_option linter.unusedVariables false
set_option linter.unusedSimpArgs false
namespace Go.Proofs.Ytmfepkadggigpaa
open Vl (vl)
open Go.RowKit
open Go.ChangeMaps (setBlock)
instance vlSl : Vl Sl := ⟨fun s => s.v⟩
/-- The element of a key is turned, if there is one. -/
def mset {κ β : Type} [DecidableEq κ] (l : List (κ × β)) (k : κ) (v : β) : List (κ × β) := if mhas l k then mput l k v else l
/-- Two keys are one. -/
def guardEq {κ : Type} [DecidableEq κ] (a b : κ) : Option Unit := if a = b then some () else none
theorem guardEq_some {κ : Type} [DecidableEq κ] {a b : κ} {u : Unit} (h : guardEq a b = some u) : a = b := by
  unfold guardEq at h; split at h
  · assumption
  · cases h
section
variable {κ β : Type} [DecidableEq κ]
theorem mhas_iff {l : List (κ × β)} {k : κ} : mhas l k = true ↔ k ∈ l.map (·.1) := by
  unfold mhas mget
  rw [Option.isSome_map, List.find?_isSome]
  simp
theorem mget_mem {l : List (κ × β)} (hn : (l.map (·.1)).Nodup) {k : κ} {v : β} (h : (k, v) ∈ l) : mget l k = some v := by
  obtain ⟨j, hj⟩ := List.getElem?_of_mem h
  exact mget_at hn hj
theorem filter_ne {l : List (κ × β)} (hn : (l.map (·.1)).Nodup) {k : κ} {j : Nat} (h : (l.map (·.1))[j]? = some k) : l.filter (fun p => !decide (p.1 = k)) = l.eraseIdx j := by
  induction l generalizing j with
  | nil => simp at h
  | cons p l ih =>
    rw [List.map_cons, List.nodup_cons] at hn
    cases j with
    | zero =>
      simp at h
      rw [List.filter_cons_of_neg (by simp [h]), List.eraseIdx_cons_zero]
      refine List.filter_eq_self.2 fun q hq => ?_
      simp only [Bool.not_eq_true', decide_eq_false_iff_not]
      intro e
      exact hn.1 (by rw [h, ← e]; exact List.mem_map_of_mem hq)
    | succ j =>
      simp only [List.map_cons, List.getElem?_cons_succ] at h
      have hne : ¬ p.1 = k := fun e => hn.1 (by rw [e]; exact List.mem_of_getElem? h)
      rw [List.filter_cons_of_pos (by simp [hne]), ih hn.2 h]; rfl
theorem filter_all {l : List (κ × β)} {k : κ} (h : k ∉ l.map (·.1)) : l.filter (fun p => !decide (p.1 = k)) = l := by
  refine List.filter_eq_self.2 fun q hq => ?_
  simp only [Bool.not_eq_true', decide_eq_false_iff_not]
  intro e
  exact h (by rw [← e]; exact List.mem_map_of_mem hq)
theorem mget_idx {l : List (κ × β)} (hn : (l.map (·.1)).Nodup) {k : κ} {j : Nat} (h : (l.map (·.1))[j]? = some k) : ∃ v, l[j]? = some (k, v) ∧ mget l k = some v := by
  rw [List.getElem?_map] at h
  obtain ⟨p, hp, rfl⟩ := Option.map_eq_some_iff.1 h
  exact ⟨p.2, hp, mget_at hn hp⟩
theorem map_eraseIdx {γ δ : Type} (f : γ → δ) (l : List γ) (i : Nat) : (l.eraseIdx i).map f = (l.map f).eraseIdx i := map_erase f l i
theorem mput_keys_eq {l : List (κ × β)} {γ : Type} {m : List (κ × γ)} (h : l.map (·.1) = m.map (·.1)) (k : κ) (v : β) (u : γ) : (mput l k v).map (·.1) = (mput m k u).map (·.1) := by
  rw [mput_keys, mput_keys, h]
theorem mput_nodup {l : List (κ × β)} (h : (l.map (·.1)).Nodup) (k : κ) (v : β) : ((mput l k v).map (·.1)).Nodup := by
  rw [mput_keys]
  split
  · exact h
  · rename_i hk
    rw [List.nodup_append]
    refine ⟨h, by simp, fun a ha b hb => ?_⟩
    rw [List.mem_singleton.1 hb]
    intro e; exact hk (e ▸ ha)
end
/-- What is got whatever the order of the keys. -/
theorem foldP_keys {κ β σ γ : Type} (body : κ → σ → Option (Step σ γ)) (fin : σ → Option γ) : ∀ (p : List (κ × β)) (s : σ), foldP (fun (e : κ × β) s => body e.1 s) fin p s = foldP body fin (p.map (·.1)) s
  | [], s => rfl
  | e :: p, s => by
    simp only [foldP, List.map_cons]
    cases body e.1 s with
    | none => rfl
    | some st => cases st with
      | next s' => exact foldP_keys body fin p s'
      | done b => rfl
theorem permM_keys {κ β σ γ : Type} {body : κ → σ → Option (Step σ γ)} {fin : σ → Option γ} {us : List (κ × β)} {ks : List κ} {s : σ} {b : γ} (hk : us.map (·.1) = ks) (h : permM ks (fun p => foldP body fin p s) = some b) : permM us (fun p => foldP (fun (e : κ × β) s => body e.1 s) fin p s) = some b := by
  rw [permM_iff] at h ⊢
  intro p hp
  show foldP (fun (e : κ × β) s => body e.1 s) fin p s = some b
  rw [foldP_keys]
  exact h _ (by rw [← hk]; exact hp.map _)
section
variable {κ α : Type} [DecidableEq κ] [Enc α]
/-- The rows of a map. -/
def RowsM (Ti : TypeId) (us : List (κ × Sl)) (l : List (κ × List α)) : Atom := fun h => RowsA Ti (us.map Prod.snd) (l.map Prod.snd) h ∧ us.map (·.1) = l.map (·.1) ∧ (us.map (·.1)).Nodup
/-- The rows of a map, but for that of a key. -/
def RowsX (Ti : TypeId) (us : List (κ × Sl)) (l : List (κ × List α)) (k : κ) : Atom := fun h => RowsA Ti ((us.filter fun p => !decide (p.1 = k)).map Prod.snd) ((l.filter fun p => !decide (p.1 = k)).map Prod.snd) h ∧ us.map (·.1) = l.map (·.1) ∧ (us.map (·.1)).Nodup
omit [DecidableEq κ] in
theorem RowsM.nil (Ti : TypeId) : RowsM Ti ([] : List (κ × Sl)) ([] : List (κ × List α)) PH.emp := ⟨rfl, rfl, by simp⟩
/-- What is told of the rows that are only read. -/
def RowsRo (ρ : PH) (us : List (κ × Sl)) (l : List (κ × List α)) : Prop := us.map (·.1) = l.map (·.1) ∧ (us.map (·.1)).Nodup ∧ ∀ k, RoSl ρ ((mget us k).getD Sl.nil).v ((mget l k).getD [])
variable {Z : World} {ρ : PH} {L : List Atom} {w : World} {Ti : TypeId} {us : List (κ × Sl)} {l : List (κ × List α)} {k : κ} {v : Value}
omit [DecidableEq κ] in
theorem RowsM.keys (h : Hp Z ρ (RowsM Ti us l :: L) w) : us.map (·.1) = l.map (·.1) := (Hp.fact (A := RowsA Ti (us.map Prod.snd) (l.map Prod.snd)) h).2.1
omit [DecidableEq κ] [Enc α] in
theorem Hp.addFact {A : Atom} {p : Prop} (h : Hp Z ρ (A :: L) w) (hp : p) : Hp Z ρ ((fun k => A k ∧ p) :: L) w := h.imp fun _ a => ⟨a, hp⟩
/-- The row of a key by itself. -/
theorem RowsM.take (h : Hp Z ρ (RowsM Ti us l :: L) w) (k : κ) : Hp Z ρ (OwnSl Ti ((mget us k).getD Sl.nil).v ((mget l k).getD []) :: RowsX Ti us l k :: L) w := by
  obtain ⟨hr, hk, hn⟩ := Hp.fact (A := RowsA Ti (us.map Prod.snd) (l.map Prod.snd)) h
  have hn2 : (l.map (·.1)).Nodup := hk ▸ hn
  have done : Hp Z ρ (OwnSl Ti ((mget us k).getD Sl.nil).v ((mget l k).getD []) :: RowsA Ti ((us.filter fun p => !decide (p.1 = k)).map Prod.snd) ((l.filter fun p => !decide (p.1 = k)).map Prod.snd) :: L) w := by
    by_cases hm : k ∈ us.map (·.1)
    · obtain ⟨j, hj⟩ := List.getElem?_of_mem hm
      obtain ⟨u, hu, hu2⟩ := mget_idx hn hj
      have hj2 : (l.map (·.1))[j]? = some k := hk ▸ hj
      obtain ⟨r, hr1, hr2⟩ := mget_idx hn2 hj2
      rw [hu2, hr2, filter_ne hn hj, filter_ne hn2 hj2, map_eraseIdx, map_eraseIdx]
      exact hr.to fun s => (RowsA.take j (by rw [List.getElem?_map, hu]; rfl) (by rw [List.getElem?_map, hr1]; rfl)).1 s
    · rw [mget_none hm, mget_none (hk ▸ hm), filter_all hm, filter_all (hk ▸ hm)]
      exact hr.emp (OwnSl.nil Ti)
  exact (((done.get 1 rfl).addFact ⟨hk, hn⟩).get 1 rfl)
theorem RowsM.takev (he : ((mget us k).getD Sl.nil).v = v) (h : Hp Z ρ (RowsM Ti us l :: L) w) : Hp Z ρ (OwnSl Ti v ((mget l k).getD []) :: RowsX Ti us l k :: L) w := he ▸ RowsM.take h k
/-- A row of one's own becomes the row of the key. -/
theorem RowsX.put {s : Sl} {v : Value} (he : s.v = v) {r : List α} (h : Hp Z ρ (OwnSl Ti v r :: RowsX Ti us l k :: L) w) : Hp Z ρ (RowsM Ti (mput us k s) (mput l k r) :: L) w := by
  subst he
  obtain ⟨h1, hk, hn⟩ := Hp.fact (A := RowsA Ti ((us.filter fun p => !decide (p.1 = k)).map Prod.snd) ((l.filter fun p => !decide (p.1 = k)).map Prod.snd)) (h.get 1 rfl)
  have hr := h1.get 1 rfl
  have hn2 : (l.map (·.1)).Nodup := hk ▸ hn
  refine Hp.addFact ?_ ⟨mput_keys_eq hk k s r, mput_nodup hn k s⟩
  by_cases hm : k ∈ us.map (·.1)
  · obtain ⟨j, hj⟩ := List.getElem?_of_mem hm
    have hj2 : (l.map (·.1))[j]? = some k := hk ▸ hj
    have hl1 := (List.getElem?_eq_some_iff.1 hj).1
    have hl2 := (List.getElem?_eq_some_iff.1 hj2).1
    rw [List.length_map] at hl1 hl2
    rw [mput_at hn hj, mput_at hn2 hj2]
    rw [filter_ne hn hj, filter_ne hn2 hj2, map_eraseIdx, map_eraseIdx] at hr
    refine hr.to fun t => (RowsA.take j (u := s) (r := r) (by rw [List.map_set, List.getElem?_set_self (by simpa using hl1)]) (by rw [List.map_set, List.getElem?_set_self (by simpa using hl2)])).2 ?_
    rw [List.map_set, List.map_set, List.eraseIdx_set_eq, List.eraseIdx_set_eq]
    exact t
  · rw [mput_new hm, mput_new (hk ▸ hm), List.map_append, List.map_append]
    rw [filter_all hm, filter_all (hk ▸ hm)] at hr
    exact hr.to fun t => RowsA.snoc t
/-- The row goes back; its head is the same. -/
theorem RowsX.back {v : Value} (he : ((mget us k).getD Sl.nil).v = v) {r : List α} (h : Hp Z ρ (OwnSl Ti v r :: RowsX Ti us l k :: L) w) : Hp Z ρ (RowsM Ti us (mset l k r) :: L) w := by
  subst he
  obtain ⟨h1, hk, hn⟩ := Hp.fact (A := RowsA Ti ((us.filter fun p => !decide (p.1 = k)).map Prod.snd) ((l.filter fun p => !decide (p.1 = k)).map Prod.snd)) (h.get 1 rfl)
  have hr := h1.get 1 rfl
  have hn2 : (l.map (·.1)).Nodup := hk ▸ hn
  unfold mset
  by_cases hm : k ∈ us.map (·.1)
  · rw [if_pos (mhas_iff.2 (hk ▸ hm))]
    refine Hp.addFact ?_ ⟨by rw [mput_keys, if_pos (hk ▸ hm)]; exact hk, hn⟩
    obtain ⟨j, hj⟩ := List.getElem?_of_mem hm
    have hj2 : (l.map (·.1))[j]? = some k := hk ▸ hj
    obtain ⟨u, hu, hu2⟩ := mget_idx hn hj
    have hl2 := (List.getElem?_eq_some_iff.1 hj2).1
    rw [List.length_map] at hl2
    rw [mput_at hn2 hj2]
    rw [hu2, filter_ne hn hj, filter_ne hn2 hj2, map_eraseIdx, map_eraseIdx] at hr
    refine hr.to fun t => (RowsA.take j (u := u) (r := r) (by rw [List.getElem?_map, hu]; rfl) (by rw [List.map_set, List.getElem?_set_self (by simpa using hl2)])).2 ?_
    rw [List.map_set, List.eraseIdx_set_eq]
    exact t
  · rw [if_neg (fun h => hm (hk ▸ mhas_iff.1 h))]
    refine Hp.addFact ?_ ⟨hk, hn⟩
    rw [filter_all hm, filter_all (hk ▸ hm)] at hr
    exact hr.drop
theorem RowsX.back0 {v : Value} (he : ((mget us k).getD Sl.nil).v = v) (h : Hp Z ρ (OwnSl Ti v ((mget l k).getD []) :: RowsX Ti us l k :: L) w) : Hp Z ρ (RowsM Ti us l :: L) w := by
  have h2 := RowsX.back he h
  have hkn := (Hp.fact (A := RowsA Ti ((us.filter fun p => !decide (p.1 = k)).map Prod.snd) ((l.filter fun p => !decide (p.1 = k)).map Prod.snd)) (h.get 1 rfl)).2
  have e : mset l k ((mget l k).getD []) = l := by
    unfold mset
    split
    · rename_i hm
      obtain ⟨j, hj⟩ := List.getElem?_of_mem (mhas_iff.1 hm)
      obtain ⟨r, hr1, hr2⟩ := mget_idx (hkn.1 ▸ hkn.2) hj
      rw [mput_at (hkn.1 ▸ hkn.2) hj, hr2]
      exact set_self hr1
    · rfl
  rw [e] at h2
  exact h2
/-- Rows, lent: they are only read. -/
theorem RowsM.ro {h : PH} (d : ρ.dj h) (a : RowsM Ti us l h) : RowsRo (ρ.un h) us l := by
  obtain ⟨hr, hk, hn⟩ := a
  have hn2 : (l.map (·.1)).Nodup := hk ▸ hn
  refine ⟨hk, hn, fun k => ?_⟩
  by_cases hm : k ∈ us.map (·.1)
  · obtain ⟨j, hj⟩ := List.getElem?_of_mem hm
    obtain ⟨u, hu, hu2⟩ := mget_idx hn hj
    obtain ⟨r, hr1, hr2⟩ := mget_idx hn2 (hk ▸ hj : (l.map (·.1))[j]? = some k)
    rw [hu2, hr2]
    obtain ⟨k', h4, h5⟩ := RowsA.at_ j hr (by rw [List.getElem?_map, hu]; rfl) (by rw [List.getElem?_map, hr1]; rfl)
    have h6 : RoSl (PH.emp.un k') u.v r := OwnSl.ro (PH.dj_emp k').symm h4
    exact h6.mono (by
      have : PH.emp.un k' = k' := by funext x; rfl
      rw [this]; exact h5.tr (PH.le_un_r d))
  · rw [mget_none hm, mget_none (hk ▸ hm)]
    exact RoSl.nil _
theorem RowsRo.mono {ρ' : PH} (h : RowsRo ρ us l) (hl : ρ.le ρ') : RowsRo ρ' us l := ⟨h.1, h.2.1, fun k => (h.2.2 k).mono hl⟩
theorem RowsRo.get (h : RowsRo ρ us l) (k : κ) : ∃ v, ((mget us k).getD Sl.nil).v = v ∧ RoSl ρ v ((mget l k).getD []) := ⟨_, rfl, h.2.2 k⟩
theorem RowsRo.at_ (h : RowsRo ρ us l) {u : Sl} (hm : (k, u) ∈ us) : RoSl ρ (vl u) ((mget l k).getD []) := by
  have := h.2.2 k
  rw [mget_mem h.2.1 hm] at this
  exact this
end
theorem mem_of_perm {ε : Type} {e : ε} {l rem rem' : List ε} (hs : rem.Sublist l) (hp : rem.Perm (e :: rem')) : e ∈ l := hs.subset (hp.symm.subset (by simp))
section
variable {P : Program} {ops : Array Oper} {Q : Exit → Act → World → Prop} {rest : List Oper} {o : Oper} {a : Act} {w : World} {N : Nat} {E : Ent} {d : Nat} {Z : World} {ρ : PH} {L : List Atom}
variable {κ β : Type} [Vl κ] [Vl β]
theorem MapIt.sub {b r : Nat} {l rem : List (κ × β)} {cur : Option (κ × β)} (h : Hp Z ρ (MapIt b r l rem cur :: L) w) : rem.Sublist l := by
  obtain ⟨es, clock, since, seen, last, _, _, _, _, _, _, h5, _⟩ := h.it
  exact h5
theorem MapIt.mem {b r : Nat} {l rem rem' : List (κ × β)} {cur : Option (κ × β)} {e : κ × β} (h : Hp Z ρ (MapIt b r l rem cur :: L) w) (hp : rem.Perm (e :: rem')) : e ∈ l := (MapIt.sub h).subset (hp.symm.subset (by simp))
variable [DecidableEq κ]
/-- A lookup in a map over which a range goes. -/
theorem ex_mgetI0 {kt et T : TypeId} (K : KT P kt κ) (hT : P.underlying T = some (.map kt et)) {zd : β} (hz : ∀ w, (zeroValue et).run P w = .ok (vl zd) w) {x y : Operand} (ho : o.op = .lookup T x y false) (hE : Env N E a) (i : Nat) {b r : Nat} {l rem : List (κ × β)} {cur : Option (κ × β)} {k : κ} (hx : evo E x = some (.map (some b))) (hy : evo E y = some (vl k)) (hi : L[i]? = some (MapIt b r l rem cur)) :
    Ex P (Hp Z ρ L) a o (vl ((mget l k).getD zd)) := by
  intro w hw
  have h1 := MapIt.done (hw.get i hi)
  have := ex_mget0 (Z := Z) (ρ := ρ) K hT hz ho hE 0 (L := MapA b l :: L.eraseIdx i) hx hy rfl w h1
  exact this
/-- A store whose value goes by another name. -/
theorem s_mputT {kt et T : TypeId} (K : KT P kt κ) (hT : P.underlying T = some (.map kt et)) (wk : Region.wanted o (yielded ops a.tmps) = true) (hd : o.dst = none) (hE : Env N E a) (hp : Hp Z ρ L w) {x y u : Operand} (ho : o.op = .mapUpdate T x y u) (i : Nat) {b : Nat} {l : List (κ × Sl)} {k k' : κ} {s : Sl} {v : Value} (he : s.v = v) (hk : k' = k) (hx : evo E x = some (.map (some b))) (hy : evo E y = some (vl k')) (hu : evo E u = some v) (hi : L[i]? = some (MapA b l))
    (C : ∀ w, Hp Z ρ (L.set i (MapA b (mput l k s))) w → wpList P ops Q rest a w) : wpList P ops Q (o :: rest) a w := by
  subst he hk
  exact s_mput K hT wk hd hE hp ho i hx hy (v := s) hu hi C
end
end Go.Proofs.Ytmfepkadggigpaa
