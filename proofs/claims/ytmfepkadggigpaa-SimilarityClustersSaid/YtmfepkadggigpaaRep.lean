/-
  What values stand for: elements of a fixed number of cells, slices that are only read, slices that are owned. Plain theorems over any program.
-/
import Derived.Test.YtmfepkadggigpaaOp
set_option linter.unusedVariables false
set_option linter.unusedSimpArgs false
namespace Go.Proofs.Ytmfepkadggigpaa
open Go.RowKit

/-! ### Elements that are told by their cells alone -/
class Enc (α : Type) where
  sz : Nat
  enc : α → List Value
  len : ∀ a, (enc a).length = sz
  one : ∀ a v, v ∈ enc a → v.oneCell' = true
  pos : 0 < sz
/-- Elements whose cells may point elsewhere. -/
class Rep (α : Type) where
  sz : Nat
  ok : PH → α → List Value → Prop
  len : ∀ {ρ a cs}, ok ρ a cs → cs.length = sz
  mono : ∀ {ρ ρ' a cs}, ρ.le ρ' → ok ρ a cs → ok ρ' a cs
instance (priority := 100) repEnc {α : Type} [Enc α] : Rep α := ⟨Enc.sz α, fun _ a cs => cs = Enc.enc a, fun h => by rw [h]; exact Enc.len _, fun _ h => h⟩
instance encInt : Enc Int := ⟨1, fun n => [.int .i64 n], fun _ => rfl, fun _ v h => by rw [List.mem_singleton.1 h]; rfl, by decide⟩
instance encBool : Enc Bool := ⟨1, fun b => [.bool b], fun _ => rfl, fun _ v h => by rw [List.mem_singleton.1 h]; rfl, by decide⟩
instance encStr : Enc ByteArray := ⟨1, fun b => [.string b], fun _ => rfl, fun _ v h => by rw [List.mem_singleton.1 h]; rfl, by decide⟩

/-- What a function that reads an element of a slice reads. -/
def idx {α : Type} (l : List α) (i : Int) : Option α := if 0 ≤ i then l[i.toNat]? else none
theorem idx_some {α : Type} {l : List α} {i : Int} {a : α} (h : idx l i = some a) : 0 ≤ i ∧ i < l.length ∧ l[i.toNat]? = some a := by
  unfold idx at h
  split at h
  · have := (List.getElem?_eq_some_iff.1 h).1
    exact ⟨by omega, by omega, h⟩
  · cases h

/-! ### Slices that are only read -/
def RoSl {α : Type} [Rep α] (ρ : PH) (v : Value) (l : List α) : Prop :=
  ∃ A c, v = .slice A l.length c ∧ l.length ≤ c ∧ ∀ i a, l[i]? = some a → ∃ b o cs, A = some ⟨b, o, none⟩ ∧ Rep.ok ρ a cs ∧ AtP ρ b (o + i * Rep.sz α) cs
section
variable {α : Type} [Rep α] {ρ ρ' : PH} {v : Value} {l : List α}
theorem RoSl.mono (h : RoSl ρ v l) (hl : ρ.le ρ') : RoSl ρ' v l := by
  obtain ⟨A, c, h1, h2, h3⟩ := h
  refine ⟨A, c, h1, h2, fun i a hi => ?_⟩
  obtain ⟨b, o, cs, e, h4, h5⟩ := h3 i a hi
  exact ⟨b, o, cs, e, Rep.mono hl h4, h5.mono hl⟩
theorem RoSl.nil (ρ : PH) : RoSl ρ (.slice none 0 0) ([] : List α) := ⟨none, 0, rfl, Nat.le_refl _, fun i a h => by simp at h⟩
theorem RoSl.shape (h : RoSl ρ v l) : ∃ A c, v = .slice A l.length c := by obtain ⟨A, c, h1, _⟩ := h; exact ⟨A, c, h1⟩
end
/-- A slice's type. -/
structure SlTy (P : Program) (T E : TypeId) (sz bytes : Nat) : Prop where
  und : P.underlying T = some (.slice E)
  inf : ∃ i z, P.info? E = some i ∧ i.zero = some z ∧ i.size = sz ∧ i.bytes = bytes ∧ z.cells.size = sz
theorem SlTy.of {P : Program} {T E : TypeId} {sz bytes : Nat} {z : Value} (hu : P.underlying T = some (.slice E)) (hi : (P.info? E).map (fun i => (i.zero, i.size, i.bytes)) = some (some z, sz, bytes)) (hz : z.cells.size = sz) : SlTy P T E sz bytes := by
  refine ⟨hu, ?_⟩
  cases h : P.info? E with
  | none => rw [h] at hi; cases hi
  | some i =>
    rw [h] at hi
    simp only [Option.map_some, Option.some.injEq, Prod.mk.injEq] at hi
    exact ⟨i, z, rfl, hi.1, hi.2.1, hi.2.2, hz⟩
theorem run_index {P : Program} {T E : TypeId} {sz bytes : Nat} (ht : SlTy P T E sz bytes) (b o n c : Nat) {i : Int} (h0 : 0 ≤ i) (h1 : i < n) (w : World) : (Instr.indexAt T (.slice (some ⟨b, o, none⟩) n c) (.int .i64 i)).run P w = .ok (.pointer (some ⟨b, o + i.toNat * sz, none⟩)) w := by
  obtain ⟨j, z, hi, _, hs, _⟩ := ht.inf
  simp [Instr.indexAt, asIntOf, run_underlying ht.und, sizeOf, typeInfo, hi, hs, h0, h1, Addr.add_lit]
section
variable {α : Type} [Rep α] {ρ : PH} {v : Value} {l : List α}
/-- The element of a slice that is only read: its place and its cells. -/
theorem RoSl.at {P : Program} {T E : TypeId} {bytes : Nat} (h : RoSl ρ v l) (ht : SlTy P T E (Rep.sz α) bytes) {i : Int} {a : α} (hi : idx l i = some a) :
    ∃ b o cs, (∀ w, (Instr.indexAt T v (.int .i64 i)).run P w = .ok (.pointer (some ⟨b, o, none⟩)) w) ∧ Rep.ok ρ a cs ∧ AtP ρ b o cs := by
  obtain ⟨A, c, rfl, h2, h3⟩ := h
  obtain ⟨i0, i1, i2⟩ := idx_some hi
  obtain ⟨b, o, cs, rfl, h4, h5⟩ := h3 _ a i2
  exact ⟨b, _, cs, fun w => run_index ht b o _ c i0 i1 w, h4, h5⟩
theorem run_len {P : Program} {T E : TypeId} {sz bytes : Nat} (ht : SlTy P T E sz bytes) (A : Option Addr) (n c : Nat) (w : World) (ty : TypeId) : (Builtin.len_ #[T] ty #[.slice A n c]).run P w = .ok (.int .i64 n) w := by
  simp [Builtin.len_, run_underlying ht.und, goInt]
theorem RoSl.len {P : Program} {T E : TypeId} {sz bytes : Nat} (h : RoSl ρ v l) (ht : SlTy P T E sz bytes) (w : World) (ty : TypeId) : (Builtin.len_ #[T] ty #[v]).run P w = .ok (.int .i64 l.length) w := by
  obtain ⟨A, c, rfl, _⟩ := h
  exact run_len ht A _ c w ty
end

/-! ### Elements laid flat -/
def flat {α : Type} [Enc α] (l : List α) : List Value := l.flatMap Enc.enc
section
variable {α : Type} [Enc α]
theorem flat_nil : flat ([] : List α) = [] := rfl
theorem flat_app (l m : List α) : flat (l ++ m) = flat l ++ flat m := by simp [flat]
theorem flat_cons (a : α) (l : List α) : flat (a :: l) = Enc.enc a ++ flat l := by simp [flat]
theorem flat_len : ∀ l : List α, (flat l).length = l.length * Enc.sz α
  | [] => by simp [flat]
  | a :: l => by
    rw [flat_cons, List.length_append, flat_len l, Enc.len, List.length_cons, Nat.add_mul]; omega
theorem flat_get : ∀ (l : List α) (i j : Nat) (a : α), l[i]? = some a → j < Enc.sz α → (flat l)[i * Enc.sz α + j]? = (Enc.enc a)[j]?
  | a :: l, 0, j, b, h, hj => by
    simp only [List.getElem?_cons_zero, Option.some.injEq] at h
    subst h
    rw [flat_cons, Nat.zero_mul, Nat.zero_add, List.getElem?_append_left (by rw [Enc.len]; exact hj)]
  | a :: l, i + 1, j, b, h, hj => by
    simp only [List.getElem?_cons_succ] at h
    have := flat_get l i j b h hj
    rw [flat_cons, List.getElem?_append_right (by rw [Enc.len, Nat.add_mul]; omega), Enc.len, show (i + 1) * Enc.sz α + j - Enc.sz α = i * Enc.sz α + j from by rw [Nat.add_mul]; omega]
    exact this
theorem flat_one (l : List α) : ∀ v ∈ flat l, v.oneCell' = true := fun v hv => by
  obtain ⟨a, _, h⟩ := List.mem_flatMap.1 hv
  exact Enc.one a v h
theorem flat_set : ∀ (l : List α) (i : Nat) (a b : α) (j : Nat) (u : Value), l[i]? = some a → (Enc.enc a).set j u = Enc.enc b → j < Enc.sz α → (flat l).set (i * Enc.sz α + j) u = flat (l.set i b)
  | a :: l, 0, a', b, j, u, h, he, hj => by
    simp only [List.getElem?_cons_zero, Option.some.injEq] at h
    subst h
    rw [flat_cons, Nat.zero_mul, Nat.zero_add, List.set_cons_zero, flat_cons, List.set_append, if_pos (by rw [Enc.len]; exact hj), he]
  | a :: l, i + 1, a', b, j, u, h, he, hj => by
    simp only [List.getElem?_cons_succ] at h
    rw [flat_cons, List.set_cons_succ, flat_cons, List.set_append, if_neg (by rw [Enc.len, Nat.add_mul]; omega), Enc.len, show (i + 1) * Enc.sz α + j - Enc.sz α = i * Enc.sz α + j from by rw [Nat.add_mul]; omega]
    rw [flat_set l i a' b j u h he hj]
end

/-! ### Rows that are owned -/
def Row (T : TypeId) (sz : Nat) (v : Value) (n : Nat) (xs : List Value) : Atom := fun k =>
  xs.length = n * sz ∧ ((∃ A, v = .slice A 0 0 ∧ n = 0) ∨
   ∃ g off cap cur, v = .slice (some ⟨g, off, none⟩) n cap ∧ k = PH.one g (.cells cur T (0, 0)) ∧ n ≤ cap ∧ cap ≤ maxLen ∧ cur.size = off + cap * sz ∧ (cur.toList.drop off).take (n * sz) = xs)
/-- A slice of elements that is owned. -/
def OwnSl {α : Type} [Enc α] (T : TypeId) (v : Value) (l : List α) : Atom := Row T (Enc.sz α) v l.length (flat l)
section
variable {Z : World} {ρ : PH} {L : List Atom} {w : World} {T : TypeId} {sz : Nat} {v : Value} {n : Nat} {xs : List Value}
theorem Row.nil (T : TypeId) (sz : Nat) (A : Option Addr) : Row T sz (.slice A 0 0) 0 [] PH.emp := ⟨by simp, Or.inl ⟨A, rfl, rfl⟩⟩
theorem OwnSl.nilA {α : Type} [Enc α] (T : TypeId) (A : Option Addr) : OwnSl T (.slice A 0 0) ([] : List α) PH.emp := Row.nil T _ A
theorem OwnSl.nil {α : Type} [Enc α] (T : TypeId) : OwnSl T (.slice none 0 0) ([] : List α) PH.emp := OwnSl.nilA T none
theorem Hp.emp {A : Atom} (h : Hp Z ρ L w) (a : A PH.emp) : Hp Z ρ (A :: L) w :=
  h.to fun s => ⟨PH.emp, a, PH.dj_emp ρ, by
    have : ρ.un PH.emp = ρ := by funext b; unfold PH.un PH.emp; cases ρ b <;> rfl
    rw [this]; exact s⟩
theorem Hp.imp {A B : Atom} (h : Hp Z ρ (A :: L) w) (hi : ∀ k, A k → B k) : Hp Z ρ (B :: L) w := h.to fun s => s.imp hi
/-- A row, opened: nil, or one block. -/
theorem Hp.row (h : Hp Z ρ (Row T sz v n xs :: L) w) : xs.length = n * sz ∧ ((∃ A, v = .slice A 0 0 ∧ n = 0) ∨
    ∃ g off cap cur, v = .slice (some ⟨g, off, none⟩) n cap ∧ Hp Z ρ (Pt g (.cells cur T (0, 0)) :: L) w ∧ n ≤ cap ∧ cap ≤ maxLen ∧ cur.size = off + cap * sz ∧ (cur.toList.drop off).take (n * sz) = xs) := by
  obtain ⟨k, ⟨h1, h2⟩, d, hs⟩ := h.lend
  refine ⟨h1, ?_⟩
  rcases h2 with ⟨A, rfl, rfl⟩ | ⟨g, off, cap, cur, rfl, rfl, r⟩
  · exact Or.inl ⟨A, rfl, rfl⟩
  · exact Or.inr ⟨g, off, cap, cur, rfl, Hp.back rfl d hs, r⟩
/-- .. and shut. -/
theorem Hp.shutO {g off cap : Nat} {cur : Array Value} (h : Hp Z ρ (Pt g (.cells cur T (0, 0)) :: L) w) (h1 : n ≤ cap) (h2 : cap ≤ maxLen) (h3 : cur.size = off + cap * sz) (h4 : (cur.toList.drop off).take (n * sz) = xs) : Hp Z ρ (Row T sz (.slice (some ⟨g, off, none⟩) n cap) n xs :: L) w :=
  h.imp fun k hk => ⟨by
    rw [← h4, List.length_take, List.length_drop, Array.length_toList, h3, Nat.add_sub_cancel_left]
    exact Nat.min_eq_left (Nat.mul_le_mul_right _ h1), Or.inr ⟨g, off, cap, cur, rfl, hk, h1, h2, h3, h4⟩⟩
theorem Hp.shut {g cap : Nat} {cur : Array Value} (h : Hp Z ρ (Pt g (.cells cur T (0, 0)) :: L) w) (h1 : n ≤ cap) (h2 : cap ≤ maxLen) (h3 : cur.size = cap * sz) (h4 : cur.toList.take (n * sz) = xs) : Hp Z ρ (Row T sz (.slice (some ⟨g, 0, none⟩) n cap) n xs :: L) w :=
  h.shutO h1 h2 (by rw [h3, Nat.zero_add]) (by rw [List.drop_zero]; exact h4)
theorem Hp.set {b : Nat} {o o' : Obj} {w' : World} (h : Hp Z ρ (Pt b o :: L) w) (ho : w'.os = w.os) (ht : w'.tape = w.tape) (hu : w'.output = w.output) (hb : w'.heap[b]? = some o') (hr : ∀ k, k ≠ b → w'.heap[k]? = w.heap[k]?) : Hp Z ρ (Pt b o' :: L) w' := by
  refine h.with_ ho ht hu (h.sep.write fun k hk _ => ?_)
  have hk' : k = PH.one b o := hk
  subst hk'
  refine ⟨PH.one b o', rfl, PH.one_le hb, fun c u e => ?_, fun c hc => Or.inl ?_⟩
  · unfold PH.minus PH.one at e
    by_cases hcb : c = b
    · simp [hcb] at e
    · simp [hcb] at e
      show w'.heap[c]? = some u
      rw [hr c hcb]; exact e
  · unfold PH.one at hc ⊢
    by_cases hcb : c = b
    · simp [hcb]
    · simp [hcb] at hc
theorem Hp.new {o : Obj} {w' : World} {A : Atom} (h : Hp Z ρ (A :: L) w) (ho : w'.os = w.os) (ht : w'.tape = w.tape) (hu : w'.output = w.output) (hh : w'.heap = w.heap.push o) : Hp Z ρ (Pt w.heap.size o :: L) w' := by
  have := h.drop.alloc o
  exact ⟨ho.trans h.os, ht.trans h.tape, hu.trans h.output, by
    have e : hp w' = hp (w.alloc o) := by funext b; show w'.heap[b]? = (w.heap.push o)[b]?; rw [hh]
    rw [e]; exact this.sep⟩
/-- 'append': what is appended lies readable. -/
theorem run_app {P : Program} {t E : TypeId} {bytes : Nat} (ht : SlTy P t E sz bytes) (hsz : 0 < sz) (ty : TypeId) (hp : Hp Z ρ (Row E sz v n xs :: L) w) (ad : Addr) (m c : Nat) (news : List Value) (hl : news.length = m * sz) (hnews : ∀ j u, news[j]? = some u → w.cell? (ad.add j) = some u) (h1 : ∀ u ∈ news, u.oneCell' = true)
    (h63 : n + m ≤ maxLen) (hbytes : (n + m) * bytes ≤ 140737488355328) :
    ∃ v' w', (Builtin.append_ #[t, t] ty #[v, .slice (some ad) m c]).run P w = .ok v' w' ∧ Hp Z ρ (Row E sz v' (n + m) (xs ++ news) :: L) w' := by
  obtain ⟨i, z, hi, hz, hsize, hby, hzs⟩ := ht.inf
  subst hsize
  subst hby
  obtain ⟨hxl, hown⟩ := hp.row
  have hlen : (xs ++ news).length = (n + m) * i.size := by rw [List.length_append, hxl, hl, Nat.add_mul]
  have grown : ∀ (old : Nat), old < n + m → 
      Hp Z ρ (Row E i.size (.slice (some ⟨w.heap.size, 0, none⟩) (n + m) (grownCap w (n + m) old E)) (n + m) (xs ++ news) :: L) (w.drew.alloc (.cells (xs.toArray ++ news.toArray ++ Builtin.zeroCells z.cells (grownCap w (n + m) old E - (n + m))) E)) := by
    intro old ho
    have hge := grownCap_ge w (n + m) old E
    have hcm : grownCap w (n + m) old E ≤ maxLen := grownCap_le_maxLen w (n + m) old E h63
    refine (hp.drop.drew.alloc _).shut hge hcm ?_ ?_
    · simp only [Array.size_append, List.size_toArray, size_zeroCells, hzs, hxl, hl, ← Nat.add_mul]
      congr 1
      omega
    · simp only [Array.toList_append, List.append_assoc]
      rw [← List.append_assoc, ← hlen]
      exact List.take_left
  rcases hown with ⟨A, rfl, rfl⟩ | ⟨g, off, cap, cur, rfl, hpt, hnc, hcm, hcs, htake⟩
  · have hx : xs = [] := List.eq_nil_of_length_eq_zero (by simpa using hxl)
    subst hx
    by_cases hm : m = 0
    · subst hm
      have hn : news = [] := List.eq_nil_of_length_eq_zero (by simpa using hl)
      subst hn
      refine ⟨.slice A 0 0, w, ?_, hp⟩
      cases A <;> simp [Builtin.append_, run_underlying ht.und, sizeOf, typeInfo, hi, Builtin.lenOf, Builtin.firstCells, loadCells, loadCellsFrom, storeCells]
    · cases A with
      | some ab =>
        have hr := run_append_grow (P := P) w t ty E i z ht.und hi hz ab 0 0 [] (by simp) (fun j u hu => by simp at hu) ad m c news hl hnews (by omega) (by simp only [maxLen] at h63; omega) (growslice_fits (by omega) (by simpa using hbytes))
        have hgr := grown 0 (by omega)
        simp only [Nat.zero_add, List.nil_append, Array.empty_append] at hgr hr ⊢
        exact ⟨_, _, hr, hgr⟩
      | none =>
      have hr := run_append_nil (P := P) w t ty E i z ht.und hi hz ad m c news hl hnews (by omega) (by simp only [maxLen] at h63; omega) (by have hb := hbytes; simp only [Nat.zero_add] at hb; omega)
      have hgr := grown 0 (by omega)
      simp only [Nat.zero_add, List.nil_append, Array.empty_append] at hgr ⊢
      exact ⟨_, _, hr, hgr⟩
  · have hg := hpt.look 0 rfl
    by_cases hroom : n + m ≤ cap
    · have hfit : off + n * i.size + news.length ≤ cur.size := by
        have := Nat.mul_le_mul_right i.size hroom
        rw [hl, hcs, Nat.add_assoc, ← Nat.add_mul]; omega
      have hf := run_firstCells_some (P := P) w i.size m ad m c news hl hnews
      have hst := run_storeCells_at P g (off + n * i.size) E news 0 cur w hg (by simpa using hfit) h1
      simp only [Nat.add_zero] at hst
      have hr : (Builtin.append_ #[t, t] ty #[.slice (some ⟨g, off, none⟩) n cap, .slice (some ad) m c]).run P w =
          .ok (.slice (some ⟨g, off, none⟩) (n + m) cap) (w.setRow g (cur.toList.take (off + n * i.size) ++ news ++ cur.toList.drop (off + n * i.size + news.length)).toArray) := by
        simp [Builtin.append_, run_underlying ht.und, sizeOf, typeInfo, hi, Builtin.lenOf, hroom, hf, Addr.add_lit, hst]
      refine ⟨_, _, hr, (Hp.set (w' := w.setRow g _) hpt rfl rfl rfl (setRow_heap w g cur _ E _ hg) (fun k hk => setRow_other w g k _ hk)).shutO hroom hcm ?_ ?_⟩
      · simp only [List.size_toArray, List.length_append, List.length_take, List.length_drop, Array.length_toList]
        omega
      · have e1 : (cur.toList.take (off + n * i.size)).length = off + n * i.size := by rw [List.length_take, Array.length_toList]; omega
        have e2 : (cur.toList.take (off + n * i.size)).drop off = xs := by
          rw [← htake, List.drop_take, Nat.add_sub_cancel_left]
        show List.take ((n + m) * i.size) (List.drop off (cur.toList.take (off + n * i.size) ++ news ++ cur.toList.drop (off + n * i.size + news.length))) = xs ++ news
        rw [List.append_assoc, List.drop_append_of_le_length (by omega), e2, ← List.append_assoc, ← hlen]
        exact List.take_left
    · have holds : ∀ j u, xs[j]? = some u → w.cell? ((⟨g, off, none⟩ : Addr).add j) = some u := by
        intro j u hu
        rw [Addr.add_lit, cell_of_row w g _ cur E (0, 0) hg]
        rw [← htake, List.getElem?_take] at hu
        split at hu
        · rw [List.getElem?_drop] at hu
          simpa using hu
        · cases hu
      have hr := run_append_grow (P := P) w t ty E i z ht.und hi hz ⟨g, off, none⟩ n cap xs hxl holds ad m c news hl hnews (by omega) (by simp only [maxLen] at h63; omega) (growslice_fits (by omega) hbytes)
      exact ⟨_, _, hr, grown cap (by omega)⟩
end
end Go.Proofs.Ytmfepkadggigpaa
