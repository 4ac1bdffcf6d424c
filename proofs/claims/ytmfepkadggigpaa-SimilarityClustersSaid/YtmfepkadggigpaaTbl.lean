/-
  Tables: slices of slices that are written in place. Plain theorems over any program.
-/
import Derived.Test.YtmfepkadggigpaaMap
import Derived.Test.YtmfepkadggigpaaStr
set_option linter.unusedVariables false
set_option linter.unusedSimpArgs false
namespace Go.Proofs.Ytmfepkadggigpaa
open Go.RowKit

/-- The head of a slice. -/
def Sl : Type := { v : Value // ∃ A n c, v = .slice A n c }
def Sl.v (s : Sl) : Value := s.1
def Sl.nil : Sl := ⟨.slice none 0 0, none, 0, 0, rfl⟩
theorem Sl.one (s : Sl) : s.v.oneCell' = true := by obtain ⟨v, A, n, c, rfl⟩ := s; rfl
theorem Sl.cells (s : Sl) : s.v.cells = #[s.v] := by obtain ⟨v, A, n, c, rfl⟩ := s; rfl
instance encSl : Enc Sl := ⟨1, fun s => [s.v], fun _ => rfl, fun s v h => by rw [List.mem_singleton.1 h]; exact s.one, by decide⟩
theorem OwnSl.toSl {α : Type} [Enc α] {Z : World} {ρ : PH} {L : List Atom} {w : World} {El : TypeId} {v : Value} {l : List α} (hp : Hp Z ρ L w) (k : Nat) (hk : L[k]? = some (OwnSl El v l)) : ∃ s : Sl, s.v = v := by
  rcases (hp.get k hk).row.2 with ⟨A, rfl, _⟩ | ⟨g, off, cap, cur, rfl, _⟩
  · exact ⟨⟨_, _, _, _, rfl⟩, rfl⟩
  · exact ⟨⟨_, _, _, _, rfl⟩, rfl⟩
instance (priority := 50) repList {α : Type} [Rep α] : Rep (List α) := ⟨1, fun ρ l cs => ∃ v, cs = [v] ∧ RoSl ρ v l, fun ⟨_, h, _⟩ => by rw [h]; rfl, fun hl ⟨v, h, k⟩ => ⟨v, h, k.mono hl⟩⟩
/-- The rows of a table. -/
def RowsA {α : Type} [Enc α] (Ti : TypeId) : List Sl → List (List α) → Atom
  | [], [] => fun k => k = PH.emp
  | u :: us, r :: l => star (OwnSl Ti u.v r) (RowsA Ti us l)
  | _, _ => fun _ => False
section
variable {α : Type} [Enc α] {Ti : TypeId} {L : List Atom} {ρ h : PH}
theorem Sep.emp1 : Sep ρ ((fun k => k = PH.emp) :: L) h ↔ Sep ρ L h := by
  have e : ρ.un PH.emp = ρ := by funext b; unfold PH.un PH.emp; cases ρ b <;> rfl
  constructor
  · rintro ⟨k, rfl, d, hs⟩; rw [e] at hs; exact hs
  · intro hs; exact ⟨PH.emp, rfl, PH.dj_emp ρ, by rw [e]; exact hs⟩
theorem RowsA.len {us : List Sl} {l : List (List α)} (hs : Sep ρ (RowsA Ti us l :: L) h) : us.length = l.length := by
  induction us generalizing l ρ L with
  | nil =>
    cases l with
    | nil => rfl
    | cons r l => obtain ⟨k, a, _⟩ := hs; exact a.elim
  | cons u us ih =>
    cases l with
    | nil => obtain ⟨k, a, _⟩ := hs; exact a.elim
    | cons r l => simp only [List.length_cons]; rw [ih (Sep.swap (Sep.two.1 hs))]
/-- A row by itself. -/
theorem RowsA.take : ∀ {us : List Sl} {l : List (List α)} (i : Nat) {u : Sl} {r : List α} {ρ h : PH} {L : List Atom}, us[i]? = some u → l[i]? = some r →
    (Sep ρ (RowsA Ti us l :: L) h ↔ Sep ρ (OwnSl Ti u.v r :: RowsA Ti (us.eraseIdx i) (l.eraseIdx i) :: L) h)
  | [], _, i, _, _, _, _, _, h1, _ => by simp at h1
  | _ :: _, [], i, _, _, _, _, _, _, h2 => by simp at h2
  | u0 :: us, r0 :: l, 0, u, r, ρ, h, L, h1, h2 => by
    simp only [List.getElem?_cons_zero, Option.some.injEq] at h1 h2
    subst h1 h2
    exact Sep.two
  | u0 :: us, r0 :: l, i + 1, u, r, ρ, h, L, h1, h2 => by
    simp only [List.getElem?_cons_succ] at h1 h2
    constructor
    · intro hs
      exact Sep.cons_mono (fun ρ h => Sep.two.2) (Sep.swap (Sep.cons_mono (fun ρ h => (RowsA.take i h1 h2).1) (Sep.two.1 hs)))
    · intro hs
      exact Sep.two.2 (Sep.cons_mono (fun ρ h => (RowsA.take i h1 h2).2) (Sep.swap (Sep.cons_mono (fun ρ h => Sep.two.1) hs)))
theorem RowsA.snoc : ∀ {us : List Sl} {l : List (List α)} {u : Sl} {r : List α} {ρ h : PH} {L : List Atom}, Sep ρ (OwnSl Ti u.v r :: RowsA Ti us l :: L) h → Sep ρ (RowsA Ti (us ++ [u]) (l ++ [r]) :: L) h
  | [], [], u, r, ρ, h, L, hs => Sep.two.2 (Sep.cons_mono (fun ρ h h1 => Sep.emp1.2 (Sep.emp1.1 h1)) hs)
  | [], _ :: _, _, _, _, _, _, hs => by obtain ⟨_, _, _, k, a, _⟩ := hs; exact a.elim
  | _ :: _, [], _, _, _, _, _, hs => by obtain ⟨_, _, _, k, a, _⟩ := hs; exact a.elim
  | u0 :: us, r0 :: l, u, r, ρ, h, L, hs => Sep.two.2 (Sep.cons_mono (fun ρ h => RowsA.snoc) (Sep.swap (Sep.cons_mono (fun ρ h => Sep.two.1) hs)))
theorem RowsA.nils : ∀ (n : Nat) {ρ h : PH} {L : List Atom}, Sep ρ L h → Sep ρ (RowsA Ti (List.replicate n Sl.nil) (List.replicate n ([] : List α)) :: L) h
  | 0, _, _, _, hs => Sep.emp1.2 hs
  | n + 1, ρ, h, L, hs => Sep.two.2 (by
    have h1 := RowsA.nils n hs
    refine ⟨PH.emp, OwnSl.nil Ti, PH.dj_emp ρ, ?_⟩
    have e : ρ.un PH.emp = ρ := by funext b; unfold PH.un PH.emp; cases ρ b <;> rfl
    rw [e]; exact h1)
end
/-- A table: the outer slice, its rows' heads, its rows. -/
def TblA {α : Type} [Enc α] (T Ti : TypeId) (v : Value) (us : List Sl) (l : List (List α)) : Atom := star (OwnSl T v us) (RowsA Ti us l)
section
variable {P : Program} {ops : Array Oper} {Q : Exit → Act → World → Prop} {rest : List Oper} {o : Oper} {a : Act} {w : World} {N : Nat} {E : Ent} {d : Nat} {Z : World} {ρ : PH} {L : List Atom}
variable {α : Type} [Enc α] {T Ti To Tr : TypeId} {v : Value} {us : List Sl} {l : List (List α)} {bytes : Nat}
theorem Hp.tbl (h : Hp Z ρ (TblA T Ti v us l :: L) w) : Hp Z ρ (OwnSl T v us :: RowsA Ti us l :: L) w := h.to Sep.two.1
theorem Hp.tblShut (h : Hp Z ρ (OwnSl T v us :: RowsA Ti us l :: L) w) : Hp Z ρ (TblA T Ti v us l :: L) w := h.to Sep.two.2
theorem TblA.lens (hp : Hp Z ρ (TblA T Ti v us l :: L) w) : us.length = l.length := RowsA.len (Sep.swap hp.tbl.sep)
theorem TblA.slice (hp : Hp Z ρ L w) (k : Nat) (hk : L[k]? = some (TblA T Ti v us l)) : ∃ s : Sl, s.v = v := OwnSl.toSl (hp.get k hk).tbl 0 rfl
theorem TblA.cells (hp : Hp Z ρ L w) (k : Nat) (hk : L[k]? = some (TblA T Ti v us l)) : v.cells = #[v] := by obtain ⟨s, rfl⟩ := TblA.slice hp k hk; exact s.cells
theorem TblA.one (hp : Hp Z ρ L w) (k : Nat) (hk : L[k]? = some (TblA T Ti v us l)) : v.oneCell' = true := by obtain ⟨s, rfl⟩ := TblA.slice hp k hk; exact s.one
theorem TblA.len (hp : Hp Z ρ L w) (k : Nat) (hk : L[k]? = some (TblA T Ti v us l)) (ht : SlTy P To T 1 bytes) (w : World) (ty : TypeId) : (Builtin.len_ #[To] ty #[v]).run P w = .ok (.int .i64 l.length) w := by
  have h := (hp.get k hk)
  rw [← TblA.lens h]
  exact OwnSl.len h.tbl 0 rfl ht w ty
/-- The head of a row lies in the outer slice. -/
theorem TblA.hdr (hp : Hp Z ρ L w) (k : Nat) (hk : L[k]? = some (TblA T Ti v us l)) (ht : SlTy P To T 1 bytes) {i : Int} {r : List α} (hi : idx l i = some r) :
    ∃ (u : Sl) (g off : Nat), idx us i = some u ∧ (∀ w, (Instr.indexAt To v (.int .i64 i)).run P w = .ok (.pointer (some ⟨g, off, none⟩)) w) ∧ (∃ of0 cap, v = .slice (some ⟨g, of0, none⟩) us.length cap ∧ off = of0 + i.toNat * 1) ∧
      ∀ (j : Nat) (x : Value), [u.v][j]? = some x → ∀ ρ' L' w, Hp Z ρ' (TblA T Ti v us l :: L') w → w.cell? ⟨g, off + j, none⟩ = some x := by
  have h := (hp.get k hk)
  obtain ⟨i0, i1, i2⟩ := idx_some hi
  have hl := TblA.lens h
  have hu : idx us i = some us[i.toNat] := by unfold idx; rw [if_pos i0]; exact List.getElem?_eq_getElem (by omega)
  obtain ⟨g, off, e1, e2, e3⟩ := OwnSl.at h.tbl 0 rfl ht hu
  exact ⟨_, g, off, hu, e1, e2, fun j x hx ρ' L' w hw => e3 j x hx _ _ w hw.tbl⟩
theorem TblA.focus (hp : Hp Z ρ L w) (k : Nat) (hk : L[k]? = some (TblA T Ti v us l)) {i : Int} {u : Sl} {r : List α} (hu : idx us i = some u) (hi : idx l i = some r) :
    Hp Z ρ (OwnSl Ti u.v r :: RowsA Ti (us.eraseIdx i.toNat) (l.eraseIdx i.toNat) :: OwnSl T v us :: L.eraseIdx k) w :=
  (hp.get k hk).tbl.to fun s => (RowsA.take i.toNat (idx_some hu).2.2 (idx_some hi).2.2).1 s.swap
theorem TblA.rlen (hp : Hp Z ρ L w) (k : Nat) (hk : L[k]? = some (TblA T Ti v us l)) (ht : SlTy P Tr Ti (Enc.sz α) bytes) {i : Int} {u : Sl} {r : List α} (hu : idx us i = some u) (hi : idx l i = some r) (w : World) (ty : TypeId) : (Builtin.len_ #[Tr] ty #[u.v]).run P w = .ok (.int .i64 r.length) w :=
  OwnSl.len (TblA.focus hp k hk hu hi) 0 rfl ht w ty
/-- An element of a row. -/
theorem TblA.at (hp : Hp Z ρ L w) (k : Nat) (hk : L[k]? = some (TblA T Ti v us l)) (ht : SlTy P Tr Ti (Enc.sz α) bytes) {i j : Int} {u : Sl} {r : List α} {e : α} (hu : idx us i = some u) (hi : idx l i = some r) (hj : idx r j = some e) :
    ∃ g off, (∀ w, (Instr.indexAt Tr u.v (.int .i64 j)).run P w = .ok (.pointer (some ⟨g, off, none⟩)) w) ∧ (∃ of0 cap, u.v = .slice (some ⟨g, of0, none⟩) r.length cap ∧ off = of0 + j.toNat * Enc.sz α) ∧ ∀ (j : Nat) (x : Value), (Enc.enc e)[j]? = some x → ∀ ρ' L' w, Hp Z ρ' (TblA T Ti v us l :: L') w → w.cell? ⟨g, off + j, none⟩ = some x := by
  obtain ⟨g, off, e1, e2, e3⟩ := OwnSl.at (TblA.focus hp k hk hu hi) 0 rfl ht hj
  exact ⟨g, off, e1, e2, fun j x hx ρ' L' w hw => e3 j x hx _ _ w (TblA.focus hw 0 rfl hu hi)⟩
theorem set_self {β : Type} {l : List β} {i : Nat} {x : β} (h : l[i]? = some x) : l.set i x = l := by
  apply List.ext_getElem?
  intro j
  rw [List.getElem?_set]
  split
  · rename_i e; subst e; rw [if_pos (List.getElem?_eq_some_iff.1 h).1, h]
  · rfl
/-- The row goes back, turned. -/
theorem TblA.unfocus (k : Nat) (hk : L[k]? = some (TblA T Ti v us l)) {i : Int} {u : Sl} {r r' : List α} (hu : idx us i = some u) (hi : idx l i = some r)
    (hp : Hp Z ρ (OwnSl Ti u.v r' :: RowsA Ti (us.eraseIdx i.toNat) (l.eraseIdx i.toNat) :: OwnSl T v us :: L.eraseIdx k) w) : Hp Z ρ (L.set k (TblA T Ti v us (l.set i.toNat r'))) w := by
  obtain ⟨_, hui, hus⟩ := idx_some hu
  obtain ⟨_, hli, hls⟩ := idx_some hi
  refine Hp.put k (List.getElem?_eq_some_iff.1 hk).1 ((hp.to fun s => Sep.swap ?_).tblShut)
  refine (RowsA.take (us := us) (l := l.set i.toNat r') (r := r') i.toNat hus (by rw [List.getElem?_set_self (by omega)])).2 ?_
  have e2 : (l.set i.toNat r').eraseIdx i.toNat = l.eraseIdx i.toNat := List.eraseIdx_set_eq
  rw [e2]; exact s
/-- A cell of an element of a row is turned. -/
theorem s_tstel (wk : Region.wanted o (yielded ops a.tmps) = true) (hd : o.dst = none) (hE : Env N E a) (hp : Hp Z ρ L w) {Tx : TypeId} {x y : Operand} (ho : o.op = .store Tx x y) {g off off' : Nat} (hx : evo E x = some (.pointer (some ⟨g, off', none⟩))) {z : Value} (hy : evo E y = some z) (k : Nat) (hk : L[k]? = some (TblA T Ti v us l))
    {i j : Int} {u : Sl} {r : List α} {e : α} (hu : idx us i = some u) (hi : idx l i = some r) (hj : idx r j = some e) (hv : ∃ of0 cap, u.v = .slice (some ⟨g, of0, none⟩) r.length cap ∧ off = of0 + j.toNat * Enc.sz α) (q : Nat) {e' : α} (ht : ∀ w, (sizeOf Tx).run P w = .ok 1 w) (hoff : off' = off + q) (hc : z.cells = #[z]) (h1 : z.oneCell' = true) (he : (Enc.enc e).set q z = Enc.enc e' ∧ Nat.blt q (Enc.sz α) = true)
    (K : ∀ w, Hp Z ρ (L.set k (TblA T Ti v us (l.set i.toNat (r.set j.toNat e')))) w → wpList P ops Q rest a w) : wpList P ops Q (o :: rest) a w :=
  s_stel wk hd hE (TblA.focus hp k hk hu hi) ho hx hy 0 rfl hj hv q ht hoff hc h1 he fun w hw => K w (TblA.unfocus k hk hu hi hw)
/-- A row of one's own becomes a row of the table. -/
theorem s_tput (wk : Region.wanted o (yielded ops a.tmps) = true) (hd : o.dst = none) (hE : Env N E a) {ur : Sl} {vr : Value} (he : ur.v = vr) {r' : List α} (hp : Hp Z ρ (OwnSl Ti vr r' :: L) w) {Tx : TypeId} {x y : Operand} (ho : o.op = .store Tx x y) {g off : Nat} (hx : evo E x = some (.pointer (some ⟨g, off, none⟩))) (hy : evo E y = some vr) (k : Nat) (hk : L[k]? = some (TblA T Ti v us l))
    {i : Int} {u : Sl} {r : List α} (hu : idx us i = some u) (hi : idx l i = some r) (hv : ∃ of0 cap, v = .slice (some ⟨g, of0, none⟩) us.length cap ∧ off = of0 + i.toNat * 1) (ht : ∀ w, (sizeOf Tx).run P w = .ok 1 w)
    (K : ∀ w, Hp Z ρ (L.set k (TblA T Ti v (us.set i.toNat ur) (l.set i.toNat r'))) w → wpList P ops Q rest a w) : wpList P ops Q (o :: rest) a w := by
  subst he
  have h0 : Hp Z ρ (OwnSl T v us :: OwnSl Ti ur.v r' :: RowsA Ti us l :: L.eraseIdx k) w := (Hp.tbl (hp.get (k + 1) (A := TblA T Ti v us l) (by simpa using hk))).to fun s => Sep.cons_mono (fun ρ h => Sep.swap) s
  refine s_stel wk hd hE h0 ho hx hy 0 rfl hu hv 0 ht rfl ur.cells ur.one ⟨rfl, rfl⟩ fun w hw => K w ?_
  refine Hp.put k (List.getElem?_eq_some_iff.1 hk).1 (Hp.tblShut (hw.to fun s => ?_))
  refine Sep.cons_mono (fun ρ h s => ?_) s
  obtain ⟨_, hui, hus⟩ := idx_some hu
  obtain ⟨_, hli, hls⟩ := idx_some hi
  refine (RowsA.take (us := us.set i.toNat ur) (l := l.set i.toNat r') (u := ur) (r := r') i.toNat (by rw [List.getElem?_set_self (by omega)]) (by rw [List.getElem?_set_self (by omega)])).2 ?_
  rw [List.eraseIdx_set_eq, List.eraseIdx_set_eq]
  exact Sep.cons_mono (fun ρ h s => Sep.drop ((RowsA.take i.toNat hus hls).1 s)) s
/-- A table of rows that are empty. -/
theorem s_tmake (wk : Region.wanted o (yielded ops a.tmps) = true) (hd : o.dst = some d) (hN : Nat.blt d N = true) (hE : Env N E a) (hp : Hp Z ρ L w) {x y : Operand} (ho : o.op = .makeSlice To x y) (hu : P.underlying To = some (.slice T))
    (hi : (P.info? T).map (fun i => (i.zero.map Value.cells, i.size, i.bytes)) = some (some #[.slice none 0 0], 1, bytes)) (hby : Nat.ble bytes 16384 = true) {k k' : IntKind} {n c : Int} (hx : evo E x = some (.int k n)) (hy : evo E y = some (.int k' c)) {r : List (List α)} (hr : mkc n c ([] : List α) = some r) (Ti : TypeId)
    (K : ∀ v us a w, Env N ((d, v) :: E) a → Hp Z ρ (TblA T Ti v us r :: L) w → wpList P ops Q rest a w) : wpList P ops Q (o :: rest) a w := by
  obtain ⟨h0, h1, h2, rfl⟩ := mkc_some hr
  refine s_make (α := Sl) wk hd hN hE hp ho hu Sl.nil hi hby hx hy (r := List.replicate n.toNat Sl.nil) (by unfold mkc; rw [if_pos ⟨h0, h1, h2⟩]) fun v a w hE hp => K v _ a w hE (Hp.tblShut (hp.to fun s => Sep.cons_mono (fun ρ h s => RowsA.nils _ s) s))
/-- A table without rows. -/
theorem TblA.none (T Ti : TypeId) (A : Option Addr) : TblA T Ti (.slice A 0 0) [] ([] : List (List α)) PH.emp :=
  ⟨PH.emp, PH.emp, OwnSl.nilA T A, rfl, PH.dj_emp _, by funext b; rfl⟩
/-- A row is appended. -/
theorem s_tapp (wk : Region.wanted o (yielded ops a.tmps) = true) (hd : o.dst = some d) (hN : Nat.blt d N = true) (hE : Env N E a) {ur : Sl} {vr : Value} (he : ur.v = vr) {r' : List α} (hp : Hp Z ρ (OwnSl Ti vr r' :: L) w) {x y : Operand} (ho : o.op = .call { callee := .builtin .append, args := #[x, y], argTypes := #[To, To] }) (ht : SlTy P To T 1 bytes) (hby : Nat.ble bytes 16384 = true)
    (hx : evo E x = some v) (k : Nat) (hk : L[k]? = some (TblA T Ti v us l)) {b off c : Nat} (hy : evo E y = some (.slice (some ⟨b, off, none⟩) 1 c)) (hn : w.cell? ⟨b, off, none⟩ = some vr) {l' : List (List α)} (hr : app l [r'] = some l')
    (K : ∀ v' us' a w, Env N ((d, v') :: E) a → Hp Z ρ (L.set k (TblA T Ti v' us' l')) w → wpList P ops Q rest a w) : wpList P ops Q (o :: rest) a w := by
  obtain ⟨hlen, rfl⟩ := app_some hr
  subst he
  have h0 : Hp Z ρ (OwnSl T v us :: OwnSl Ti ur.v r' :: RowsA Ti us l :: L.eraseIdx k) w := (Hp.tbl (hp.get (k + 1) (A := TblA T Ti v us l) (by simpa using hk))).to fun s => Sep.cons_mono (fun ρ h => Sep.swap) s
  have hus := TblA.lens (hp.get (k + 1) (A := TblA T Ti v us l) (by simpa using hk))
  refine s_app (α := Sl) wk hd hN hE h0 ho ht hby hx 0 rfl hy (l2 := [ur]) (r := us ++ [ur]) rfl (fun j z hj => ?_) (by unfold app; rw [if_pos (by simp at hlen ⊢; omega)]) fun v' a w hE hw => K v' (us ++ [ur]) a w hE ?_
  · cases j with
    | zero =>
      simp only [flat, List.flatMap_cons, List.flatMap_nil, List.append_nil, Enc.enc, List.getElem?_cons_zero, Option.some.injEq] at hj
      subst hj; exact hn
    | succ j => simp [flat, Enc.enc] at hj
  · exact Hp.put k (List.getElem?_eq_some_iff.1 hk).1 (Hp.tblShut (hw.to fun s => Sep.cons_mono (fun ρ h s => RowsA.snoc s) s))
theorem RowsA.at_ : ∀ {us : List Sl} {l : List (List α)} {k : PH} (i : Nat) {u : Sl} {r : List α}, RowsA Ti us l k → us[i]? = some u → l[i]? = some r → ∃ k', OwnSl Ti u.v r k' ∧ k'.le k
  | [], _, _, i, _, _, _, h1, _ => by simp at h1
  | _ :: _, [], _, i, _, _, h, _, _ => h.elim
  | u0 :: us, r0 :: l, k, 0, u, r, h, h1, h2 => by
    obtain ⟨k1, k2, ha, hb, d, rfl⟩ := h
    simp only [List.getElem?_cons_zero, Option.some.injEq] at h1 h2
    subst h1 h2
    exact ⟨k1, ha, PH.le_un _ _⟩
  | u0 :: us, r0 :: l, k, i + 1, u, r, h, h1, h2 => by
    obtain ⟨k1, k2, ha, hb, d, rfl⟩ := h
    obtain ⟨k', h3, h4⟩ := RowsA.at_ i hb (by simpa using h1) (by simpa using h2)
    exact ⟨k', h3, h4.tr (PH.le_un_r d)⟩
/-- A table, lent: it is only read. -/
theorem TblA.ro {k : PH} (d : ρ.dj k) (h : TblA T Ti v us l k) : RoSl (ρ.un k) v l := by
  obtain ⟨k1, k2, ha, hb, d2, rfl⟩ := h
  have hl : us.length = l.length := RowsA.len (ρ := k1) (h := k1.un k2) (L := []) ⟨k2, hb, d2, PH.le.rf _⟩
  have d12 := PH.dj_un.1 d.symm
  obtain ⟨A, c, e1, e2, e3⟩ := OwnSl.ro d12.1.symm ha
  refine ⟨A, c, by rw [← hl]; exact e1, by rw [← hl]; exact e2, fun i r hi => ?_⟩
  have hlt := (List.getElem?_eq_some_iff.1 hi).1
  obtain ⟨b, o, cs, h1, h2, h3⟩ := e3 i us[i] (List.getElem?_eq_getElem (by omega))
  obtain ⟨k', h4, h5⟩ := RowsA.at_ i hb (List.getElem?_eq_getElem (by omega)) hi
  have hk : k'.le (ρ.un (k1.un k2)) := h5.tr ((PH.le_un_r d2).tr (PH.le_un_r d))
  refine ⟨b, o, cs, h1, ⟨us[i].v, h2, ?_⟩, h3.mono (by rw [← PH.un_assoc]; exact PH.le_un _ _)⟩
  have h6 : RoSl (PH.emp.un k') us[i].v r := OwnSl.ro (PH.dj_emp k').symm h4
  exact h6.mono (by
    have : PH.emp.un k' = k' := by funext x; rfl
    rw [this]; exact hk)
/-- A row is lent. -/
theorem TblA.lend (hp : Hp Z ρ L w) (k : Nat) (hk : L[k]? = some (TblA T Ti v us l)) {i : Int} {u : Sl} {r : List α} (hu : idx us i = some u) (hi : idx l i = some r) :
    ∃ κ, RoSl (ρ.un κ) u.v r ∧ Hp Z (ρ.un κ) (RowsA Ti (us.eraseIdx i.toNat) (l.eraseIdx i.toNat) :: OwnSl T v us :: L.eraseIdx k) w ∧
      ∀ w, Hp Z (ρ.un κ) (RowsA Ti (us.eraseIdx i.toNat) (l.eraseIdx i.toNat) :: OwnSl T v us :: L.eraseIdx k) w → Hp Z ρ L w := by
  obtain ⟨κ, ha, hd, h⟩ := (TblA.focus hp k hk hu hi).lend
  refine ⟨κ, OwnSl.ro hd ha, h, fun w hw => ?_⟩
  have := TblA.unfocus k hk hu hi (Hp.back ha hd hw)
  rw [set_self (idx_some hi).2.2, set_same hk] at this
  exact this
end
/-! ### Cells of values -/
theorem vc_int (k : IntKind) (n : Int) : (Value.int k n).cells = #[.int k n] := rfl
theorem vc_bool (b : Bool) : (Value.bool b).cells = #[.bool b] := rfl
theorem vc_str (b : ByteArray) : (Value.string b).cells = #[.string b] := rfl
theorem vc_slice (A : Option Addr) (n c : Nat) : (Value.slice A n c).cells = #[.slice A n c] := rfl
theorem vc_ptr (A : Option Addr) : (Value.pointer A).cells = #[.pointer A] := rfl
theorem vc_agg (cs : Array Value) : (Value.agg cs).cells = cs := rfl
/-! ### Leaving a function -/
section
variable {P : Program} {fn : Func} {R : Ending → World → Prop} {a : Act} {w : World} {N : Nat} {E : Ent}
theorem ret0n (hE : Env N E a) (hr : fn.results = #[]) (h : R (.returned (.tuple #[])) w) : bodyPost P fn R .normal a w :=
  ⟨hE.defers, _, by simp [results, hr], h⟩
theorem ret0 (hE : Env N E a) (hr : fn.results = #[]) (h : R (.returned (.tuple #[])) w) : bodyPost P fn R .ret a w :=
  ⟨hE.defers, _, by simp [results, hr], h⟩
theorem ret1n (hE : Env N E a) {t : Nat} (hr : fn.results = #[.tmp t]) {v : Value} (hv : lk E t = some v) (h : R (.returned v) w) : bodyPost P fn R .normal a w := by
  refine ⟨hE.defers, v, ?_, h⟩
  have := hE.val t v hv
  rw [results_tmp hr]
  simp [Array.getD_eq_getD_getElem?, this]
theorem run_lv1 {T : TypeId} (ht : VarTy P T false 1) {p : Addr} {v : Value} {w : World} (h : w.cell? p = some v) : (loadVar T p).run P w = .ok v w := by
  simp [loadVar, ht.agg_ w, load, Sem.run, h]
theorem run_lvN {T : TypeId} {cs : List Value} (ht : VarTy P T true cs.length) {b o : Nat} {w : World} (h : ∀ j u, cs[j]? = some u → w.cell? ⟨b, o + j, none⟩ = some u) : (loadVar T ⟨b, o, none⟩).run P w = .ok (.agg cs.toArray) w := by
  have := run_loadCells_list (P := P) (w := w) ⟨b, o, none⟩ cs (fun j v hj => by rw [Addr.add_lit]; exact h j v hj)
  simp [loadVar, ht.agg_ w, ht.size_ w, this]
theorem retc1n (hE : Env N E a) {t : Nat} {T : TypeId} (hr : fn.results = #[.cell t T]) {p : Addr} (hv : lk E t = some (.pointer (some p))) {v : Value} (hl : (loadVar T p).run P w = .ok v w) (h : R (.returned v) w) : bodyPost P fn R .normal a w := by
  refine ⟨hE.defers, v, ?_, h⟩
  have := hE.val t _ hv
  simp [results, hr, Array.getD_eq_getD_getElem?, this, asAddr, hl]
theorem retc1 (hE : Env N E a) {t : Nat} {T : TypeId} (hr : fn.results = #[.cell t T]) {p : Addr} (hv : lk E t = some (.pointer (some p))) {v : Value} (hl : (loadVar T p).run P w = .ok v w) (h : R (.returned v) w) : bodyPost P fn R .ret a w := by
  refine ⟨hE.defers, v, ?_, h⟩
  have := hE.val t _ hv
  simp [results, hr, Array.getD_eq_getD_getElem?, this, asAddr, hl]
theorem retc2 (hE : Env N E a) {t u : Nat} {T U : TypeId} (hr : fn.results = #[.cell t T, .cell u U]) {p q : Addr} (hv : lk E t = some (.pointer (some p))) (hu : lk E u = some (.pointer (some q))) {v x : Value} (hl : (loadVar T p).run P w = .ok v w) (hx : (loadVar U q).run P w = .ok x w) (h : R (.returned (.tuple #[v, x])) w) : bodyPost P fn R .ret a w := by
  refine ⟨hE.defers, _, ?_, h⟩
  have h1 := hE.val t _ hv
  have h2 := hE.val u _ hu
  simp [results, hr, Array.getD_eq_getD_getElem?, h1, h2, asAddr, hl, hx]
end
end Go.Proofs.Ytmfepkadggigpaa
