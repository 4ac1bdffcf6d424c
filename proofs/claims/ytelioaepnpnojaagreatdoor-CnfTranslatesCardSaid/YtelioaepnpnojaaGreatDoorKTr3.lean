/- Tables: slices of slices that are written in place. Plain theorems over any program. -/
import Derived.Test.YtelioaepnpnojaaGreatDoorKTr2
import Derived.Test.YtelioaepnpnojaaGreatDoorProg
import Derived.Sort.OwnSortedInts
import Derived.Lib.ItoaNum
import Derived.Lib.LaidTab
import Derived.LaidLaws
import Derived.Handed
import Derived.HandedShaped
import Derived.Shelf.Vars
import Derived.MakeChecks
import Derived.Lay
import Derived.Test.YtelioaepnpnojaaGreatDoorRows
import Derived.Lib.SlicesCompact
import Derived.Lib.AtoiAll
import Derived.Lib.IndexMore
import Derived.Lib.Split
set_option linter.unusedVariables false
set_option linter.unusedSimpArgs false
namespace Go.Proofs.YtelioaepnpnojaaGreatDoor
open Go.RowKit
def Sl : Type := { v : Value // ∃ A n c, v = .slice A n c }
def Sl.v (s : Sl) : Value := s.1
def Sl.nil : Sl := ⟨.slice none 0 0, none, 0, 0, rfl⟩
theorem Sl.one (s : Sl) : s.v.oneCell' = true := by obtain ⟨v, A, n, c, rfl⟩ := s; rfl
theorem Sl.cells (s : Sl) : s.v.cells = #[s.v] := by obtain ⟨v, A, n, c, rfl⟩ := s; rfl
instance encSl : Enc Sl := ⟨1, fun s => [s.v], fun _ => rfl, fun s v h => by rw [List.mem_singleton.1 h]; exact s.one, by decide⟩
theorem OwnSl.toSl {α : Type} [Enc α] {Z : World} {ρ : PH} {L : List Atom} {w : World} {El : TypeId} {v : Value} {l : List α} (hp : Hp Z ρ L w) (k : Nat) (hk : L[k]? = some (OwnSl El v l)) : ∃ s : Sl, s.v = v := by
  rcases (hp.get k hk).row.2 with ⟨A, rfl, _⟩ | ⟨g, off, cap, cur, rfl, _⟩
  · exact ⟨⟨_, _, _, _, rfl⟩, rfl⟩
  · exact ⟨⟨_, _, _, _, rfl⟩, rfl⟩
instance (priority := 50) repList {α : Type} [Rep α] : Rep (List α) := ⟨1, fun ρ l cs => ∃ v, cs = [v] ∧ RoSl ρ v l, fun ⟨_, h, _⟩ => by rw [h]; rfl, fun hl ⟨v, h, k⟩ => ⟨v, h, k.mono hl⟩⟩
def RowsA {α : Type} [Enc α] (Ti : TypeId) : List Sl → List (List α) → Atom
  | [], [] => fun k => k = PH.emp
  | u :: us, r :: l => star (OwnSl Ti u.v r) (RowsA Ti us l)
  | _, _ => fun _ => False
section
variable {α : Type} [Enc α] {Ti : TypeId} {L : List Atom} {ρ h : PH}
theorem Sep.emp1 : Sep ρ ((fun k => k = PH.emp) :: L) h ↔ Sep ρ L h := by
  have e : ρ.un PH.emp = ρ := by funext b; unfold PH.un PH.emp; cases ρ b <;> rfl
  constructor
  · rintro ⟨k, rfl, d, hs⟩; rw [e] at hs; exact hs
  · intro hs; exact ⟨PH.emp, rfl, PH.dj_emp ρ, by rw [e]; exact hs⟩
theorem RowsA.len {us : List Sl} {l : List (List α)} (hs : Sep ρ (RowsA Ti us l :: L) h) : us.length = l.length := by
  induction us generalizing l ρ L with
  | nil =>
    cases l with
    | nil => rfl
    | cons r l => obtain ⟨k, a, _⟩ := hs; exact a.elim
  | cons u us ih =>
    cases l with
    | nil => obtain ⟨k, a, _⟩ := hs; exact a.elim
    | cons r l => simp only [List.length_cons]; rw [ih (Sep.swap (Sep.two.1 hs))]
theorem RowsA.take : ∀ {us : List Sl} {l : List (List α)} (i : Nat) {u : Sl} {r : List α} {ρ h : PH} {L : List Atom}, us[i]? = some u → l[i]? = some r →
    (Sep ρ (RowsA Ti us l :: L) h ↔ Sep ρ (OwnSl Ti u.v r :: RowsA Ti (us.eraseIdx i) (l.eraseIdx i) :: L) h)
  | [], _, i, _, _, _, _, _, h1, _ => by simp at h1
  | _ :: _, [], i, _, _, _, _, _, _, h2 => by simp at h2
  | u0 :: us, r0 :: l, 0, u, r, ρ, h, L, h1, h2 => by
    simp only [List.getElem?_cons_zero, Option.some.injEq] at h1 h2
    subst h1 h2
    exact Sep.two
  | u0 :: us, r0 :: l, i + 1, u, r, ρ, h, L, h1, h2 => by
    simp only [List.getElem?_cons_succ] at h1 h2
    constructor
    · intro hs
      exact Sep.cons_mono (fun ρ h => Sep.two.2) (Sep.swap (Sep.cons_mono (fun ρ h => (RowsA.take i h1 h2).1) (Sep.two.1 hs)))
    · intro hs
      exact Sep.two.2 (Sep.cons_mono (fun ρ h => (RowsA.take i h1 h2).2) (Sep.swap (Sep.cons_mono (fun ρ h => Sep.two.1) hs)))
theorem RowsA.snoc : ∀ {us : List Sl} {l : List (List α)} {u : Sl} {r : List α} {ρ h : PH} {L : List Atom}, Sep ρ (OwnSl Ti u.v r :: RowsA Ti us l :: L) h → Sep ρ (RowsA Ti (us ++ [u]) (l ++ [r]) :: L) h
  | [], [], u, r, ρ, h, L, hs => Sep.two.2 (Sep.cons_mono (fun ρ h h1 => Sep.emp1.2 (Sep.emp1.1 h1)) hs)
  | [], _ :: _, _, _, _, _, _, hs => by obtain ⟨_, _, _, k, a, _⟩ := hs; exact a.elim
  | _ :: _, [], _, _, _, _, _, hs => by obtain ⟨_, _, _, k, a, _⟩ := hs; exact a.elim
  | u0 :: us, r0 :: l, u, r, ρ, h, L, hs => Sep.two.2 (Sep.cons_mono (fun ρ h => RowsA.snoc) (Sep.swap (Sep.cons_mono (fun ρ h => Sep.two.1) hs)))
theorem RowsA.nils : ∀ (n : Nat) {ρ h : PH} {L : List Atom}, Sep ρ L h → Sep ρ (RowsA Ti (List.replicate n Sl.nil) (List.replicate n ([] : List α)) :: L) h
  | 0, _, _, _, hs => Sep.emp1.2 hs
  | n + 1, ρ, h, L, hs => Sep.two.2 (by
    have h1 := RowsA.nils n hs
    refine ⟨PH.emp, OwnSl.nil Ti, PH.dj_emp ρ, ?_⟩
    have e : ρ.un PH.emp = ρ := by funext b; unfold PH.un PH.emp; cases ρ b <;> rfl
    rw [e]; exact h1)
end
def TblA {α : Type} [Enc α] (T Ti : TypeId) (v : Value) (us : List Sl) (l : List (List α)) : Atom := star (OwnSl T v us) (RowsA Ti us l)
section
variable {Rn : Option Nat} {P : Program} {ops : Array Oper} {Q : Exit → Act → World → Prop} {rest : List Oper} {o : Oper} {a : Act} {w : World} {Df : List Deferred} {N : Nat} {E : Ent} {d : Nat} {Z : World} {ρ : PH} {L : List Atom}
variable {α : Type} [Enc α] {T Ti To Tr : TypeId} {v : Value} {us : List Sl} {l : List (List α)} {bytes : Nat}
theorem Hp.tbl (h : Hp Z ρ (TblA T Ti v us l :: L) w) : Hp Z ρ (OwnSl T v us :: RowsA Ti us l :: L) w := h.to Sep.two.1
theorem Hp.tblShut (h : Hp Z ρ (OwnSl T v us :: RowsA Ti us l :: L) w) : Hp Z ρ (TblA T Ti v us l :: L) w := h.to Sep.two.2
theorem TblA.lens (hp : Hp Z ρ (TblA T Ti v us l :: L) w) : us.length = l.length := RowsA.len (Sep.swap hp.tbl.sep)
theorem TblA.slice (hp : Hp Z ρ L w) (k : Nat) (hk : L[k]? = some (TblA T Ti v us l)) : ∃ s : Sl, s.v = v := OwnSl.toSl (hp.get k hk).tbl 0 rfl
theorem TblA.cells (hp : Hp Z ρ L w) (k : Nat) (hk : L[k]? = some (TblA T Ti v us l)) : v.cells = #[v] := by obtain ⟨s, rfl⟩ := TblA.slice hp k hk; exact s.cells
theorem TblA.one (hp : Hp Z ρ L w) (k : Nat) (hk : L[k]? = some (TblA T Ti v us l)) : v.oneCell' = true := by obtain ⟨s, rfl⟩ := TblA.slice hp k hk; exact s.one
theorem TblA.len (hp : Hp Z ρ L w) (k : Nat) (hk : L[k]? = some (TblA T Ti v us l)) (ht : SlTy P To T 1 bytes) (w : World) (ty : TypeId) : (Builtin.len_ #[To] ty #[v]).run P w = .ok (.int .i64 l.length) w := by
  have h := (hp.get k hk)
  rw [← TblA.lens h]
  exact OwnSl.len h.tbl 0 rfl ht w ty
theorem TblA.hdr (hp : Hp Z ρ L w) (k : Nat) (hk : L[k]? = some (TblA T Ti v us l)) (ht : SlTy P To T 1 bytes) {i : Int} {r : List α} (hi : idx l i = some r) :
    ∃ (u : Sl) (g off : Nat), idx us i = some u ∧ (∀ w, (Instr.indexAt To v (.int .i64 i)).run P w = .ok (.pointer (some ⟨g, off, none⟩)) w) ∧ (∃ of0 cap, v = .slice (some ⟨g, of0, none⟩) us.length cap ∧ off = of0 + i.toNat * 1) ∧
      ∀ (j : Nat) (x : Value), [u.v][j]? = some x → ∀ ρ' L' w, Hp Z ρ' (TblA T Ti v us l :: L') w → w.cell? ⟨g, off + j, none⟩ = some x := by
  have h := (hp.get k hk)
  obtain ⟨i0, i1, i2⟩ := idx_some hi
  have hl := TblA.lens h
  have hu : idx us i = some us[i.toNat] := by unfold idx; rw [if_pos i0]; exact List.getElem?_eq_getElem (by omega)
  obtain ⟨g, off, e1, e2, e3⟩ := OwnSl.at h.tbl 0 rfl ht hu
  exact ⟨_, g, off, hu, e1, e2, fun j x hx ρ' L' w hw => e3 j x hx _ _ w hw.tbl⟩
theorem TblA.focus (hp : Hp Z ρ L w) (k : Nat) (hk : L[k]? = some (TblA T Ti v us l)) {i : Int} {u : Sl} {r : List α} (hu : idx us i = some u) (hi : idx l i = some r) :
    Hp Z ρ (OwnSl Ti u.v r :: RowsA Ti (us.eraseIdx i.toNat) (l.eraseIdx i.toNat) :: OwnSl T v us :: L.eraseIdx k) w :=
  (hp.get k hk).tbl.to fun s => (RowsA.take i.toNat (idx_some hu).2.2 (idx_some hi).2.2).1 s.swap
theorem TblA.at (hp : Hp Z ρ L w) (k : Nat) (hk : L[k]? = some (TblA T Ti v us l)) (ht : SlTy P Tr Ti (Enc.sz α) bytes) {i j : Int} {u : Sl} {r : List α} {e : α} (hu : idx us i = some u) (hi : idx l i = some r) (hj : idx r j = some e) :
    ∃ g off, (∀ w, (Instr.indexAt Tr u.v (.int .i64 j)).run P w = .ok (.pointer (some ⟨g, off, none⟩)) w) ∧ (∃ of0 cap, u.v = .slice (some ⟨g, of0, none⟩) r.length cap ∧ off = of0 + j.toNat * Enc.sz α) ∧ ∀ (j : Nat) (x : Value), (Enc.enc e)[j]? = some x → ∀ ρ' L' w, Hp Z ρ' (TblA T Ti v us l :: L') w → w.cell? ⟨g, off + j, none⟩ = some x := by
  obtain ⟨g, off, e1, e2, e3⟩ := OwnSl.at (TblA.focus hp k hk hu hi) 0 rfl ht hj
  exact ⟨g, off, e1, e2, fun j x hx ρ' L' w hw => e3 j x hx _ _ w (TblA.focus hw 0 rfl hu hi)⟩
theorem set_self {β : Type} {l : List β} {i : Nat} {x : β} (h : l[i]? = some x) : l.set i x = l := by
  apply List.ext_getElem?
  intro j
  rw [List.getElem?_set]
  split
  · rename_i e; subst e; rw [if_pos (List.getElem?_eq_some_iff.1 h).1, h]
  · rfl
theorem TblA.unfocus (k : Nat) (hk : L[k]? = some (TblA T Ti v us l)) {i : Int} {u : Sl} {r r' : List α} (hu : idx us i = some u) (hi : idx l i = some r)
    (hp : Hp Z ρ (OwnSl Ti u.v r' :: RowsA Ti (us.eraseIdx i.toNat) (l.eraseIdx i.toNat) :: OwnSl T v us :: L.eraseIdx k) w) : Hp Z ρ (L.set k (TblA T Ti v us (l.set i.toNat r'))) w := by
  obtain ⟨_, hui, hus⟩ := idx_some hu
  obtain ⟨_, hli, hls⟩ := idx_some hi
  refine Hp.put k (List.getElem?_eq_some_iff.1 hk).1 ((hp.to fun s => Sep.swap ?_).tblShut)
  refine (RowsA.take (us := us) (l := l.set i.toNat r') (r := r') i.toNat hus (by rw [List.getElem?_set_self (by omega)])).2 ?_
  have e2 : (l.set i.toNat r').eraseIdx i.toNat = l.eraseIdx i.toNat := List.eraseIdx_set_eq
  rw [e2]; exact s
theorem s_tmake (wk : Region.wanted o (yielded ops a.tmps) = true) (hd : o.dst = some d) (hN : Nat.blt d N = true) (hE : EnvD Df N E a) (hp : Hp Z ρ L w) {x y : Operand} (ho : o.op = .makeSlice To x y) (hu : P.underlying To = some (.slice T))
    (hi : (P.info? T).map (fun i => (i.zero.map Value.cells, i.size, i.bytes)) = some (some #[.slice none 0 0], 1, bytes)) (hby : Nat.ble bytes 16384 = true) {k k' : IntKind} {n c : Int} (hx : evo E x = some (.int k n)) (hy : evo E y = some (.int k' c)) {r : List (List α)} (hr : mkc n c ([] : List α) = some r) (Ti : TypeId)
    (K : ∀ v us a w, EnvD Df N ((d, v) :: E) a → Hp Z ρ (TblA T Ti v us r :: L) w → wpL Rn P ops Q rest a w) : wpL Rn P ops Q (o :: rest) a w := by
  obtain ⟨h0, h1, h2, rfl⟩ := mkc_some hr
  refine s_make (α := Sl) wk hd hN hE hp ho hu Sl.nil hi hby hx hy (r := List.replicate n.toNat Sl.nil) (by unfold mkc; rw [if_pos ⟨h0, h1, h2⟩]) fun v a w hE hp => K v _ a w hE (Hp.tblShut (hp.to fun s => Sep.cons_mono (fun ρ h s => RowsA.nils _ s) s))
theorem TblA.none (T Ti : TypeId) (A : Option Addr) : TblA T Ti (.slice A 0 0) [] ([] : List (List α)) PH.emp :=
  ⟨PH.emp, PH.emp, OwnSl.nilA T A, rfl, PH.dj_emp _, by funext b; rfl⟩
theorem s_tapp (wk : Region.wanted o (yielded ops a.tmps) = true) (hd : o.dst = some d) (hN : Nat.blt d N = true) (hE : EnvD Df N E a) {ur : Sl} {vr : Value} (he : ur.v = vr) {r' : List α} (hp : Hp Z ρ (OwnSl Ti vr r' :: L) w) {x y : Operand} (ho : o.op = .call { callee := .builtin .append, args := #[x, y], argTypes := #[To, To] }) (ht : SlTy P To T 1 bytes) (hby : Nat.ble bytes 16384 = true)
    (hx : evo E x = some v) (k : Nat) (hk : L[k]? = some (TblA T Ti v us l)) {b off c : Nat} (hy : evo E y = some (.slice (some ⟨b, off, none⟩) 1 c)) (hn : w.cell? ⟨b, off, none⟩ = some vr) {l' : List (List α)} (hr : app l [r'] = some l')
    (K : ∀ v' us' a w, EnvD Df N ((d, v') :: E) a → Hp Z ρ (L.set k (TblA T Ti v' us' l')) w → wpL Rn P ops Q rest a w) : wpL Rn P ops Q (o :: rest) a w := by
  obtain ⟨hlen, rfl⟩ := app_some hr
  subst he
  have h0 : Hp Z ρ (OwnSl T v us :: OwnSl Ti ur.v r' :: RowsA Ti us l :: L.eraseIdx k) w := (Hp.tbl (hp.get (k + 1) (A := TblA T Ti v us l) (by simpa using hk))).to fun s => Sep.cons_mono (fun ρ h => Sep.swap) s
  have hus := TblA.lens (hp.get (k + 1) (A := TblA T Ti v us l) (by simpa using hk))
  refine s_app (α := Sl) wk hd hN hE h0 ho ht hby hx 0 rfl hy (l2 := [ur]) (r := us ++ [ur]) rfl (fun j z hj => ?_) (by unfold app; rw [if_pos (by simp at hlen ⊢; omega)]) fun v' a w hE hw => K v' (us ++ [ur]) a w hE ?_
  · cases j with
    | zero =>
      simp only [flat, List.flatMap_cons, List.flatMap_nil, List.append_nil, Enc.enc, List.getElem?_cons_zero, Option.some.injEq] at hj
      subst hj; exact hn
    | succ j => simp [flat, Enc.enc] at hj
  · exact Hp.put k (List.getElem?_eq_some_iff.1 hk).1 (Hp.tblShut (hw.to fun s => Sep.cons_mono (fun ρ h s => RowsA.snoc s) s))
theorem RowsA.at_ : ∀ {us : List Sl} {l : List (List α)} {k : PH} (i : Nat) {u : Sl} {r : List α}, RowsA Ti us l k → us[i]? = some u → l[i]? = some r → ∃ k', OwnSl Ti u.v r k' ∧ k'.le k
  | [], _, _, i, _, _, _, h1, _ => by simp at h1
  | _ :: _, [], _, i, _, _, h, _, _ => h.elim
  | u0 :: us, r0 :: l, k, 0, u, r, h, h1, h2 => by
    obtain ⟨k1, k2, ha, hb, d, rfl⟩ := h
    simp only [List.getElem?_cons_zero, Option.some.injEq] at h1 h2
    subst h1 h2
    exact ⟨k1, ha, PH.le_un _ _⟩
  | u0 :: us, r0 :: l, k, i + 1, u, r, h, h1, h2 => by
    obtain ⟨k1, k2, ha, hb, d, rfl⟩ := h
    obtain ⟨k', h3, h4⟩ := RowsA.at_ i hb (by simpa using h1) (by simpa using h2)
    exact ⟨k', h3, h4.tr (PH.le_un_r d)⟩
theorem TblA.ro {k : PH} (d : ρ.dj k) (h : TblA T Ti v us l k) : RoSl (ρ.un k) v l := by
  obtain ⟨k1, k2, ha, hb, d2, rfl⟩ := h
  have hl : us.length = l.length := RowsA.len (ρ := k1) (h := k1.un k2) (L := []) ⟨k2, hb, d2, PH.le.rf _⟩
  have d12 := PH.dj_un.1 d.symm
  obtain ⟨A, c, e1, e2, e3⟩ := OwnSl.ro d12.1.symm ha
  refine ⟨A, c, by rw [← hl]; exact e1, by rw [← hl]; exact e2, fun i r hi => ?_⟩
  have hlt := (List.getElem?_eq_some_iff.1 hi).1
  obtain ⟨b, o, cs, h1, h2, h3⟩ := e3 i us[i] (List.getElem?_eq_getElem (by omega))
  obtain ⟨k', h4, h5⟩ := RowsA.at_ i hb (List.getElem?_eq_getElem (by omega)) hi
  have hk : k'.le (ρ.un (k1.un k2)) := h5.tr ((PH.le_un_r d2).tr (PH.le_un_r d))
  refine ⟨b, o, cs, h1, ⟨us[i].v, h2, ?_⟩, h3.mono (by rw [← PH.un_assoc]; exact PH.le_un _ _)⟩
  have h6 : RoSl (PH.emp.un k') us[i].v r := OwnSl.ro (PH.dj_emp k').symm h4
  exact h6.mono (by
    have : PH.emp.un k' = k' := by funext x; rfl
    rw [this]; exact hk)
theorem TblA.lend (hp : Hp Z ρ L w) (k : Nat) (hk : L[k]? = some (TblA T Ti v us l)) {i : Int} {u : Sl} {r : List α} (hu : idx us i = some u) (hi : idx l i = some r) :
    ∃ κ, RoSl (ρ.un κ) u.v r ∧ Hp Z (ρ.un κ) (RowsA Ti (us.eraseIdx i.toNat) (l.eraseIdx i.toNat) :: OwnSl T v us :: L.eraseIdx k) w ∧
      ∀ w, Hp Z (ρ.un κ) (RowsA Ti (us.eraseIdx i.toNat) (l.eraseIdx i.toNat) :: OwnSl T v us :: L.eraseIdx k) w → Hp Z ρ L w := by
  obtain ⟨κ, ha, hd, h⟩ := (TblA.focus hp k hk hu hi).lend
  refine ⟨κ, OwnSl.ro hd ha, h, fun w hw => ?_⟩
  have := TblA.unfocus k hk hu hi (Hp.back ha hd hw)
  rw [set_self (idx_some hi).2.2, set_same hk] at this
  exact this
end
section
variable {Rn : Option Nat} {P : Program} {fn : Func} {R : Ending → World → Prop} {a : Act} {w : World} {Df : List Deferred} {N : Nat} {E : Ent}
theorem ret0n (hE : Env N E a) (hr : fn.results = #[]) (h : R (.returned (.tuple #[])) w) : bodyPost P fn R .normal a w :=
  ⟨hE.defers, _, by simp [results, hr], h⟩
theorem ret0 (hE : Env N E a) (hr : fn.results = #[]) (h : R (.returned (.tuple #[])) w) : bodyPost P fn R .ret a w :=
  ⟨hE.defers, _, by simp [results, hr], h⟩
theorem run_lv1 {T : TypeId} (ht : VarTy P T false 1) {p : Addr} {v : Value} {w : World} (h : w.cell? p = some v) : (loadVar T p).run P w = .ok v w := by
  simp [loadVar, ht.agg_ w, load, Sem.run, h]
theorem run_lvN {T : TypeId} {cs : List Value} (ht : VarTy P T true cs.length) {b o : Nat} {w : World} (h : ∀ j u, cs[j]? = some u → w.cell? ⟨b, o + j, none⟩ = some u) : (loadVar T ⟨b, o, none⟩).run P w = .ok (.agg cs.toArray) w := by
  have := run_loadCells_list (P := P) (w := w) ⟨b, o, none⟩ cs (fun j v hj => by rw [Addr.add_lit]; exact h j v hj)
  simp [loadVar, ht.agg_ w, ht.size_ w, this]
theorem retc2 (hE : Env N E a) {t u : Nat} {T U : TypeId} (hr : fn.results = #[.cell t T, .cell u U]) {p q : Addr} (hv : lk E t = some (.pointer (some p))) (hu : lk E u = some (.pointer (some q))) {v x : Value} (hl : (loadVar T p).run P w = .ok v w) (hx : (loadVar U q).run P w = .ok x w) (h : R (.returned (.tuple #[v, x])) w) : bodyPost P fn R .ret a w := by
  refine ⟨hE.defers, _, ?_, h⟩
  have h1 := hE.val t _ hv
  have h2 := hE.val u _ hu
  simp [results, hr, Array.getD_eq_getD_getElem?, h1, h2, asAddr, hl, hx]
end
end Go.Proofs.YtelioaepnpnojaaGreatDoor

/- Maps of slices: the map's own part holds the heads, another part the rows. Plain theorems over any program. -/
set_option linter.unusedVariables false
set_option linter.unusedSimpArgs false
namespace Go.Proofs.YtelioaepnpnojaaGreatDoor
open Vl (vl)
open Go.RowKit
open Go.ChangeMaps (setBlock)
instance vlSl : Vl Sl := ⟨fun s => s.v⟩
def mset {κ β : Type} [DecidableEq κ] (l : List (κ × β)) (k : κ) (v : β) : List (κ × β) := if mhas l k then mput l k v else l
def guardEq {κ : Type} [DecidableEq κ] (a b : κ) : Option Unit := if a = b then some () else none
theorem guardEq_some {κ : Type} [DecidableEq κ] {a b : κ} {u : Unit} (h : guardEq a b = some u) : a = b := by
  unfold guardEq at h; split at h
  · assumption
  · cases h
section
variable {κ β : Type} [DecidableEq κ]
theorem mhas_iff {l : List (κ × β)} {k : κ} : mhas l k = true ↔ k ∈ l.map (·.1) := by
  unfold mhas mget
  rw [Option.isSome_map, List.find?_isSome]
  simp
theorem mget_mem {l : List (κ × β)} (hn : (l.map (·.1)).Nodup) {k : κ} {v : β} (h : (k, v) ∈ l) : mget l k = some v := by
  obtain ⟨j, hj⟩ := List.getElem?_of_mem h
  exact mget_at hn hj
theorem filter_ne {l : List (κ × β)} (hn : (l.map (·.1)).Nodup) {k : κ} {j : Nat} (h : (l.map (·.1))[j]? = some k) : l.filter (fun p => !decide (p.1 = k)) = l.eraseIdx j := by
  induction l generalizing j with
  | nil => simp at h
  | cons p l ih =>
    rw [List.map_cons, List.nodup_cons] at hn
    cases j with
    | zero =>
      simp at h
      rw [List.filter_cons_of_neg (by simp [h]), List.eraseIdx_cons_zero]
      refine List.filter_eq_self.2 fun q hq => ?_
      simp only [Bool.not_eq_true', decide_eq_false_iff_not]
      intro e
      exact hn.1 (by rw [h, ← e]; exact List.mem_map_of_mem hq)
    | succ j =>
      simp only [List.map_cons, List.getElem?_cons_succ] at h
      have hne : ¬ p.1 = k := fun e => hn.1 (by rw [e]; exact List.mem_of_getElem? h)
      rw [List.filter_cons_of_pos (by simp [hne]), ih hn.2 h]; rfl
theorem filter_all {l : List (κ × β)} {k : κ} (h : k ∉ l.map (·.1)) : l.filter (fun p => !decide (p.1 = k)) = l := by
  refine List.filter_eq_self.2 fun q hq => ?_
  simp only [Bool.not_eq_true', decide_eq_false_iff_not]
  intro e
  exact h (by rw [← e]; exact List.mem_map_of_mem hq)
theorem mget_idx {l : List (κ × β)} (hn : (l.map (·.1)).Nodup) {k : κ} {j : Nat} (h : (l.map (·.1))[j]? = some k) : ∃ v, l[j]? = some (k, v) ∧ mget l k = some v := by
  rw [List.getElem?_map] at h
  obtain ⟨p, hp, rfl⟩ := Option.map_eq_some_iff.1 h
  exact ⟨p.2, hp, mget_at hn hp⟩
theorem map_eraseIdx {γ δ : Type} (f : γ → δ) (l : List γ) (i : Nat) : (l.eraseIdx i).map f = (l.map f).eraseIdx i := map_erase f l i
theorem mput_keys_eq {l : List (κ × β)} {γ : Type} {m : List (κ × γ)} (h : l.map (·.1) = m.map (·.1)) (k : κ) (v : β) (u : γ) : (mput l k v).map (·.1) = (mput m k u).map (·.1) := by
  rw [mput_keys, mput_keys, h]
theorem mput_nodup {l : List (κ × β)} (h : (l.map (·.1)).Nodup) (k : κ) (v : β) : ((mput l k v).map (·.1)).Nodup := by
  rw [mput_keys]
  split
  · exact h
  · rename_i hk
    rw [List.nodup_append]
    refine ⟨h, by simp, fun a ha b hb => ?_⟩
    rw [List.mem_singleton.1 hb]
    intro e; exact hk (e ▸ ha)
end
section
variable {κ α : Type} [DecidableEq κ] [Enc α]
def RowsM (Ti : TypeId) (us : List (κ × Sl)) (l : List (κ × List α)) : Atom := fun h => RowsA Ti (us.map Prod.snd) (l.map Prod.snd) h ∧ us.map (·.1) = l.map (·.1) ∧ (us.map (·.1)).Nodup
def RowsX (Ti : TypeId) (us : List (κ × Sl)) (l : List (κ × List α)) (k : κ) : Atom := fun h => RowsA Ti ((us.filter fun p => !decide (p.1 = k)).map Prod.snd) ((l.filter fun p => !decide (p.1 = k)).map Prod.snd) h ∧ us.map (·.1) = l.map (·.1) ∧ (us.map (·.1)).Nodup
omit [DecidableEq κ] in
theorem RowsM.nil (Ti : TypeId) : RowsM Ti ([] : List (κ × Sl)) ([] : List (κ × List α)) PH.emp := ⟨rfl, rfl, by simp⟩
def RowsRo (ρ : PH) (us : List (κ × Sl)) (l : List (κ × List α)) : Prop := us.map (·.1) = l.map (·.1) ∧ (us.map (·.1)).Nodup ∧ ∀ k, RoSl ρ ((mget us k).getD Sl.nil).v ((mget l k).getD [])
variable {Z : World} {ρ : PH} {L : List Atom} {w : World} {Ti : TypeId} {us : List (κ × Sl)} {l : List (κ × List α)} {k : κ} {v : Value}
omit [DecidableEq κ] in
theorem RowsM.keys (h : Hp Z ρ (RowsM Ti us l :: L) w) : us.map (·.1) = l.map (·.1) := (Hp.fact (A := RowsA Ti (us.map Prod.snd) (l.map Prod.snd)) h).2.1
omit [DecidableEq κ] [Enc α] in
theorem Hp.addFact {A : Atom} {p : Prop} (h : Hp Z ρ (A :: L) w) (hp : p) : Hp Z ρ ((fun k => A k ∧ p) :: L) w := h.imp fun _ a => ⟨a, hp⟩
theorem RowsM.take (h : Hp Z ρ (RowsM Ti us l :: L) w) (k : κ) : Hp Z ρ (OwnSl Ti ((mget us k).getD Sl.nil).v ((mget l k).getD []) :: RowsX Ti us l k :: L) w := by
  obtain ⟨hr, hk, hn⟩ := Hp.fact (A := RowsA Ti (us.map Prod.snd) (l.map Prod.snd)) h
  have hn2 : (l.map (·.1)).Nodup := hk ▸ hn
  have done : Hp Z ρ (OwnSl Ti ((mget us k).getD Sl.nil).v ((mget l k).getD []) :: RowsA Ti ((us.filter fun p => !decide (p.1 = k)).map Prod.snd) ((l.filter fun p => !decide (p.1 = k)).map Prod.snd) :: L) w := by
    by_cases hm : k ∈ us.map (·.1)
    · obtain ⟨j, hj⟩ := List.getElem?_of_mem hm
      obtain ⟨u, hu, hu2⟩ := mget_idx hn hj
      have hj2 : (l.map (·.1))[j]? = some k := hk ▸ hj
      obtain ⟨r, hr1, hr2⟩ := mget_idx hn2 hj2
      rw [hu2, hr2, filter_ne hn hj, filter_ne hn2 hj2, map_eraseIdx, map_eraseIdx]
      exact hr.to fun s => (RowsA.take j (by rw [List.getElem?_map, hu]; rfl) (by rw [List.getElem?_map, hr1]; rfl)).1 s
    · rw [mget_none hm, mget_none (hk ▸ hm), filter_all hm, filter_all (hk ▸ hm)]
      exact hr.emp (OwnSl.nil Ti)
  exact (((done.get 1 rfl).addFact ⟨hk, hn⟩).get 1 rfl)
theorem RowsX.put {s : Sl} {v : Value} (he : s.v = v) {r : List α} (h : Hp Z ρ (OwnSl Ti v r :: RowsX Ti us l k :: L) w) : Hp Z ρ (RowsM Ti (mput us k s) (mput l k r) :: L) w := by
  subst he
  obtain ⟨h1, hk, hn⟩ := Hp.fact (A := RowsA Ti ((us.filter fun p => !decide (p.1 = k)).map Prod.snd) ((l.filter fun p => !decide (p.1 = k)).map Prod.snd)) (h.get 1 rfl)
  have hr := h1.get 1 rfl
  have hn2 : (l.map (·.1)).Nodup := hk ▸ hn
  refine Hp.addFact ?_ ⟨mput_keys_eq hk k s r, mput_nodup hn k s⟩
  by_cases hm : k ∈ us.map (·.1)
  · obtain ⟨j, hj⟩ := List.getElem?_of_mem hm
    have hj2 : (l.map (·.1))[j]? = some k := hk ▸ hj
    have hl1 := (List.getElem?_eq_some_iff.1 hj).1
    have hl2 := (List.getElem?_eq_some_iff.1 hj2).1
    rw [List.length_map] at hl1 hl2
    rw [mput_at hn hj, mput_at hn2 hj2]
    rw [filter_ne hn hj, filter_ne hn2 hj2, map_eraseIdx, map_eraseIdx] at hr
    refine hr.to fun t => (RowsA.take j (u := s) (r := r) (by rw [List.map_set, List.getElem?_set_self (by simpa using hl1)]) (by rw [List.map_set, List.getElem?_set_self (by simpa using hl2)])).2 ?_
    rw [List.map_set, List.map_set, List.eraseIdx_set_eq, List.eraseIdx_set_eq]
    exact t
  · rw [mput_new hm, mput_new (hk ▸ hm), List.map_append, List.map_append]
    rw [filter_all hm, filter_all (hk ▸ hm)] at hr
    exact hr.to fun t => RowsA.snoc t
theorem RowsX.back {v : Value} (he : ((mget us k).getD Sl.nil).v = v) {r : List α} (h : Hp Z ρ (OwnSl Ti v r :: RowsX Ti us l k :: L) w) : Hp Z ρ (RowsM Ti us (mset l k r) :: L) w := by
  subst he
  obtain ⟨h1, hk, hn⟩ := Hp.fact (A := RowsA Ti ((us.filter fun p => !decide (p.1 = k)).map Prod.snd) ((l.filter fun p => !decide (p.1 = k)).map Prod.snd)) (h.get 1 rfl)
  have hr := h1.get 1 rfl
  have hn2 : (l.map (·.1)).Nodup := hk ▸ hn
  unfold mset
  by_cases hm : k ∈ us.map (·.1)
  · rw [if_pos (mhas_iff.2 (hk ▸ hm))]
    refine Hp.addFact ?_ ⟨by rw [mput_keys, if_pos (hk ▸ hm)]; exact hk, hn⟩
    obtain ⟨j, hj⟩ := List.getElem?_of_mem hm
    have hj2 : (l.map (·.1))[j]? = some k := hk ▸ hj
    obtain ⟨u, hu, hu2⟩ := mget_idx hn hj
    have hl2 := (List.getElem?_eq_some_iff.1 hj2).1
    rw [List.length_map] at hl2
    rw [mput_at hn2 hj2]
    rw [hu2, filter_ne hn hj, filter_ne hn2 hj2, map_eraseIdx, map_eraseIdx] at hr
    refine hr.to fun t => (RowsA.take j (u := u) (r := r) (by rw [List.getElem?_map, hu]; rfl) (by rw [List.map_set, List.getElem?_set_self (by simpa using hl2)])).2 ?_
    rw [List.map_set, List.eraseIdx_set_eq]
    exact t
  · rw [if_neg (fun h => hm (hk ▸ mhas_iff.1 h))]
    refine Hp.addFact ?_ ⟨hk, hn⟩
    rw [filter_all hm, filter_all (hk ▸ hm)] at hr
    exact hr.drop
theorem RowsM.ro {h : PH} (d : ρ.dj h) (a : RowsM Ti us l h) : RowsRo (ρ.un h) us l := by
  obtain ⟨hr, hk, hn⟩ := a
  have hn2 : (l.map (·.1)).Nodup := hk ▸ hn
  refine ⟨hk, hn, fun k => ?_⟩
  by_cases hm : k ∈ us.map (·.1)
  · obtain ⟨j, hj⟩ := List.getElem?_of_mem hm
    obtain ⟨u, hu, hu2⟩ := mget_idx hn hj
    obtain ⟨r, hr1, hr2⟩ := mget_idx hn2 (hk ▸ hj : (l.map (·.1))[j]? = some k)
    rw [hu2, hr2]
    obtain ⟨k', h4, h5⟩ := RowsA.at_ j hr (by rw [List.getElem?_map, hu]; rfl) (by rw [List.getElem?_map, hr1]; rfl)
    have h6 : RoSl (PH.emp.un k') u.v r := OwnSl.ro (PH.dj_emp k').symm h4
    exact h6.mono (by
      have : PH.emp.un k' = k' := by funext x; rfl
      rw [this]; exact h5.tr (PH.le_un_r d))
  · rw [mget_none hm, mget_none (hk ▸ hm)]
    exact RoSl.nil _
theorem RowsRo.mono {ρ' : PH} (h : RowsRo ρ us l) (hl : ρ.le ρ') : RowsRo ρ' us l := ⟨h.1, h.2.1, fun k => (h.2.2 k).mono hl⟩
theorem RowsRo.get (h : RowsRo ρ us l) (k : κ) : ∃ v, ((mget us k).getD Sl.nil).v = v ∧ RoSl ρ v ((mget l k).getD []) := ⟨_, rfl, h.2.2 k⟩
theorem RowsRo.at_ (h : RowsRo ρ us l) {u : Sl} (hm : (k, u) ∈ us) : RoSl ρ (vl u) ((mget l k).getD []) := by
  have := h.2.2 k
  rw [mget_mem h.2.1 hm] at this
  exact this
end
section
variable {Rn : Option Nat} {P : Program} {ops : Array Oper} {Q : Exit → Act → World → Prop} {rest : List Oper} {o : Oper} {a : Act} {w : World} {Df : List Deferred} {N : Nat} {E : Ent} {d : Nat} {Z : World} {ρ : PH} {L : List Atom}
variable {κ β : Type} [Vl κ] [Vl β]
theorem MapIt.sub {b r : Nat} {l rem : List (κ × β)} {cur : Option (κ × β)} (h : Hp Z ρ (MapIt b r l rem cur :: L) w) : rem.Sublist l := by
  obtain ⟨es, clock, since, seen, last, _, _, _, _, _, _, h5, _⟩ := h.it
  exact h5
theorem MapIt.mem {b r : Nat} {l rem rem' : List (κ × β)} {cur : Option (κ × β)} {e : κ × β} (h : Hp Z ρ (MapIt b r l rem cur :: L) w) (hp : rem.Perm (e :: rem')) : e ∈ l := (MapIt.sub h).subset (hp.symm.subset (by simp))
variable [DecidableEq κ]
end
end Go.Proofs.YtelioaepnpnojaaGreatDoor

/- A row that comes out of its table, to be appended to; pointers; arrays. Plain theorems over any program. -/
set_option linter.unusedVariables false
set_option linter.unusedSimpArgs false
namespace Go.Proofs.YtelioaepnpnojaaGreatDoor
open Go.RowKit
def TblX {α : Type} [Enc α] (T Ti : TypeId) (v : Value) (us : List Sl) (l : List (List α)) (i : Int) : Atom := star (OwnSl T v us) (RowsA Ti (us.eraseIdx i.toNat) (l.eraseIdx i.toNat))
def ArrTy (P : Program) (T : TypeId) (i : Int) (off : Nat) : Prop := ∀ b o w, (Instr.indexAt T (.pointer (some ⟨b, o, none⟩)) (.int .i64 i)).run P w = .ok (.pointer (some ⟨b, o + off, none⟩)) w
section
variable {Rn : Option Nat} {P : Program} {ops : Array Oper} {Q : Exit → Act → World → Prop} {rest : List Oper} {o : Oper} {a : Act} {w : World} {Df : List Deferred} {N : Nat} {E : Ent} {d : Nat} {Z : World} {ρ : PH} {L : List Atom} {C : World → Prop}
variable {α : Type} [Enc α] {T Ti To Tr : TypeId} {v : Value} {us : List Sl} {l : List (List α)} {bytes : Nat}
theorem ex_nil {x : Operand} (ho : o.op = .nilCheck x) (hE : EnvD Df N E a) {p : Addr} (hx : evo E x = some (.pointer (some p))) : Ex P C a o (.pointer (some p)) := fun w _ => by
  simp [execOp, ho, hE.eval hx]
theorem TblA.takeRow (hp : Hp Z ρ L w) (k : Nat) (hk : L[k]? = some (TblA T Ti v us l)) {i : Int} {u : Sl} {r : List α} (hu : idx us i = some u) (hi : idx l i = some r) :
    Hp Z ρ (OwnSl Ti u.v r :: TblX T Ti v us l i :: L.eraseIdx k) w :=
  (TblA.focus hp k hk hu hi).to fun s => Sep.cons_mono (fun ρ h s => Sep.two.2 (Sep.swap s)) s
theorem TblX.adr (hp : Hp Z ρ L w) (k : Nat) {i : Int} (hk : L[k]? = some (TblX T Ti v us l i)) (ht : SlTy P To T 1 bytes) {u : Sl} (hu : idx us i = some u) :
    ∃ (g off : Nat), (∀ w, (Instr.indexAt To v (.int .i64 i)).run P w = .ok (.pointer (some ⟨g, off, none⟩)) w) ∧ (∃ of0 cap, v = .slice (some ⟨g, of0, none⟩) us.length cap ∧ off = of0 + i.toNat * 1) := by
  have h : Hp Z ρ (OwnSl T v us :: RowsA Ti (us.eraseIdx i.toNat) (l.eraseIdx i.toNat) :: L.eraseIdx k) w := (hp.get k hk).to Sep.two.1
  obtain ⟨g, off, e1, e2, _⟩ := OwnSl.at h 0 rfl ht hu
  exact ⟨g, off, e1, e2⟩
theorem Hp.rowsNil (Ti : TypeId) (hp : Hp Z ρ L w) : Hp Z ρ (RowsA Ti [] ([] : List (List α)) :: L) w := hp.to Sep.emp1.2
theorem Hp.rowsCons {u : Sl} {vr : Value} (he : u.v = vr) {r : List α} (hp : Hp Z ρ (OwnSl Ti vr r :: RowsA Ti us l :: L) w) : Hp Z ρ (RowsA Ti (u :: us) (r :: l) :: L) w := by
  subst he; exact hp.to Sep.two.2
theorem RowsA.app : ∀ {us us2 : List Sl} {l l2 : List (List α)} {ρ h : PH} {L : List Atom}, Sep ρ (RowsA Ti us2 l2 :: RowsA Ti us l :: L) h → Sep ρ (RowsA Ti (us ++ us2) (l ++ l2) :: L) h
  | [], us2, [], l2, ρ, h, L, hs => Sep.cons_mono (fun ρ h s => Sep.emp1.1 s) hs
  | [], _, _ :: _, _, _, _, _, hs => by obtain ⟨_, _, _, k, a, _⟩ := hs; exact a.elim
  | _ :: _, _, [], _, _, _, _, hs => by obtain ⟨_, _, _, k, a, _⟩ := hs; exact a.elim
  | u :: us, us2, r :: l, l2, ρ, h, L, hs =>
    Sep.two.2 (Sep.cons_mono (fun ρ h s => RowsA.app s) (Sep.swap (Sep.cons_mono (fun ρ h s => Sep.two.1 s) hs) |> fun s => Sep.cons_mono (fun ρ h s => s) s))
theorem Hp.front2 {A B D : Atom} (hp : Hp Z ρ (A :: L) w) (k : Nat) (hk : L[k]? = some B) (hi : ∀ h, B h → D h) : Hp Z ρ (D :: A :: L.eraseIdx k) w := (hp.get (k + 1) (A := B) (by simpa using hk)).imp hi
theorem s_tapps (wk : Region.wanted o (yielded ops a.tmps) = true) (hd : o.dst = some d) (hN : Nat.blt d N = true) (hE : EnvD Df N E a) {us2 : List Sl} {l2 : List (List α)} (hp : Hp Z ρ (RowsA Ti us2 l2 :: L) w) {x y : Operand} (ho : o.op = .call { callee := .builtin .append, args := #[x, y], argTypes := #[To, To] }) (ht : SlTy P To T 1 bytes) (hby : Nat.ble bytes 16384 = true)
    (hx : evo E x = some v) (k : Nat) (hk : L[k]? = some (TblA T Ti v us l)) {b off m c : Nat} (hy : evo E y = some (.slice (some ⟨b, off, none⟩) m c)) (hm : us2.length = m) (hn : ∀ j u, (flat us2)[j]? = some u → w.cell? ⟨b, off + j, none⟩ = some u) {l' : List (List α)} (hr : app l l2 = some l')
    (K : ∀ v' us' a w, EnvD Df N ((d, v') :: E) a → Hp Z ρ (L.set k (TblA T Ti v' us' l')) w → wpL Rn P ops Q rest a w) : wpL Rn P ops Q (o :: rest) a w := by
  obtain ⟨hlen, rfl⟩ := app_some hr
  have h0 : Hp Z ρ (OwnSl T v us :: RowsA Ti us2 l2 :: RowsA Ti us l :: L.eraseIdx k) w := (Hp.tbl (hp.get (k + 1) (A := TblA T Ti v us l) (by simpa using hk))).to fun s => Sep.cons_mono (fun ρ h => Sep.swap) s
  have hus := TblA.lens (hp.get (k + 1) (A := TblA T Ti v us l) (by simpa using hk))
  have hus2 := RowsA.len hp.sep
  refine s_app (α := Sl) wk hd hN hE h0 ho ht hby hx 0 rfl hy (l2 := us2) (r := us ++ us2) hm hn (by unfold app; rw [if_pos (by omega)]) fun v' a w hE hw => K v' (us ++ us2) a w hE ?_
  exact Hp.put k (List.getElem?_eq_some_iff.1 hk).1 (Hp.tblShut (hw.to fun s => Sep.cons_mono (fun ρ h s => RowsA.app s) s))
theorem s_tputX (wk : Region.wanted o (yielded ops a.tmps) = true) (hd : o.dst = none) (hE : EnvD Df N E a) {ur : Sl} {vr : Value} (he : ur.v = vr) {r' : List α} (hp : Hp Z ρ (OwnSl Ti vr r' :: L) w) {Tx : TypeId} {x y : Operand} (ho : o.op = .store Tx x y) {g off : Nat} (hx : evo E x = some (.pointer (some ⟨g, off, none⟩))) (hy : evo E y = some vr) (k : Nat) {i : Int} (hk : L[k]? = some (TblX T Ti v us l i))
    {u : Sl} {r : List α} (hu : idx us i = some u) (hi : idx l i = some r) (hv : ∃ of0 cap, v = .slice (some ⟨g, of0, none⟩) us.length cap ∧ off = of0 + i.toNat * 1) (ht : ∀ w, (sizeOf Tx).run P w = .ok 1 w)
    (K : ∀ w, Hp Z ρ (L.set k (TblA T Ti v (us.set i.toNat ur) (l.set i.toNat r'))) w → wpL Rn P ops Q rest a w) : wpL Rn P ops Q (o :: rest) a w := by
  subst he
  have h0 : Hp Z ρ (OwnSl T v us :: OwnSl Ti ur.v r' :: RowsA Ti (us.eraseIdx i.toNat) (l.eraseIdx i.toNat) :: L.eraseIdx k) w :=
    (hp.get (k + 1) (A := TblX T Ti v us l i) (by simpa using hk)).to fun s => Sep.cons_mono (fun ρ h => Sep.swap) (Sep.two.1 s)
  refine s_stel wk hd hE h0 ho hx hy 0 rfl hu hv 0 ht rfl ur.cells ur.one ⟨rfl, rfl⟩ fun w hw => K w ?_
  refine Hp.put k (List.getElem?_eq_some_iff.1 hk).1 (Hp.tblShut (hw.to fun s => ?_))
  refine Sep.cons_mono (fun ρ h s => ?_) s
  obtain ⟨_, hui, hus⟩ := idx_some hu
  obtain ⟨_, hli, hls⟩ := idx_some hi
  refine (RowsA.take (us := us.set i.toNat ur) (l := l.set i.toNat r') (u := ur) (r := r') i.toNat (by rw [List.getElem?_set_self (by omega)]) (by rw [List.getElem?_set_self (by omega)])).2 ?_
  rw [List.eraseIdx_set_eq, List.eraseIdx_set_eq]
  exact s
end
section
variable {Rn : Option Nat} {P : Program} {fn : Func} {R : Ending → World → Prop} {a : Act} {w : World} {Df : List Deferred} {N : Nat} {E : Ent}
theorem retct (hE : Env N E a) {t u : Nat} {T : TypeId} (hr : fn.results = #[.cell t T, .tmp u]) {p : Addr} (hv : lk E t = some (.pointer (some p))) {x : Value} (hu : lk E u = some x) {v : Value} (hl : (loadVar T p).run P w = .ok v w) (h : R (.returned (.tuple #[v, x])) w) : bodyPost P fn R .ret a w := by
  refine ⟨hE.defers, _, ?_, h⟩
  have h1 := hE.val t _ hv
  have h2 := hE.val u _ hu
  simp [results, hr, Array.getD_eq_getD_getElem?, h1, h2, asAddr, hl]
end
end Go.Proofs.YtelioaepnpnojaaGreatDoor

/- Owned slices of elements whose cells point elsewhere: the row's cells are named, and what they stand for is a fact of its own. -/
set_option linter.unusedVariables false
set_option linter.unusedSimpArgs false
namespace Go.Proofs.YtelioaepnpnojaaGreatDoor
open Go.RowKit
class Rep1 (α : Type) [Rep α] : Prop where
  one : ∀ {ρ : PH} {a : α} {cs : List Value}, Rep.ok ρ a cs → ∀ v ∈ cs, v.oneCell' = true
  pos : 0 < Rep.sz α
def RowR {α : Type} [Rep α] (T : TypeId) (v : Value) (l : List α) (xs : List Value) : Atom := Row T (Rep.sz α) v l.length xs
section
variable {α : Type} [Rep α] {ρ ρ' : PH} {l m : List α} {xs ys : List Value}
theorem RepAll.nil : RepAll ρ ([] : List α) [] := rfl
theorem RepAll.mono (h : ρ.le ρ') : ∀ {l : List α} {xs : List Value}, RepAll ρ l xs → RepAll ρ' l xs
  | [], _, e => e
  | a :: l, _, ⟨c, r, e, hc, hr⟩ => ⟨c, r, e, Rep.mono h hc, RepAll.mono h hr⟩
theorem RepAll.len : ∀ {l : List α} {xs : List Value}, RepAll ρ l xs → xs.length = l.length * Rep.sz α
  | [], _, e => by rw [e]; simp
  | a :: l, _, ⟨c, r, e, hc, hr⟩ => by
    rw [e, List.length_append, Rep.len hc, RepAll.len hr, List.length_cons, Nat.add_mul]; omega
theorem RepAll.app : ∀ {l : List α} {xs : List Value}, RepAll ρ l xs → RepAll ρ m ys → RepAll ρ (l ++ m) (xs ++ ys)
  | [], _, e, h => by rw [e]; exact h
  | a :: l, _, ⟨c, r, e, hc, hr⟩, h => ⟨c, r ++ ys, by rw [e, List.append_assoc], hc, RepAll.app hr h⟩
theorem RepAll.set : ∀ {l : List α} {xs : List Value} (i : Nat) {a : α} {cs : List Value}, RepAll ρ l xs → i < l.length → Rep.ok ρ a cs → RepAll ρ (l.set i a) (xs.take (i * Rep.sz α) ++ cs ++ xs.drop ((i + 1) * Rep.sz α))
  | b :: l, _, 0, a, cs, ⟨c, r, e, hc, hr⟩, _, ha => by
    rw [e, Nat.zero_mul, List.take_zero, List.nil_append, Nat.zero_add, Nat.one_mul, ← Rep.len hc, List.drop_left, List.set_cons_zero]
    exact ⟨cs, r, rfl, ha, hr⟩
  | b :: l, _, i + 1, a, cs, ⟨c, r, e, hc, hr⟩, hi, ha => by
    have := RepAll.set i hr (by simpa using hi) ha
    have hl := Rep.len hc
    rw [e, List.set_cons_succ, Nat.add_mul, Nat.one_mul, show i * Rep.sz α + Rep.sz α = c.length + i * Rep.sz α by omega, List.take_append, List.take_of_length_le (by omega), Nat.add_sub_cancel_left,
      show (i + 1 + 1) * Rep.sz α = c.length + (i + 1) * Rep.sz α by rw [Nat.add_mul (i + 1)]; omega, List.drop_append, List.drop_of_length_le (by omega), List.nil_append, Nat.add_sub_cancel_left]
    exact ⟨c, _, by simp only [List.append_assoc], hc, this⟩
end
section
variable {α : Type} [Rep α] {Rn : Option Nat} {P : Program} {Z : World} {ρ : PH} {L : List Atom} {w : World} {T El : TypeId} {v : Value} {l : List α} {xs : List Value}
theorem RowR.nil (T : TypeId) : RowR T (.slice none 0 0) ([] : List α) [] PH.emp := Row.nil T _ none
theorem RowR.len {sz bytes : Nat} (hp : Hp Z ρ L w) (k : Nat) (hk : L[k]? = some (RowR El v l xs)) (ht : SlTy P T El sz bytes) (w' : World) (ty : TypeId) : (Builtin.len_ #[T] ty #[v]).run P w' = .ok (.int .i64 l.length) w' := by
  rcases (hp.get k hk).row.2 with ⟨A, rfl, hn⟩ | ⟨g, off, cap, cur, rfl, _, _⟩
  · rw [hn]; exact run_len ht A 0 0 w' ty
  · exact run_len ht _ _ cap w' ty
theorem RowR.cells (hp : Hp Z ρ L w) (k : Nat) (hk : L[k]? = some (RowR El v l xs)) : v.cells = #[v] := by
  rcases (hp.get k hk).row.2 with ⟨A, rfl, _⟩ | ⟨g, off, cap, cur, rfl, _⟩ <;> rfl
theorem RowR.one (hp : Hp Z ρ L w) (k : Nat) (hk : L[k]? = some (RowR El v l xs)) : v.oneCell' = true := by
  rcases (hp.get k hk).row.2 with ⟨A, rfl, _⟩ | ⟨g, off, cap, cur, rfl, _⟩ <;> rfl
theorem RowR.ro {k : PH} (d : ρ.dj k) (h : RowR T v l xs k) (hR : RepAll ρ l xs) : RoSl (ρ.un k) v l := by
  obtain ⟨hxl, h⟩ := h
  rcases h with ⟨A, rfl, hn⟩ | ⟨g, off, cap, cur, rfl, rfl, h1, h2, h3, h4⟩
  · obtain rfl := List.eq_nil_of_length_eq_zero hn
    exact ⟨A, 0, rfl, Nat.le_refl _, fun i a h => by simp at h⟩
  · refine ⟨some ⟨g, off, none⟩, cap, rfl, h1, fun i a hi => ?_⟩
    obtain ⟨c, hc, hg⟩ := hR.get i a hi
    refine ⟨g, off, c, rfl, Rep.mono (PH.le_un _ _) hc, fun j u hj => ?_⟩
    have hb : (ρ.un (PH.one g (.cells cur T (0, 0)))) g = some (.cells cur T (0, 0)) := PH.le_un_r d g _ (by simp [PH.one])
    unfold cellAt
    rw [hb]
    simp only
    have hf := hg j u hj
    rw [← h4, List.getElem?_take] at hf
    split at hf
    · rw [List.getElem?_drop, ← Nat.add_assoc] at hf
      rw [← Array.getElem?_toList]
      exact hf
    · cases hf
theorem RowR.at {bytes : Nat} (hp : Hp Z ρ L w) (k : Nat) (hk : L[k]? = some (RowR El v l xs)) (hR : RepAll ρ l xs) (ht : SlTy P T El (Rep.sz α) bytes) {i : Int} {e : α} (hi : idx l i = some e) :
    ∃ g off cs, (∀ w, (Instr.indexAt T v (.int .i64 i)).run P w = .ok (.pointer (some ⟨g, off, none⟩)) w) ∧ (∃ of0 cap, v = .slice (some ⟨g, of0, none⟩) l.length cap ∧ off = of0 + i.toNat * Rep.sz α) ∧ Rep.ok ρ e cs ∧ ∀ (j : Nat) (u : Value), cs[j]? = some u → ∀ ρ' L' w, Hp Z ρ' (RowR El v l xs :: L') w → w.cell? ⟨g, off + j, none⟩ = some u := by
  obtain ⟨i0, i1, i2⟩ := idx_some hi
  rcases (hp.get k hk).row.2 with ⟨_, _, hn⟩ | ⟨g, of0, cap, cur, rfl, _, _⟩
  · omega
  · obtain ⟨c, hc, hg⟩ := hR.get i.toNat e i2
    refine ⟨g, of0 + i.toNat * Rep.sz α, c, fun w => run_index ht g of0 _ cap i0 i1 w, ⟨of0, cap, rfl, rfl⟩, hc, fun j u hj ρ' L' w' hw' => ?_⟩
    rcases hw'.row.2 with ⟨A, hA, hn⟩ | ⟨g', of1, cap', cur', e2, hpt, h2, h3, h4, h5⟩
    · omega
    · simp only [Value.slice.injEq, Option.some.injEq, Addr.mk.injEq, and_true, true_and] at e2
      obtain ⟨⟨rfl, rfl⟩, rfl⟩ := e2
      have hlook := hpt.look 0 rfl
      have hf := hg j u hj
      rw [← h5, List.getElem?_take] at hf
      split at hf
      · rw [List.getElem?_drop, ← Nat.add_assoc] at hf
        simp [World.cell?, hlook, ← Array.getElem?_toList, hf]
      · cases hf
end
section
variable {α : Type} [Rep α] {ρ : PH}
end
section
variable {α : Type} [Rep α] [Rep1 α] {Rn : Option Nat} {P : Program} {ops : Array Oper} {Q : Exit → Act → World → Prop} {rest : List Oper} {o : Oper} {a : Act} {w : World} {Df : List Deferred} {N : Nat} {E : Ent} {d : Nat} {Z : World} {ρ : PH} {L : List Atom}
end
instance rep1Enc {α : Type} [Enc α] : Rep1 α := ⟨fun h v hv => by
  have h' : _ = Enc.enc _ := h
  rw [h'] at hv; exact Enc.one _ v hv, Enc.pos⟩
end Go.Proofs.YtelioaepnpnojaaGreatDoor

/- Regions that draw their order, where what an operation looks at may be turned by operations that wait for it. Plain theorems over any program. -/
set_option linter.unusedVariables false
set_option linter.unusedSimpArgs false
namespace Go.Proofs.YtelioaepnpnojaaGreatDoor
open Go.RowKit
abbrev Facts := List (List Nat × (World → Prop))
def alive (G : List Nat) (listed : Array Bool) : Bool := G.all fun g => !listed.getD g true
def invV : Facts → Array Bool → World → Prop
  | [], _, _ => True
  | p :: r, listed, w => (alive p.1 listed = true → p.2 w) ∧ invV r listed w
theorem invV.get {listed : Array Bool} {w : World} {G : List Nat} {C : World → Prop} : ∀ {F : Facts} (n : Nat), F[n]? = some (G, C) → alive G listed = true → invV F listed w → C w
  | [], _, h, _, _ => by simp at h
  | p :: r, 0, h, ha, hi => by
    simp only [List.getElem?_cons_zero, Option.some.injEq] at h
    subst h
    exact hi.1 ha
  | p :: r, n + 1, h, ha, hi => invV.get (F := r) n (by simpa using h) ha hi.2
theorem alive_set {G : List Nat} {listed : Array Bool} {i : Nat} (h : alive G (listed.setIfInBounds i true) = true) : alive G listed = true := by
  unfold alive at *
  rw [List.all_eq_true] at *
  intro g hg
  have := h g hg
  by_cases e : i = g
  · subst e
    rcases Nat.lt_or_ge i listed.size with h' | h'
    · simp [h'] at this
    · simp [Array.getElem?_eq_none h'] at this
  · rw [getD_set_ne true e] at this; exact this
theorem invV.weak {listed : Array Bool} {w : World} {i : Nat} : ∀ {F : Facts}, invV F listed w → invV F (listed.setIfInBounds i true) w
  | [], h => trivial
  | p :: r, h => ⟨fun ha => h.1 (alive_set ha), invV.weak h.2⟩
def noGate : Facts → Nat → Bool
  | [], _ => true
  | p :: r, i => !p.1.contains i && noGate r i
theorem alive_of_set {G : List Nat} {listed : Array Bool} {i : Nat} (hc : G.contains i = false) (h : alive G listed = true) : alive G (listed.setIfInBounds i true) = true := by
  unfold alive at *
  rw [List.all_eq_true] at *
  intro g hg
  have hne : i ≠ g := fun e => by
    subst e
    have : G.contains i = true := by simpa using hg
    rw [hc] at this; cases this
  rw [getD_set_ne true hne]; exact h g hg
theorem invV.back {listed : Array Bool} {w : World} {i : Nat} : ∀ {F : Facts}, noGate F i = true → invV F (listed.setIfInBounds i true) w → invV F listed w
  | [], _, _ => trivial
  | p :: r, hn, h => by
    simp only [noGate, Bool.and_eq_true, Bool.not_eq_true'] at hn
    exact ⟨fun ha => h.1 (alive_of_set hn.1 ha), invV.back hn.2 h.2⟩
section
variable {Rn : Option Nat} {P : Program} {ops : Array Oper} {Q : Exit → Act → World → Prop} {md : Region.Mode} {F : Facts}
def wpAnyV (P : Program) (md : Region.Mode) (ops : Array Oper) (Q : Exit → Act → World → Prop) (F : Facts) : Nat → Array Bool → Act → World → Prop
  | 0, listed, a, w => Region.ready md ops listed = [] ∧ Q .normal a w
  | fuel + 1, listed, a, w =>
    (Region.ready md ops listed = [] → Q .normal a w) ∧
    ∀ i ∈ Region.ready md ops listed, wpOp P ops Q i (fun a' w' => invV F (listed.setIfInBounds i true) w' ∧ wpAnyV P md ops Q F fuel (listed.setIfInBounds i true) a' w') a w
theorem wpAny_of_V : ∀ (fuel : Nat) (listed : Array Bool) (a : Act) (w : World), wpAnyV P md ops Q F fuel listed a w → wpAny P md ops Q fuel listed a w
  | 0, _, _, _, h => h
  | fuel + 1, _, _, _, h => ⟨h.1, fun i hi => wpOp_mono (fun a' w' h' => wpAny_of_V fuel _ a' w' h'.2) (h.2 i hi)⟩
def waits (md : Region.Mode) (ops : Array Oper) (G : List Nat) (i : Nat) : Bool := G.all fun g => match ops[g]? with | some o => o.after.any fun e => Region.binds md e && e.on == i | none => false
theorem waits_spec {G : List Nat} {i : Nat} (h : waits md ops G i = true) {g : Nat} (hg : g ∈ G) : ∃ o, ops[g]? = some o ∧ ∃ e ∈ o.after, Region.binds md e = true ∧ e.on = i := by
  have h1 := List.all_eq_true.1 h g hg
  cases ho : ops[g]? with
  | none => simp [ho] at h1
  | some o =>
    simp only [ho] at h1
    obtain ⟨e, he, hb⟩ := Array.any_eq_true'.1 h1
    simp only [Bool.and_eq_true, beq_iff_eq] at hb
    exact ⟨o, rfl, e, he, hb.1, hb.2⟩
theorem wpAnyV_first {i : Nat} {oi : Oper} {v : Value} (hi : ops[i]? = some oi) (hsel : ∀ (j : Nat) (o : Oper) cs b, ops[j]? = some o → o.op ≠ .select cs b)
    (hQ : ∀ c a w, Q (.panic c) (a.put oi.dst v) w → Q (.panic c) a w) {n : Nat} {G : List Nat} {C : World → Prop} (hn : F[n]? = some (G, C)) (hG : waits md ops G i = true) (hN : noGate F i = true) :
    ∀ (fuel : Nat) (listed : Array Bool) (a : Act) (w : World),
      (∀ j oj, ops[j]? = some oj → j ≠ i → listed.getD j true = false → (∀ e ∈ oj.after, Region.binds md e = true → e.on ≠ i) → oi.apart ops oj = true) →
      i ∈ Region.ready md ops listed → YieldsIf P ops C oi v a → alive G listed = true → invV F listed w →
      wpAnyV P md ops Q F fuel (listed.setIfInBounds i true) (a.put oi.dst v) w → wpAnyV P md ops Q F (fuel + 1) listed a w := by
  intro fuel
  induction fuel with
  | zero =>
    intro listed a w _ hr hy ha hS H
    refine ⟨fun h => (by rw [h] at hr; cases hr), fun j hj => ?_⟩
    by_cases hji : j = i
    · subst hji; exact hy.wpOp hi (hS.get n hn ha) ⟨hS.weak, H⟩
    · have := ready_mono hj hji
      rw [H.1] at this
      cases this
  | succ fuel ih =>
    intro listed a w hfree hr hy ha hS H
    refine ⟨fun h => (by rw [h] at hr; cases hr), fun j hj => ?_⟩
    by_cases hji : j = i
    · subst hji; exact hy.wpOp hi (hS.get n hn ha) ⟨hS.weak, H⟩
    · have h1 := H.2 j (ready_mono hj hji)
      obtain ⟨hjun, oj, hoj, hall⟩ := mem_ready.1 hj
      have hnot : ∀ e ∈ oj.after, Region.binds md e = true → e.on ≠ i := fun e he hb heq => by
        have h1 := hall e he hb
        have h0 := (mem_ready.1 hr).1
        rw [heq] at h1
        rcases Nat.lt_or_ge i listed.size with h' | h'
        · simp [h'] at h0 h1; rw [h0] at h1; cases h1
        · simp [Array.getElem?_eq_none h'] at h1
      have hjG : j ∉ G := fun hm => by
        obtain ⟨o, ho, e, he, hb, heq⟩ := waits_spec hG hm
        rw [hoj] at ho
        obtain rfl := Option.some.inj ho
        exact hnot e he hb heq
      have ha' : alive G (listed.setIfInBounds j true) = true := by
        unfold alive at *
        rw [List.all_eq_true] at *
        intro g hg
        have hne : j ≠ g := fun e => hjG (e ▸ hg)
        rw [getD_set_ne true hne]; exact ha g hg
      have h2 := wpOp_putIf hoj (hfree j oj hoj hji hjun hnot) (fun cs b => hsel i oi cs b hi) (fun cs b => hsel j oj cs b hoj) hQ hy h1
      have hfree' : ∀ k ok, ops[k]? = some ok → k ≠ i → (listed.setIfInBounds j true).getD k true = false →
          (∀ e ∈ ok.after, Region.binds md e = true → e.on ≠ i) → oi.apart ops ok = true := fun k ok hk hki hun hno => by
        refine hfree k ok hk hki ?_ hno
        by_cases hjk : j = k
        · subst hjk; exact hjun
        · rw [getD_set_ne true hjk] at hun; exact hun
      refine wpOp_mono (fun a' w' h3 => ?_) h2
      obtain ⟨hy', hinv, hrest⟩ := h3
      rw [Array.setIfInBounds_comm _ _ (Ne.symm hji)] at hinv hrest
      have hinv' : invV F (listed.setIfInBounds j true) w' := invV.back hN hinv
      refine ⟨hinv', ih (listed.setIfInBounds j true) a' w' hfree' (ready_mono hr (Ne.symm hji)) hy' ha' hinv' ?_⟩
      exact hrest
end
section
variable {Rn : Option Nat} {P : Program} {ops : Array Oper} {a : Act} {w : World} {Df : List Deferred} {N : Nat} {E : Ent} {d : Nat} {J : Act → World → Prop} {fuel : Nat} {listed : Array Bool} {o : Oper} {F : Facts}
theorem k_heldV {Q : Exit → Act → World → Prop} {cs : List Code} {id : Nat} {l : List Oper} (F : Facts) (J : Act → World → Prop) (hm : P.follows .mixedOrders = true) (h0 : invV F (Array.replicate l.length false) w.drew)
    (h : invV F (Array.replicate l.length false) w.drew → wpAnyV P .any l.toArray (QJ J) F l.length (Array.replicate l.length false) a w.drew) (hk : ∀ a w, J a w → wpK none P Q cs a w) : wpK none P Q (.region id l.toArray true :: cs) a w := by
  have h1 : (Code.region id l.toArray true).wp P (QJ J) a w := wp_region_any hm (by simpa using wpAny_of_V _ _ _ _ (h h0))
  exact wpIn_wide.2 <| Code.wp_mono (fun e a w q => by
    cases e with
    | normal => exact hk a w q
    | _ => exact q.elim) h1
def At0 (Z : World) (ρ : PH) : World → Prop := fun w => ∃ L, Hp Z ρ L w
def At1 (Z : World) (ρ : PH) (A : Atom) : World → Prop := fun w => ∃ L, Hp Z ρ (A :: L) w
variable {Z : World} {ρ : PH} {A : Atom}
theorem v_take (i n : Nat) {G : List Nat} {C : World → Prop} (wk : Region.wanted o (yielded ops a.tmps) = true) (hi : ops[i]? = some o) (hd : o.dst = some d) (hN : Nat.blt d N = true) (hE : EnvD Df N E a) (hs : Region.noSelect ops = true) (hf : Region.free .any ops listed i = true) (hr : (Region.ready .any ops listed).contains i = true)
    (hn : F[n]? = some (G, C)) (hG : (waits .any ops G i && alive G listed && noGate F i) = true) (hS : invV F listed w) {v : Value} (hx : Ex P C a o v)
    (K : ∀ a, EnvD Df N ((d, v) :: E) a → invV F (listed.setIfInBounds i true) w → wpAnyV P .any ops (QJ J) F fuel (listed.setIfInBounds i true) a w) : wpAnyV P .any ops (QJ J) F (fuel + 1) listed a w := by
  simp only [Bool.and_eq_true] at hG
  exact wpAnyV_first hi (Region.noSelect_spec hs) (fun _ _ _ q => q.elim) hn hG.1.1 hG.2 fuel listed a w (Region.free_spec hi hf) (by simpa using hr) (Or.inl ⟨wk, hx⟩) hG.1.2 hS (by rw [hd]; exact K _ (hE.put hN v) hS.weak)
theorem v_take0 (i : Nat) (wk : Region.wanted o (yielded ops a.tmps) = true) (hi : ops[i]? = some o) (hd : o.dst = some d) (hN : Nat.blt d N = true) (hE : EnvD Df N E a) (hs : Region.noSelect ops = true) (hf : Region.free .any ops listed i = true) (hr : (Region.ready .any ops listed).contains i = true)
    (hn : F[0]? = some ([], At0 Z ρ)) (hG : (waits .any ops [] i && alive [] listed && noGate F i) = true) (hS : invV F listed w) {v : Value} (hx : ∀ L, Ex P (Hp Z ρ L) a o v)
    (K : ∀ a, EnvD Df N ((d, v) :: E) a → invV F (listed.setIfInBounds i true) w → wpAnyV P .any ops (QJ J) F fuel (listed.setIfInBounds i true) a w) : wpAnyV P .any ops (QJ J) F (fuel + 1) listed a w :=
  v_take i 0 wk hi hd hN hE hs hf hr hn hG hS (fun w ⟨L, hw⟩ => hx L w hw) K
theorem v_take1 (i n : Nat) {G : List Nat} (wk : Region.wanted o (yielded ops a.tmps) = true) (hi : ops[i]? = some o) (hd : o.dst = some d) (hN : Nat.blt d N = true) (hE : EnvD Df N E a) (hs : Region.noSelect ops = true) (hf : Region.free .any ops listed i = true) (hr : (Region.ready .any ops listed).contains i = true)
    (hn : F[n]? = some (G, At1 Z ρ A)) (hG : (waits .any ops G i && alive G listed && noGate F i) = true) (hS : invV F listed w) {v : Value} (hx : ∀ L, Ex P (Hp Z ρ (A :: L)) a o v)
    (K : ∀ a, EnvD Df N ((d, v) :: E) a → invV F (listed.setIfInBounds i true) w → wpAnyV P .any ops (QJ J) F fuel (listed.setIfInBounds i true) a w) : wpAnyV P .any ops (QJ J) F (fuel + 1) listed a w :=
  v_take i n wk hi hd hN hE hs hf hr hn hG hS (fun w ⟨L, hw⟩ => hx L w hw) K
theorem and_with {p q : Prop} (h : p) (k : p → q) : p ∧ q := ⟨h, k h⟩
theorem v_all (rs : List Nat) (hr : Region.ready .any ops listed = rs) (hne : rs.isEmpty = false) (h : ∀ i ∈ rs, wpOp P ops (QJ J) i (fun a' w' => invV F (listed.setIfInBounds i true) w' ∧ wpAnyV P .any ops (QJ J) F fuel (listed.setIfInBounds i true) a' w') a w) : wpAnyV P .any ops (QJ J) F (fuel + 1) listed a w :=
  ⟨fun h0 => absurd (hr ▸ h0) (by intro e; rw [e] at hne; cases hne), hr ▸ h⟩
theorem v_done (hr : Region.ready .any ops listed = []) (h : J a w) : wpAnyV P .any ops (QJ J) F fuel listed a w := by
  cases fuel with
  | zero => exact ⟨hr, h⟩
  | succ n => exact ⟨fun _ => h, by rw [hr]; simp⟩
theorem dead {G : List Nat} {p : Prop} (h : alive G listed = false) : alive G listed = true → p := fun e => by rw [h] at e; cases e
end
end Go.Proofs.YtelioaepnpnojaaGreatDoor

/- Parts of owned slices that are looked at; clear; elements of many cells that are turned. Plain theorems over any program. -/
set_option linter.unusedVariables false
set_option linter.unusedSimpArgs false
namespace Go.Proofs.YtelioaepnpnojaaGreatDoor
open Go.RowKit
instance rep1List {α : Type} [Rep α] : Rep1 (List α) := ⟨fun h v hv => by
  obtain ⟨u, rfl, h⟩ := h
  rw [List.mem_singleton.1 hv]; exact h.one, Nat.one_pos⟩
section
variable {Rn : Option Nat} {P : Program} {ops : Array Oper} {Q : Exit → Act → World → Prop} {rest : List Oper} {o : Oper} {a : Act} {w : World} {Df : List Deferred} {N : Nat} {E : Ent} {d : Nat} {Z : World} {ρ : PH} {L : List Atom}
variable {α : Type} [Enc α] {T El : TypeId} {bytes : Nat} {v : Value} {l r : List α}
theorem OwnSl.view (hp : Hp Z ρ L w) (k : Nat) (hk : L[k]? = some (OwnSl El v l)) (ht : SlTy P T El (Enc.sz α) bytes) (lo hi : Option (IntKind × Int)) {i j : Int} (hlo : i = match lo with | none => 0 | some p => p.2) (hhi : j = match hi with | none => (l.length : Int) | some p => p.2) (hr : sub l i j = some r) :
    ∃ v', ∀ w, (Instr.sliceAt T v (lo.map fun p => .int p.1 p.2) (hi.map fun p => .int p.1 p.2) none).run P w = .ok v' w := by
  obtain ⟨κ, ha, hd, _⟩ := (hp.get k hk).lend
  obtain ⟨v', h, _⟩ := RoSl.part (OwnSl.ro hd ha) ht lo hi hlo hhi hr
  exact ⟨v', h⟩
omit [Enc α] in
theorem sl_det [Rep α] (w : World) {x y : Option Value} {v1 v2 : Value} (h1 : ∀ w, (Instr.sliceAt T v x y none).run P w = .ok v1 w) (h2 : ∀ w, (Instr.sliceAt T v x y none).run P w = .ok v2 w) (h : RoSl ρ v1 l) : RoSl ρ v2 l := by
  have := (h1 w).symm.trans (h2 w)
  injection this with e
  exact e ▸ h
end
end Go.Proofs.YtelioaepnpnojaaGreatDoor

/- Formulas, circuits and what is propagated, as data. -/
set_option linter.unusedVariables false
set_option linter.unusedSimpArgs false
namespace Go.Proofs.YtelioaepnpnojaaGreatDoor
open Vl (vl)
open Go.RowKit
structure Arr2 where
  x0 : Int
  x1 : Int
deriving DecidableEq
instance : Vl Arr2 := ⟨fun a => .agg #[.int .i64 a.x0, .int .i64 a.x1]⟩
instance : Enc Arr2 := ⟨2, fun a => [.int .i64 a.x0, .int .i64 a.x1], fun _ => rfl, fun a v h => by
  simp at h; rcases h with rfl | rfl <;> rfl, by decide⟩
structure Formula where
  vars : Int
  clauses : List (List Int)
structure Gates where
  inputs : Int
  gates : List Arr2
structure GBuilder where
  circuit : Gates
  index : List (Arr2 × Int)
  err : Int
structure PSet where
  f : Formula
  value : List Int
  places : List (List Int)
  left : List Int
  list : List Int
  fails : Bool
theorem kt_arr2 {P : Program} {kt et : TypeId} (hk : P.underlying kt = some (.array 2 et)) (he : P.underlying et = some (.int .i64)) (hag : ∀ w, (isAgg et).run P w = .ok false w) (hsz : ∀ w, (sizeOf et).run P w = .ok 1 w) : KT P kt Arr2 := by
  have r2 : List.range' 0 2 = [0, 1] := rfl
  refine kt_of_eq hk (fun _ _ => rfl) (fun em k w => ?_) (fun a b w => ?_) (fun k => ?_)
  · simp only [vl]
    rw [show (10000 : Nat) = 9998 + 1 + 1 from rfl]
    generalize 9998 = n
    rw [Instr.checkKey]
    simp only [run_underlying hk, Sem.run_bind, Result.andThen_ok]
    simp [Std.Legacy.Range.forIn_eq_forIn_range', Std.Legacy.Range.size, r2, go_sem, part, hag, hsz, Instr.checkKey, run_underlying he]
  · simp only [vl, Op.equal, Op.maxDepth]
    rw [show (10000 : Nat) = 9998 + 1 + 1 from rfl]
    generalize 9998 = n
    rw [Op.equalIn]
    simp only [run_underlying hk, Sem.run_bind, Result.andThen_ok]
    simp [Std.Legacy.Range.forIn_eq_forIn_range', Std.Legacy.Range.size, r2, go_sem, part, hag, hsz, Op.equalIn, run_underlying he]
    obtain ⟨a0, a1⟩ := a
    obtain ⟨b0, b1⟩ := b
    by_cases h0 : a0 = b0 <;> by_cases h1 : a1 = b1 <;> simp [h0, h1]
  · simp only [vl]
    rw [show (10000 : Nat) = 9999 + 1 from rfl, Instr.sameBits]
    simp [Instr.sameBits] <;> exact ba_beq _
theorem eqst_arr2 {P : Program} {kt et : TypeId} (hk : P.underlying kt = some (.array 2 et)) (he : P.underlying et = some (.int .i64)) (hag : ∀ w, (isAgg et).run P w = .ok false w) (hsz : ∀ w, (sizeOf et).run P w = .ok 1 w) (hg : P.eqGuardType P.depth kt = false) (a0 a1 b0 b1 : Int) : EqSt P kt [.int .i64 a0, .int .i64 a1] [.int .i64 b0, .int .i64 b1] ((decide (a0 = b0)) && (decide (a1 = b1))) := ⟨hg, fun w => by
  have r2 : List.range' 0 2 = [0, 1] := rfl
  rw [show (10000 : Nat) = 9998 + 1 + 1 from rfl]
  generalize 9998 = n
  rw [Op.equalIn]
  simp only [run_underlying hk, Sem.run_bind, Result.andThen_ok]
  simp [Std.Legacy.Range.forIn_eq_forIn_range', Std.Legacy.Range.size, r2, go_sem, part, hag, hsz, Op.equalIn, run_underlying he]
  by_cases h0 : a0 = b0 <;> by_cases h1 : a1 = b1 <;> simp [h0, h1]⟩
end Go.Proofs.YtelioaepnpnojaaGreatDoor

/- Formulas and circuits whose numbers are ints and whose lists are not too long. -/
namespace Go.Proofs.YtelioaepnpnojaaGreatDoor
open Go.RowKit
def GWf (g : Gates) : Prop := I64 g.inputs ∧ LW (fun a : Arr2 => I64 a.x0 ∧ I64 a.x1) g.gates
instance repFormula : Rep Formula := ⟨2, fun ρ f cs => ∃ v, cs = [.int .i64 f.vars, v] ∧ RoSl ρ v f.clauses, fun ⟨_, h, _⟩ => by rw [h]; rfl, fun hl ⟨v, h1, h2⟩ => ⟨v, h1, h2.mono hl⟩⟩
instance repGates : Rep Gates := ⟨2, fun ρ g cs => ∃ v, cs = [.int .i64 g.inputs, v] ∧ RoSl ρ v g.gates, fun ⟨_, h, _⟩ => by rw [h]; rfl, fun hl ⟨v, h1, h2⟩ => ⟨v, h1, h2.mono hl⟩⟩
end Go.Proofs.YtelioaepnpnojaaGreatDoor

/- Formulas and circuits as arguments of laws: what is read at their types stands for them. -/
set_option linter.unusedVariables false
set_option linter.unusedSimpArgs false
namespace Go.Proofs.YtelioaepnpnojaaGreatDoor
open Go.ChangeShapes Go.WideShapes Go.ChangeAt Go.RowKit
set_option maxRecDepth 100000 in
theorem reads_arr2 : Reads Tryz.prog 62 Arr2 (fun a : Arr2 => I64 a.x0 ∧ I64 a.x1) := ⟨by kernel_rfl, by decide, fun {H enc w base spare held fuel cs x} h => by
  obtain ⟨xs, m, _, _, hl, hx, hel⟩ := DataW.trod_array Tryz.underlying62 h
  have hl2 : cs.length = 2 := hl.trans (by kernel_rfl)
  have ki : Tryz.prog.cellsOf 3 = 1 := by kernel_rfl
  match cs, hl2, xs, hx with
  | [c0, c1], _, [y0, y1], _ =>
    have z0 := hel 0 (by omega)
    have z1 := hel 1 (by omega)
    simp [ki] at z0 z1
    obtain ⟨n0, e0, _, w0⟩ := DataW.trod_int Tryz.underlying3 z0
    obtain ⟨n1, e1, _, w1⟩ := DataW.trod_int Tryz.underlying3 z1
    simp only [List.cons.injEq, and_true] at e0 e1
    subst e0 e1
    exact ⟨⟨n0, n1⟩, rfl, I64.of w0, I64.of w1⟩⟩
set_option maxRecDepth 100000 in
theorem reads_gates : Reads Tryz.prog 38 Gates GWf := ⟨by kernel_rfl, by decide, fun {H enc w base spare held fuel cs x} h => by
  obtain ⟨xs, n, _, _, hl, hx, hf⟩ := DataW.trod_struct Tryz.underlying38 h
  have hl2 : cs.length = 2 := hl.trans (by kernel_rfl)
  have hx2 : xs.length = 2 := hx
  have ki : Tryz.prog.cellsOf 3 = 1 := by kernel_rfl
  have kl : Tryz.prog.cellsOf 36 = 1 := by kernel_rfl
  match cs, hl2, xs, hx2 with
  | [c0, c1], _, [y0, y1], _ =>
    have z0 := hf 0 _ rfl
    have z1 := hf 1 _ rfl
    simp [ki] at z0
    simp [kl] at z1
    obtain ⟨n0, e0, _, w0⟩ := DataW.trod_int Tryz.underlying3 z0
    obtain ⟨l, v, e1, h1, h2⟩ := reads_slice reads_arr2 Tryz.underlying36 z1
    simp only [List.cons.injEq, and_true] at e0 e1
    subst e0 e1
    exact ⟨⟨n0, l⟩, ⟨_, rfl, h1⟩, I64.of w0, h2⟩⟩
end Go.Proofs.YtelioaepnpnojaaGreatDoor

/- The shelf's contracts on slices of integers, over owned slices and slices that are only read: what they share. Plain theorems. -/
set_option linter.unusedVariables false
set_option linter.unusedSimpArgs false
namespace Go.Proofs.YtelioaepnpnojaaGreatDoor
open Go.RowKit Go.Sort
section
variable {Z : World} {ρ : PH} {L : List Atom} {w : World}
theorem flat_int (l : List Int) : flat l = l.map (Value.int .i64) := by
  induction l with
  | nil => rfl
  | cons x l ih => rw [flat_cons, ih]; rfl
end
end Go.Proofs.YtelioaepnpnojaaGreatDoor

/- What functions of Go's library compute, as data: decimal numbers; the keys of a map, sorted. -/
set_option linter.unusedVariables false
set_option linter.unusedSimpArgs false
namespace Go.Proofs.YtelioaepnpnojaaGreatDoor
open Go.RowKit
def m_itoa (n : Int) : Option ByteArray := if -9223372036854775808 ≤ n ∧ n ≤ 9223372036854775807 then some ⟨(Lib.itoa n).toArray⟩ else none
end Go.Proofs.YtelioaepnpnojaaGreatDoor

/- What the library reads in memory and what lies for ever: the powers of ten, how long a word may be that is looked for, two errors. -/
set_option linter.unusedVariables false
set_option linter.unusedSimpArgs false
namespace Go.Proofs.YtelioaepnpnojaaGreatDoor
open Go.RowKit
structure Tabs (ρ : PH) : Prop where
  pow : ∀ w : World, ρ.le (hp w) → Lib.TabIs Tryz.prog w "internal/strconv.uint64pow10" .u64 Lib.pow10Tab
  maxl : ∃ m : Int, ∀ w : World, ρ.le (hp w) → w.cell? ⟨2, 0, none⟩ = some (.int .i64 m)
  syn : ∃ v : Value, (∀ w : World, ρ.le (hp w) → w.cell? ⟨0, 0, none⟩ = some v) ∧ (v = .nilIface ∨ ∃ te pe, v = .iface te pe)
  rng : ∃ v : Value, (∀ w : World, ρ.le (hp w) → w.cell? ⟨1, 0, none⟩ = some v) ∧ (v = .nilIface ∨ ∃ te pe, v = .iface te pe)
theorem Tabs.mono {ρ ρ' : PH} (h : Tabs ρ) (hl : ρ.le ρ') : Tabs ρ' :=
  ⟨fun w hw => h.pow w (hl.tr hw), h.maxl.imp fun _ k w hw => k w (hl.tr hw), h.syn.imp fun _ k => ⟨fun w hw => k.1 w (hl.tr hw), k.2⟩, h.rng.imp fun _ k => ⟨fun w hw => k.1 w (hl.tr hw), k.2⟩⟩
end Go.Proofs.YtelioaepnpnojaaGreatDoor

/- Tables that a row lays. -/
set_option linter.unusedVariables false
set_option linter.unusedSimpArgs false
namespace Go.Proofs.YtelioaepnpnojaaGreatDoor
open Go.ChangeShapes Go.WideShapes Go.RowKit
theorem laidVars_mem {P : Program} {w : World} : ∀ {l : List (String × DataW Unit)} {ps : List MemPlace}, DataW.LaidVars P w l ps → ∀ {n : String} {d : DataW Unit}, (n, d) ∈ l →
    ∃ g t cs fuel p, P.globalNamed n = some g ∧ (P.globals[g]?).map (·.type) = some t ∧ w.var? P n = some cs ∧ DataW.trod (fun _ => ()) P w 0 (fun _ => true) false fuel t cs.toList = some (d, p)
  | [], _, _, _, _, h => by simp at h
  | (n', d') :: l, ps, ⟨g, t, cs, fuel, p, q, h1, h2, h3, h4, h5, _⟩, n, d, h => by
    rcases List.mem_cons.1 h with e | h
    · simp only [Prod.mk.injEq] at e
      obtain ⟨rfl, rfl⟩ := e
      exact ⟨g, t, cs, fuel, p, h1, h2, h3, h4⟩
    · exact laidVars_mem h5 h
theorem tabIs_of_mem {P : Program} {W : World} {name : String} {k : IntKind} {zs : List Int} {l : List (String × DataW Unit)} {g : Nat} {t e : TypeId} {n : Nat} {d : DataW Unit} (hd : d = Lib.tabData k zs)
    (hg : P.globalNamed name = some g) (hty : (P.globals[g]?).map (·.type) = some t) (ht : P.underlying t = some (.array n e)) (he : P.underlying e = some (.int k)) (hce : P.cellsOf e = 1) (hct : P.cellsOf t = n)
    (hm : (name, d) ∈ l) (h : laidMet P l W) : Lib.TabIs P W name k zs := by
  subst hd
  obtain ⟨ps, hl, _⟩ := h
  obtain ⟨g', t', cs, fuel, p, h1, h2, h3, h4⟩ := laidVars_mem hl hm
  obtain rfl := Option.some.inj (hg.symm.trans h1)
  obtain rfl := Option.some.inj (hty.symm.trans h2)
  unfold Lib.TabIs
  rw [h3, ← Lib.cells_of_tab ht he hce hct h4]
end Go.Proofs.YtelioaepnpnojaaGreatDoor

/- Variables that a row lays, one of them pinned, and the shape of the world at hand: what the library reads lies for ever. -/
set_option linter.unusedVariables false
set_option linter.unusedSimpArgs false
namespace Go.Proofs.YtelioaepnpnojaaGreatDoor
open Go.ChangeShapes Go.WideShapes Go.RowKit
theorem returnsInHanded_of_laid_shaped {H : Type} {enc : TypeId × Value → H} {a : Assume} {C : Checked} {os : Os} {f : FuncId} {fn : Func} {s : ChangeSpec} {conds : List PathCond} {apart fresh handsOn again : Bool} {X : World → Array Value → Prop}
    (hX : ∀ (w w' : World) (args : Array Value), w.heap = w'.heap → X w args → X w' args)
    (own : ownKnob C.prog.godebug = none) (started : os.Started) (noInit : C.prog.inits.idxOf? f = none) (hfn : C.prog.funcs[f]? = some fn)
    (witness : ∃ (w : World) (tape : Tape) (i : Input), w.os = os ∧ (w.forCall tape i).Shaped C.prog ∧ i.vars = [] ∧ Input.okWide C.prog (w.forCall tape i) .any w.heap.size f i ∧
      ((s.pre enc C.prog fn conds apart (w.forCall tape i).memory i.args ∧ X (w.forCall tape i).memory i.args) ∧ sizedMet enc C.prog fn (OpenSpec.ofChange s) apart (w.forCall tape i).memory i.args) ∧ a.holds C.prog (lone (Frame.enter C.prog f i.args .normal) [] (w.forCall tape i)))
    (contract : ∀ (W : World) (base : Nat) (args : Array Value) (ds gs : List (DataW H)) (before : List MemPlace),
      (∀ (j : Nat) t v, fn.params[j]? = some t → args[j]? = some v → Value.okWide C.prog W .any base t v) →
      DataW.Whole enc C.prog fn.params.toList s.vars apart W args.toList ds gs before →
      (DataW.weightsEach C.prog (fn.params.toList ++ s.plain.varTypes C.prog) (ds ++ gs)).all (· ≤ reachBytes) = true → X W args → W.ShapedOpen C.prog →
      Calls C.prog f args W fun e W' => ∃ v, e = .returned v ∧ s.post enc C.prog fn apart fresh handsOn again W args v W') :
    ReturnsInHanded a C os f .any (fun w args => (s.pre enc C.prog fn conds apart w args ∧ X w args) ∧ sizedMet enc C.prog fn (OpenSpec.ofChange s) apart w args) (s.post enc C.prog fn apart fresh handsOn again) := by
  refine returnsInHanded_of_calls own started noInit witness ?_
  intro w tape i _ hsh _ hok hpre hholds
  obtain ⟨_, _, _, fn', hfn', _, _, _, _, hval⟩ := hok
  have e : fn' = fn := Option.some.inj (hfn'.symm.trans hfn)
  subst e
  obtain ⟨⟨⟨ds, gs, before, hw, hc⟩, hx⟩, hz⟩ := hpre
  have hw' := DataW.Whole.of_heap (w' := w.forCall tape i) (by rfl) hw
  refine (contract (w.forCall tape i) w.heap.size i.args ds gs before hval hw' (hz.weights hw) (hX _ _ _ (by rfl) hx) hsh).mono fun e W' ⟨v, he, hp⟩ => ?_
  subst he
  exact ChangeSpec.post_blind hp
theorem var_stays {P : Program} {W w : World} (hw : (hp W).le (hp w)) {name : String} {cs : Array Value} (h : W.var? P name = some cs) : w.var? P name = some cs := by
  unfold World.var? at *
  obtain ⟨g, hg, h⟩ := Option.bind_eq_some_iff.1 h
  refine Option.bind_eq_some_iff.2 ⟨g, hg, ?_⟩
  split at h
  · rename_i cs el fz hb
    rw [show w.heap[g]? = some (.cells cs el fz) from hw g _ hb]
    exact h
  · cases h
theorem cell_stays {W w : World} (hw : (hp W).le (hp w)) {b i : Nat} {v : Value} (h : W.cell? ⟨b, i, none⟩ = some v) : w.cell? ⟨b, i, none⟩ = some v := by
  simp only [World.cell?, Option.isSome_none, Bool.false_eq_true, if_false] at h ⊢
  cases ho : W.heap[b]? with
  | none => rw [ho] at h; cases h
  | some o => rw [show w.heap[b]? = some o from hw b _ ho]; rw [ho] at h; exact h
theorem iface_laid {P : Program} {W : World} {name ty : String} {d : DataW Unit} {l : List (String × DataW Unit)} {g : Nat} {t : TypeId} {ms : Array (String × TypeId)}
    (hg : P.globalNamed name = some g) (hty : (P.globals[g]?).map (·.type) = some t) (ht : P.underlying t = some (.interface ms)) (hm : (name, .iface ty d) ∈ l) (h : laidMet P l W) :
    ∃ v : Value, (∀ w : World, (hp W).le (hp w) → w.cell? ⟨g, 0, none⟩ = some v) ∧ (v = .nilIface ∨ ∃ te pe, v = .iface te pe) := by
  obtain ⟨ps, hl, _⟩ := h
  obtain ⟨g', t', cs, fuel, p, h1, h2, h3, h4⟩ := laidVars_mem hl hm
  obtain rfl := Option.some.inj (hg.symm.trans h1)
  obtain rfl := Option.some.inj (hty.symm.trans h2)
  obtain ⟨_, u, v, hc, _⟩ := iface_of_trod ht h4
  refine ⟨.iface u v, fun w hw => ?_, Or.inr ⟨u, v, rfl⟩⟩
  have := World.var?_cell hg (var_stays hw h3) 0
  rw [this]
  have : cs[0]? = cs.toList[0]? := by simp
  rw [this, hc]; rfl
end Go.Proofs.YtelioaepnpnojaaGreatDoor

/- How the arguments of the laws are read. (Printed by wip/sp/gen.py.) -/
set_option linter.unusedVariables false
set_option linter.unusedSimpArgs false
namespace Go.Proofs.YtelioaepnpnojaaGreatDoor
open Go.ChangeShapes Go.WideShapes Go.ChangeAt Go.RowKit
theorem own_ : ownKnob Tryz.prog.godebug = none := by kernel_rfl
theorem laidOut_ : laidOutB Tryz.prog = true := by kernel_rfl
def laidL : List (String × DataW Unit) := [("math/bits.deBruijn32tab", Rows.laid_math_bits_deBruijn32tab), ("math/bits.deBruijn64tab", Rows.laid_math_bits_deBruijn64tab), ("internal/strconv.uint64pow10", Rows.laid_internal_strconv_uint64pow10), ("unicode/utf8.acceptRanges", Rows.laid_unicode_utf8_acceptRanges), ("strconv.ErrRange", Rows.laid_strconv_ErrRange), ("strconv.ErrSyntax", Rows.laid_strconv_ErrSyntax), ("unicode/utf8.first", Rows.laid_unicode_utf8_first)]
theorem laidMetH_plain_ (W : World) : laidMetH Tryz.prog laidL W = laidMet Tryz.prog laidL W := MakeChecks.laidMetH_plain _ _ _ (by kernel_rfl)
theorem tabs_of {W : World} (h : laidMet Tryz.prog laidL W) (hs : W.ShapedOpen Tryz.prog) : Tabs (hp W) := by
  refine ⟨fun w hw => ?_, ?_, iface_laid (t := 82) (g := 0) (d := .ptr (.agg [.lit (.string [105, 110, 118, 97, 108, 105, 100, 32, 115, 121, 110, 116, 97, 120])])) (ty := "*errors.errorString") (by kernel_rfl) (by kernel_rfl) Tryz.underlying82 (List.mem_of_getElem? (show laidL[5]? = some ("strconv.ErrSyntax", _) from rfl)) h, iface_laid (t := 82) (g := 1) (d := .ptr (.agg [.lit (.string [118, 97, 108, 117, 101, 32, 111, 117, 116, 32, 111, 102, 32, 114, 97, 110, 103, 101])])) (ty := "*errors.errorString") (by kernel_rfl) (by kernel_rfl) Tryz.underlying82 (List.mem_of_getElem? (show laidL[4]? = some ("strconv.ErrRange", _) from rfl)) h⟩
  · exact var_stays hw (tabIs_of_mem (g := 3) (t := 164) (e := 125) (n := 20) (d := Rows.laid_internal_strconv_uint64pow10) (by kernel_rfl) (by kernel_rfl) (by kernel_rfl) (by kernel_rfl) (by kernel_rfl) (by kernel_rfl) (by kernel_rfl) (List.mem_of_getElem? (show laidL[2]? = some ("internal/strconv.uint64pow10", _) from rfl)) h)
  · obtain ⟨m, hm⟩ := Go.Proofs.cell_of_shapedOpen_int (zero := #[.int .i64 0]) (g := 2) (t := 3) hs (of_decide_eq_true (by kernel_rfl)) (by kernel_rfl) rfl (by kernel_rfl) (by kernel_rfl) Tryz.underlying3
    exact ⟨m, fun w hw => cell_stays hw hm⟩
theorem reads3 : Reads Tryz.prog 3 Int I64 := reads_int Tryz.underlying3 (by kernel_rfl)
end Go.Proofs.YtelioaepnpnojaaGreatDoor

/- What functions of Go's library compute at the places where the program calls them, as data. -/
set_option linter.unusedVariables false
set_option linter.unusedSimpArgs false
namespace Go.Proofs.YtelioaepnpnojaaGreatDoor
open Go.RowKit
def vr (l : Int) : Int := max l (0 - l)
def ltN (x y : Int) : Bool := decide (vr x < vr y ∨ vr x = vr y ∧ x < y)
def litOk (l : List Int) : Bool := l.all fun x => decide (-4611686018427387904 ≤ x ∧ x ≤ 4611686018427387904)
def m_sortN (l : List Int) : Option (List Int) := if l.length < 4294967297 ∧ litOk l = true then some (l.mergeSort fun x y => !ltN y x) else none
def m_sortV (l : List Int) : Option (List Int) := if l.length < 4294967297 ∧ litOk l = true ∧ (l.map vr).Nodup then some (l.mergeSort fun x y => !ltN y x) else none
def m_compactI (l : List Int) : Option (List Int) := if l.length < 4294967297 then some (Lib.compact l) else none
def m_atoi (s : ByteArray) : Option Int := if s.size ≤ 281474976710656 then some (match Lib.atoiAll s.data.toList with | .ok v => v | .range => Lib.atoiSat s.data.toList | _ => 0) else none
def m_cut (s sep : ByteArray) : Option (ByteArray × ByteArray × Bool) := if s.size < 4294967281 then some (⟨(Lib.cut s.data.toList sep.data.toList).1.toArray⟩, ⟨(Lib.cut s.data.toList sep.data.toList).2.1.toArray⟩, (Lib.cut s.data.toList sep.data.toList).2.2) else none
def m_split (s sep : ByteArray) : Option (List ByteArray) := if s.size < 4294967281 ∧ 1 ≤ sep.size ∧ Lib.countB s sep < 4294967296 then some (Lib.splitB sep 0 (Lib.countB s sep) s) else none
def m_WStr (l s : ByteArray) : Option ByteArray := if l.size + s.size ≤ 140737488355328 then some (l ++ s) else none
def m_BStr (l : ByteArray) : Option ByteArray := if l.size ≠ 0 then some l else none
end Go.Proofs.YtelioaepnpnojaaGreatDoor

/- Models of: assessor/cnf.variable, assessor/cnf.index, assessor/cnf.Literal, assessor/cnf.normal, assessor/cnf.Valid, assessor/cnf.Holds$1, slices.IndexFunc[[]in -/
set_option linter.unusedVariables false
set_option linter.unusedSimpArgs false
namespace Go.Proofs.YtelioaepnpnojaaGreatDoor
open Go.RowKit
noncomputable def m_cnf_variable (p0 : Int) : Option Int :=
  (inK .i64 (0 - p0)).bind fun x1 =>
  some (max p0 x1)
noncomputable def m_cnf_index (p0 : Int) : Option Int :=
  if (decide (p0 < 0)) = true then
    (inK .i64 ((-2) * p0)).bind fun x1 =>
    (inK .i64 (x1 + 1)).bind fun x2 =>
    some x2
  else
    (inK .i64 (2 * p0)).bind fun x3 =>
    some x3
noncomputable def m_cnf_Literal (p0 : Int) : Option Int :=
  if (decide (p0 < 0)) = true then
    some 0
  else
    (remK p0 2).bind fun x1 =>
    if (decide (x1 = 0)) = true then
      (quoK .i64 p0 2).bind fun x2 =>
      (inK .i64 (x2 + 1)).bind fun x3 =>
      some x3
    else
      (quoK .i64 p0 2).bind fun x4 =>
      (inK .i64 (x4 + 1)).bind fun x5 =>
      (inK .i64 (0 - x5)).bind fun x6 =>
      some x6
noncomputable def m_cnf_normal_lp1 (p0 : (List Int)) (p1 : Int) (lp1_0 : Int) (lp1_1 : Int) : Option (Step (Int × Int) (Out Unit Bool)) :=
  if (decide (lp1_1 < (p0.length : Int))) = true then
    (idx p0 lp1_1).bind fun x1 =>
    (inK .i64 (0 - p1)).bind fun x2 =>
    ((if ((decide (x1 < x2)) || (decide (p1 < x1))) = true then
      some true
    else
      (m_cnf_variable x1).bind fun x3 =>
      some (decide (x3 ≤ lp1_0))) : Option Bool).bind fun m1 =>
    if m1 = true then
      some (.done (.ret false))
    else
      (m_cnf_variable x1).bind fun x4 =>
      (inK .i64 (lp1_1 + 1)).bind fun x5 =>
      some (.next (x4, x5))
  else
    some (.done (.brk ()))
noncomputable def m_cnf_normal (p0 : (List Int)) (p1 : Int) : Option Bool :=
  (loopM (fun s => m_cnf_normal_lp1 p0 p1 s.1 s.2) (0, 0) : Option (Out Unit Bool)).bind fun b1 =>
  match b1 with
  | .brk b1s =>
    some true
  | .ret r => some r
noncomputable def m_cnf_Valid_lp1 (p0 : Formula) (lp1_0 : Int) : Option (Step Int (Out Unit Bool)) :=
  if (decide (lp1_0 < (p0.clauses.length : Int))) = true then
    (idx p0.clauses lp1_0).bind fun x1 =>
    (m_cnf_normal x1 p0.vars).bind fun x2 =>
    if (!x2) = true then
      some (.done (.ret false))
    else
      (inK .i64 (lp1_0 + 1)).bind fun x3 =>
      some (.next x3)
  else
    some (.done (.brk ()))
noncomputable def m_cnf_Valid (p0 : Formula) : Option Bool :=
  if (((decide (p0.vars < 0)) || (decide (65536 < p0.vars))) || (decide (262144 < (p0.clauses.length : Int)))) = true then
    some false
  else
    (loopM (fun s => m_cnf_Valid_lp1 p0 s) 0 : Option (Out Unit Bool)).bind fun b2 =>
    match b2 with
    | .brk b2s =>
      some true
    | .ret r => some r
noncomputable def m_cnf_Holds_1 (p0 : Int) (c0 : (List Int)) : Option Bool :=
  (m_cnf_variable p0).bind fun x1 =>
  (inK .i64 (x1 - 1)).bind fun x2 =>
  (idx c0 x2).bind fun x3 =>
  some (decide (x3 = p0))
noncomputable def m_slices_IndexFunc_cnf_Holds_1_lp1 (p0 : (List Int)) (p1c0 : (List Int)) (lp1_0 : Int) : Option (Step Int (Out Unit Int)) :=
  if (decide (lp1_0 < (p0.length : Int))) = true then
    (idx p0 lp1_0).bind fun x1 =>
    (m_cnf_Holds_1 x1 p1c0).bind fun x2 =>
    if x2 = true then
      some (.done (.ret lp1_0))
    else
      (inK .i64 (lp1_0 + 1)).bind fun x3 =>
      some (.next x3)
  else
    some (.done (.brk ()))
noncomputable def m_slices_IndexFunc_cnf_Holds_1 (p0 : (List Int)) (p1c0 : (List Int)) : Option Int :=
  (loopM (fun s => m_slices_IndexFunc_cnf_Holds_1_lp1 p0 p1c0 s) 0 : Option (Out Unit Int)).bind fun b1 =>
  match b1 with
  | .brk b1s =>
    some (-1)
  | .ret r => some r
noncomputable def m_slices_ContainsFunc_cnf_Holds_1 (p0 : (List Int)) (p1c0 : (List Int)) : Option Bool :=
  (m_slices_IndexFunc_cnf_Holds_1 p0 p1c0).bind fun x1 =>
  some (decide (0 ≤ x1))
noncomputable def m_cnf_Holds_lp1 (p1 : (List Int)) (lp1_0 : Int) : Option (Step Int (Out Unit Bool)) :=
  if (decide (lp1_0 < (p1.length : Int))) = true then
    (idx p1 lp1_0).bind fun x2 =>
    (inK .i64 (lp1_0 + 1)).bind fun x3 =>
    ((if (!decide (x2 = x3)) = true then
      (inK .i64 (0 - lp1_0)).bind fun x4 =>
      (inK .i64 (x4 - 1)).bind fun x5 =>
      some (!decide (x2 = x5))
    else
      some false) : Option Bool).bind fun m1 =>
    if m1 = true then
      some (.done (.ret false))
    else
      (inK .i64 (lp1_0 + 1)).bind fun x6 =>
      some (.next x6)
  else
    some (.done (.brk ()))
noncomputable def m_cnf_Holds_lp2 (p0 : Formula) (p1 : (List Int)) (lp2_0 : Int) : Option (Step Int (Out Unit Bool)) :=
  if (decide (lp2_0 < (p0.clauses.length : Int))) = true then
    (idx p0.clauses lp2_0).bind fun x7 =>
    (m_slices_ContainsFunc_cnf_Holds_1 x7 p1).bind fun x8 =>
    if (!x8) = true then
      some (.done (.ret false))
    else
      (inK .i64 (lp2_0 + 1)).bind fun x9 =>
      some (.next x9)
  else
    some (.done (.brk ()))
noncomputable def m_cnf_Holds (p0 : Formula) (p1 : (List Int)) : Option Bool :=
  (m_cnf_Valid p0).bind fun x1 =>
  if ((!x1) || (!decide ((p1.length : Int) = p0.vars))) = true then
    some false
  else
    (loopM (fun s => m_cnf_Holds_lp1 p1 s) 0 : Option (Out Unit Bool)).bind fun b3 =>
    match b3 with
    | .brk b3s =>
      (loopM (fun s => m_cnf_Holds_lp2 p0 p1 s) 0 : Option (Out Unit Bool)).bind fun b5 =>
      match b5 with
      | .brk b5s =>
        some true
      | .ret r => some r
    | .ret r => some r
noncomputable def m_cnf_Normal_lp1 (p0 : (List Int)) (lp1_0 : Int) : Option (Step Int (Out Unit ((List Int) × Bool))) :=
  if (decide (lp1_0 < (p0.length : Int))) = true then
    (idx p0 lp1_0).bind fun x1 =>
    if (((decide (x1 = 0)) || (decide (x1 < (-1073741824)))) || (decide (1073741824 < x1))) = true then
      some (.done (.ret ([], false)))
    else
      (inK .i64 (lp1_0 + 1)).bind fun x2 =>
      some (.next x2)
  else
    some (.done (.brk ()))
noncomputable def m_cnf_Normal_lp2 (x5 : (List Int)) (lp2_0 : Int) : Option (Step Int (Out Unit ((List Int) × Bool))) :=
  if (decide (lp2_0 < (x5.length : Int))) = true then
    (inK .i64 (lp2_0 - 1)).bind fun x6 =>
    (idx x5 x6).bind fun x7 =>
    (idx x5 lp2_0).bind fun x8 =>
    (inK .i64 (0 - x8)).bind fun x9 =>
    if (decide (x7 = x9)) = true then
      some (.done (.ret ([], false)))
    else
      (inK .i64 (lp2_0 + 1)).bind fun x10 =>
      some (.next x10)
  else
    some (.done (.brk ()))
noncomputable def m_cnf_Normal (p0 : (List Int)) : Option ((List Int) × Bool) :=
  (loopM (fun s => m_cnf_Normal_lp1 p0 s) 0 : Option (Out Unit ((List Int) × Bool))).bind fun b1 =>
  match b1 with
  | .brk b1s =>
    (app [] p0).bind fun x3 =>
    (m_sortN x3).bind fun x4 =>
    (m_compactI x4).bind fun x5 =>
    (loopM (fun s => m_cnf_Normal_lp2 x5 s) 1 : Option (Out Unit ((List Int) × Bool))).bind fun b3 =>
    match b3 with
    | .brk b3s =>
      some (x5, true)
    | .ret r => some r
  | .ret r => some r
end Go.Proofs.YtelioaepnpnojaaGreatDoor

/- Models of: assessor/assessorref26.Variable, assessor/assessorref26.Normal, assessor/assessorref26.IsClause, assessor/assessorref26.Valid, assessor/assessorref26 -/
set_option linter.unusedVariables false
set_option linter.unusedSimpArgs false
namespace Go.Proofs.YtelioaepnpnojaaGreatDoor
open Go.RowKit
noncomputable def m_assessorref26_Variable (p0 : Int) : Option Int :=
  if (decide (p0 < 0)) = true then
    (inK .i64 (0 - p0)).bind fun x1 =>
    some x1
  else
    some p0
noncomputable def m_assessorref26_Normal_lp2 (p0 : (List Int)) (lp1_0 : Int) (lp1_1 : (List Int)) (lp2_0 : Int) : Option (Step Int Int) :=
  ((if (decide (lp2_0 < (lp1_1.length : Int))) = true then
    (idx lp1_1 lp2_0).bind fun x4 =>
    (m_assessorref26_Variable x4).bind fun x5 =>
    (idx p0 lp1_0).bind fun x6 =>
    (m_assessorref26_Variable x6).bind fun x7 =>
    some (decide (x5 < x7))
  else
    some false) : Option Bool).bind fun m3 =>
  if m3 = true then
    (inK .i64 (lp2_0 + 1)).bind fun x8 =>
    some (.next x8)
  else
    some (.done lp2_0)
noncomputable def m_assessorref26_Normal_lp1 (p0 : (List Int)) (lp1_0 : Int) (lp1_1 : (List Int)) : Option (Step (Int × (List Int)) (Out (List Int) ((List Int) × Bool))) :=
  if (decide (lp1_0 < (p0.length : Int))) = true then
    (((idx p0 lp1_0).bind fun x1 =>
    ((if (decide (x1 = 0)) = true then
      some true
    else
      (idx p0 lp1_0).bind fun x2 =>
      some (decide (x2 < (-1073741824)))) : Option Bool).bind fun m1 =>
    ((if m1 = true then
      some true
    else
      (idx p0 lp1_0).bind fun x3 =>
      some (decide (1073741824 < x3))) : Option Bool).bind fun m2 =>
    if m2 = true then
      some (.ret ([], false))
    else
      (loopM (fun s => m_assessorref26_Normal_lp2 p0 lp1_0 lp1_1 s) 0 : Option Int).bind fun b6 =>
      ((if (decide (b6 < (lp1_1.length : Int))) = true then
        (idx lp1_1 b6).bind fun x9 =>
        (idx p0 lp1_0).bind fun x10 =>
        (inK .i64 (0 - x10)).bind fun x11 =>
        some (decide (x9 = x11))
      else
        some false) : Option Bool).bind fun m4 =>
      if m4 = true then
        some (.ret ([], false))
      else
        ((if (decide (b6 < (lp1_1.length : Int))) = true then
          (idx lp1_1 b6).bind fun x12 =>
          (idx p0 lp1_0).bind fun x13 =>
          some (decide (x12 = x13))
        else
          some false) : Option Bool).bind fun m5 =>
        if m5 = true then
          some (.brk lp1_1)
        else
          (sub lp1_1 0 b6).bind fun x14 =>
          (app ([] : List Int) x14).bind fun x15 =>
          (idx p0 lp1_0).bind fun x16 =>
          (app x15 [x16]).bind fun x17 =>
          (sub lp1_1 b6 (lp1_1.length : Int)).bind fun x18 =>
          (app x17 x18).bind fun x19 =>
          some (.brk x19)) : Option (Out (List Int) ((List Int) × Bool))).bind fun j1 =>
    match j1 with
    | .brk j1s =>
      (inK .i64 (lp1_0 + 1)).bind fun x20 =>
      some (.next (x20, j1s))
    | .ret r => some (.done (.ret r))
  else
    some (.done (.brk lp1_1))
noncomputable def m_assessorref26_Normal (p0 : (List Int)) : Option ((List Int) × Bool) :=
  (loopM (fun s => m_assessorref26_Normal_lp1 p0 s.1 s.2) (0, ([] : List Int)) : Option (Out (List Int) ((List Int) × Bool))).bind fun b2 =>
  match b2 with
  | .brk b2s =>
    some (b2s, true)
  | .ret r => some r
noncomputable def m_assessorref26_Literal (p0 : Int) : Option Int :=
  if (decide (p0 < 0)) = true then
    some 0
  else
    (remK p0 2).bind fun x1 =>
    if (decide (x1 = 0)) = true then
      (quoK .i64 p0 2).bind fun x2 =>
      (inK .i64 (x2 + 1)).bind fun x3 =>
      some x3
    else
      (quoK .i64 p0 2).bind fun x4 =>
      (inK .i64 (x4 + 1)).bind fun x5 =>
      (inK .i64 (0 - x5)).bind fun x6 =>
      some x6
noncomputable def m_assessorref26_Clauses_lp2 (p0 : (List (List Int))) (p1 : (List (List Int))) (lp1_0 : Int) (lp2_0 : Int) : Option (Step Int (Out Unit Bool)) :=
  (idx p0 lp1_0).bind fun x3 =>
  if (decide (lp2_0 < (x3.length : Int))) = true then
    (idx p0 lp1_0).bind fun x4 =>
    (idx x4 lp2_0).bind fun x5 =>
    (idx p1 lp1_0).bind fun x6 =>
    (idx x6 lp2_0).bind fun x7 =>
    if (!decide (x5 = x7)) = true then
      some (.done (.ret false))
    else
      (inK .i64 (lp2_0 + 1)).bind fun x8 =>
      some (.next x8)
  else
    some (.done (.brk ()))
noncomputable def m_assessorref26_Clauses_lp1 (p0 : (List (List Int))) (p1 : (List (List Int))) (lp1_0 : Int) : Option (Step Int (Out Unit Bool)) :=
  if (decide (lp1_0 < (p0.length : Int))) = true then
    (idx p0 lp1_0).bind fun x1 =>
    (idx p1 lp1_0).bind fun x2 =>
    if (!decide ((x1.length : Int) = (x2.length : Int))) = true then
      some (.done (.ret false))
    else
      (loopM (fun s => m_assessorref26_Clauses_lp2 p0 p1 lp1_0 s) 0 : Option (Out Unit Bool)).bind fun b4 =>
      match b4 with
      | .brk b4s =>
        (inK .i64 (lp1_0 + 1)).bind fun x9 =>
        some (.next x9)
      | .ret r => some (.done (.ret r))
  else
    some (.done (.brk ()))
noncomputable def m_assessorref26_Clauses (p0 : (List (List Int))) (p1 : (List (List Int))) : Option Bool :=
  if (!decide ((p0.length : Int) = (p1.length : Int))) = true then
    some false
  else
    (loopM (fun s => m_assessorref26_Clauses_lp1 p0 p1 s) 0 : Option (Out Unit Bool)).bind fun b1 =>
    match b1 with
    | .brk b1s =>
      some true
    | .ret r => some r
noncomputable def m_assessorref26_Same (p0 : Formula) (p1 : Formula) : Option Bool :=
  ((if (decide (p0.vars = p1.vars)) = true then
    (m_assessorref26_Clauses p0.clauses p1.clauses).bind fun x1 =>
    some x1
  else
    some false) : Option Bool).bind fun m1 =>
  some m1
end Go.Proofs.YtelioaepnpnojaaGreatDoor
