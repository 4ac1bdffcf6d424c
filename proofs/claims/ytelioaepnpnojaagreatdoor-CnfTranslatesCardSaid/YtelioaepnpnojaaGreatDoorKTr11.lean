/- strings.Builder in this release: copyCheck ends in a refusal in the place of a panic's text, so the shelf's walks of it do not lie; walked here. -/
import Derived.Test.YtelioaepnpnojaaGreatDoorKTr4
import Derived.Test.YtelioaepnpnojaaGreatDoorKTr3
import Derived.Test.YtelioaepnpnojaaGreatDoorKTr5
import Derived.Shelf.Strings.BuilderF
import Derived.Shelf.Strconv.AtoiAll
import Derived.Lib.SplitLaws
import Derived.Test.YtelioaepnpnojaaGreatDoorKTr6
import Derived.Test.YtelioaepnpnojaaGreatDoorKTr7
set_option linter.unusedVariables false
set_option linter.unusedSimpArgs false
namespace Go.Proofs.YtelioaepnpnojaaGreatDoor
open Go.RowKit Go.Sort
set_option maxHeartbeats 1000000 in
set_option maxRecDepth 100000 in
theorem check_used (b : Nat) (w : World) (h0 : w.cell? ⟨b, 0, none⟩ = some (.pointer (some ⟨b, 0, none⟩))) :
    Calls Tryz.prog 87 #[.pointer (some ⟨b, 0, none⟩)] w fun e w' => e = .returned (.tuple #[]) ∧ w' = w := by
  obtain ⟨j, hj, _⟩ := Option.map_eq_some_iff.1 Tryz.Builder_Extra_169.sizeBuilder
  go_enter Tryz.func87, Tryz.ntmps87
  go_wp2
  rw [Lib.run_neq_ptr_same w _ Tryz.underlying89 hj]
  go_wp2
  go_end0
  exact ⟨rfl, rfl⟩
set_option maxHeartbeats 1000000 in
set_option maxRecDepth 100000 in
theorem check_fresh (b : Nat) (w : World) (h0 : w.cell? ⟨b, 0, none⟩ = some (.pointer none)) (hsh : w.shape? b = some (92, 2)) (hfz : w.frozen? ⟨b, 0, none⟩ = false) :
    Calls Tryz.prog 87 #[.pointer (some ⟨b, 0, none⟩)] w fun e w' => e = .returned (.tuple #[]) ∧ w' = w.setCell ⟨b, 0, none⟩ (.pointer (some ⟨b, 0, none⟩)) := by
  obtain ⟨j, hj, hjs⟩ := Option.map_eq_some_iff.1 Tryz.Builder_Extra_169.sizeBuilder
  go_enter Tryz.func87, Tryz.ntmps87
  go_wp2
  rw [Lib.run_to_unsafe w ⟨b, 0, none⟩ Tryz.underlying89 Tryz.underlying134 hj (by rw [hjs]; decide) hsh (Nat.zero_lt_succ 1)]
  simp only [Result.andThen]
  rw [Oper.upon_value]
  go_wp2
  rw [run_callFunc_extern Tryz.func109 (by kernel_rfl) (by kernel_rfl) (by kernel_rfl) (e := Extern.AbiNoEscape.same) (by kernel_rfl)]
  rw [Lib.run_noEscape]
  simp only [Result.andThen]
  rw [Oper.upon_value]
  go_wp2
  rw [Lib.run_from_unsafe w ⟨b, 0, none⟩ Tryz.underlying134 Tryz.underlying89 hj hsh Tryz.Builder_Extra_169.liesBuilder]
  simp only [Result.andThen]
  rw [Oper.upon_value]
  go_wp2
  go_end0
  exact ⟨rfl, rfl⟩
def Buf (h : PH) (v : Value) (l : List UInt8) : Prop :=
  (v = .slice none 0 0 ∧ l = []) ∨ ∃ g cap cur, v = .slice (some ⟨g, 0, none⟩) l.length cap ∧ h g = some (.cells cur 5 (0, 0)) ∧ l.length ≤ cap ∧ cap ≤ maxLen ∧ cur.size = cap ∧ cur.toList.take l.length = Lib.byteCells l
def BldA (b : Nat) (l : List UInt8) : Atom := fun k => ∃ p v, (p = .pointer none ∨ p = .pointer (some ⟨b, 0, none⟩)) ∧ k b = some (.cells #[p, v] 92 (0, 0)) ∧ Buf k v l
theorem bld_new (b : Nat) : ∀ k, Pt b (.cells #[.pointer none, .slice none 0 0] 92 (0, 0)) k → BldA b [] k := by
  rintro k rfl
  exact ⟨_, _, Or.inl rfl, by simp [PH.one], Or.inl ⟨rfl, rfl⟩⟩
theorem Buf.mono {h h' : PH} {v : Value} {l : List UInt8} (hb : Buf h v l) (hl : ∀ g o, v.ownBlock = some g → h g = some o → h' g = some o) : Buf h' v l := by
  rcases hb with ⟨rfl, rfl⟩ | ⟨g, cap, cur, rfl, h1, h2⟩
  · exact Or.inl ⟨rfl, rfl⟩
  · exact Or.inr ⟨g, cap, cur, rfl, hl g _ rfl h1, h2⟩
theorem Buf.in_ {h : PH} {v : Value} {l : List UInt8} (hb : Buf h v l) {g : Nat} (hg : v.ownBlock = some g) : ∃ cur, h g = some (.cells cur 5 (0, 0)) := by
  rcases hb with ⟨rfl, rfl⟩ | ⟨g', cap, cur, rfl, h1, _⟩
  · simp [Value.ownBlock] at hg
  · simp only [Value.ownBlock, Option.some.injEq] at hg; subst hg; exact ⟨cur, h1⟩
theorem Buf.owns {w : World} {v : Value} {l : List UInt8} (hb : Buf (hp w) v l) : w.ownsRow 0 5 1 v l.length (Lib.byteCells l) := by
  refine ⟨by rw [Lib.byteCells_length, Nat.mul_one], ?_⟩
  rcases hb with ⟨rfl, rfl⟩ | ⟨g, cap, cur, rfl, h1, h2, h3, h4, h5⟩
  · exact Or.inl ⟨rfl, rfl⟩
  · exact Or.inr ⟨g, cap, cur, rfl, Nat.zero_le _, h1, h2, h3, by omega, by rw [Nat.mul_one]; exact h5⟩
theorem buf_of {w : World} {v : Value} {l : List UInt8} {B : Nat} (h : w.ownsRow B 5 1 v l.length (Lib.byteCells l)) : Buf (hp w) v l := by
  rcases h.2 with ⟨rfl, h0⟩ | ⟨g, cap, cur, rfl, _, h1, h2, h3, h4, h5⟩
  · exact Or.inl ⟨rfl, List.eq_nil_of_length_eq_zero h0⟩
  · exact Or.inr ⟨g, cap, cur, rfl, h1, h2, h3, by omega, by rw [Nat.mul_one] at h5; exact h5⟩
theorem buf_app {w : World} {v : Value} {l : List UInt8} (hb : Buf (hp w) v l) (s : ByteArray) (hlen : l.length + s.size ≤ 140737488355328) (ty : TypeId) :
    ∃ v' w', (Builtin.append_ #[90, 9] ty #[v, .string s]).run Tryz.prog w = .ok v' w' ∧ Buf (hp w') v' (l ++ s.data.toList) ∧ w.grownBy w' v.ownBlock ∧ (∀ g, v'.ownBlock = some g → v.ownBlock = some g ∨ w.heap.size ≤ g) := by
  obtain ⟨i, hi, hz0, hz1, hz2⟩ := info_parts Tryz.Builder_Extra_169.infoByte
  have hm : l.length + s.size ≤ maxLen := by unfold maxLen; omega
  obtain ⟨v', w', hr, ho, hg, _⟩ := Lib.run_append_own_string (P := Tryz.prog) w 0 90 9 ty 5 i Tryz.underlying90 Tryz.underlying9 hi hz0 hz1 hz2 v _ _ hb.owns s hm hlen (Nat.zero_le _)
  have e1 : Lib.byteCells (l ++ s.data.toList) = Lib.byteCells l ++ Lib.strCells s := by unfold Lib.byteCells Lib.strCells; rw [List.map_append]
  have e2 : (l ++ s.data.toList).length = l.length + s.size := by rw [List.length_append]; rfl
  refine ⟨v', w', hr, buf_of (by rw [e1, e2]; exact ho), hg, fun g hgo => ?_⟩
  rcases hb with ⟨rfl, rfl⟩ | ⟨g0, cap, cur, rfl, h1, h2, h3, h4, h5⟩
  · right
    obtain ⟨v2, w2, hr2, ho2, _⟩ := Lib.run_append_own_string (P := Tryz.prog) w w.heap.size 90 9 ty 5 i Tryz.underlying90 Tryz.underlying9 hi hz0 hz1 hz2 (.slice none 0 0) 0 [] (World.ownsRow_nil w _ 5 1) s (by simpa using hm) (by simpa using hlen) (Nat.le_refl _)
    rw [hr] at hr2
    simp only [Result.ok.injEq] at hr2
    obtain ⟨rfl, rfl⟩ := hr2
    rcases ho2.2 with ⟨rfl, _⟩ | ⟨g', _, _, rfl, hb', _⟩
    · simp [Value.ownBlock] at hgo
    · simp only [Value.ownBlock, Option.some.injEq] at hgo; subst hgo; exact hb'
  · by_cases hroom : l.length + s.size ≤ cap
    · have hr2 := Lib.run_append_room_string (P := Tryz.prog) w 90 9 ty 5 i Tryz.underlying90 Tryz.underlying9 hi hz1 g0 l.length cap cur h1 s hroom (by omega)
      rw [hr] at hr2
      simp only [Result.ok.injEq] at hr2
      obtain ⟨rfl, rfl⟩ := hr2
      left; exact hgo
    · have hown := Buf.owns (w := w) (v := .slice (some ⟨g0, 0, none⟩) l.length cap) (l := l) (Or.inr ⟨g0, cap, cur, rfl, h1, h2, h3, h4, h5⟩)
      have hr2 := Lib.run_append_grow_string (P := Tryz.prog) w 90 9 ty 5 i (.int .u8 0) Tryz.underlying90 Tryz.underlying9 hi hz0 ⟨g0, 0, none⟩ l.length cap (Lib.byteCells l) (by rw [hz1, Lib.byteCells_length, Nat.mul_one]) (hown.cells (g := g0) rfl) s (by omega) (by omega) (by rw [hz2]; exact growslice_fits (by omega) (by omega))
      rw [hr] at hr2
      simp only [Result.ok.injEq] at hr2
      obtain ⟨rfl, rfl⟩ := hr2
      right
      simp only [Value.ownBlock, Option.some.injEq] at hgo
      omega
theorem wpList_app_str {ops : Array Oper} {rest : List Oper} {o : Oper} {a : Act} {w : World} {Q : Exit → Act → World → Prop} (hgd : o.guard = none) (sl x : Operand)
    (ho : o.op = .call { callee := .builtin .append, args := #[sl, x], argTypes := #[90, 9] }) {v : Value} {s : ByteArray} (hs : a.eval sl = v) (hx : a.eval x = .string s) {v' : Value} {w' : World}
    (hr : (Builtin.append_ #[90, 9] o.type #[v, .string s]).run Tryz.prog w = .ok v' w') (h : wpList Tryz.prog ops Q rest (a.put o.dst v') w') : wpList Tryz.prog ops Q (o :: rest) a w := by
  refine wpList_plain hgd fun K hK => ?_
  unfold Oper.wp execOp
  simp only [ho, resolve, invoke, builtin, Sem.run_bind, Sem.run_pure, Result.andThen_ok, List.map_toArray, List.map_cons, List.map_nil, hs, hx, hr]
  exact hK _ _ h
theorem check_any (b : Nat) (p v : Value) (w : World) (hp0 : p = .pointer none ∨ p = .pointer (some ⟨b, 0, none⟩)) (h : w.heap[b]? = some (.cells #[p, v] 92 (0, 0))) :
    Calls Tryz.prog 87 #[.pointer (some ⟨b, 0, none⟩)] w fun e w' => e = .returned (.tuple #[]) ∧ w'.heap[b]? = some (.cells #[.pointer (some ⟨b, 0, none⟩), v] 92 (0, 0)) ∧ w'.os = w.os ∧ w'.tape = w.tape ∧ w'.output = w.output ∧ w'.heap.size = w.heap.size ∧ ∀ k, k ≠ b → w'.heap[k]? = w.heap[k]? := by
  rcases hp0 with rfl | rfl
  · refine (check_fresh b w (by simp [World.cell?, h]) (by simp [World.shape?, h]) (by simp [World.frozen?, h])).mono ?_
    rintro e w' ⟨rfl, rfl⟩
    exact ⟨rfl, by simp [World.setCell, Array.getElem?_modify, h], rfl, rfl, rfl, by simp [World.setCell], fun k hk => Below.heap_setCell _ _ _ _ (fun e => hk (by simp [e]))⟩
  · refine (check_used b w (by simp [World.cell?, h])).mono ?_
    rintro e w' ⟨rfl, rfl⟩
    exact ⟨rfl, h, rfl, rfl, rfl, rfl, fun _ _ => rfl⟩
def m_wstr (l : List UInt8) (s : ByteArray) : Option (List UInt8) := if l.length + s.size ≤ 140737488355328 then some (l ++ s.data.toList) else none
def m_bstr (l : List UInt8) : Option ByteArray := if l ≠ [] then some ⟨l.toArray⟩ else none
section
variable {Z : World} {ρ : PH} {L : List Atom} {w : World}
set_option maxHeartbeats 2000000 in
set_option maxRecDepth 100000 in
theorem c_wstr (b : Nat) (l : List UInt8) (s : ByteArray) (hp0 : Hp Z ρ (BldA b l :: L) w) (r : List UInt8) (hm : m_wstr l s = some r) :
    Calls Tryz.prog 66 #[.pointer (some ⟨b, 0, none⟩), .string s] w (Ret fun v w' => v = .tuple #[.int .i64 s.size, .nilIface] ∧ Hp Z ρ (BldA b r :: L) w') := by
  unfold m_wstr at hm
  split at hm
  case isFalse => cases hm
  rename_i hlen
  simp only [Option.some.injEq] at hm
  subst hm
  obtain ⟨k0, ⟨p, v, hpp, hk0, hbuf⟩, d0, hl0⟩ := hp0.lend
  have hle0 : k0.le (hp w) := (PH.le_un_r d0).tr hl0.le
  have hbw : w.heap[b]? = some (.cells #[p, v] 92 (0, 0)) := hle0 _ _ hk0
  have hne : v.ownBlock ≠ some b := fun e => by
    obtain ⟨cur, hc⟩ := hbuf.in_ e
    rw [hk0] at hc
    simp at hc
  have hbufw : Buf (hp w) v l := hbuf.mono fun g o _ h => hle0 _ _ h
  have e240 : ∀ args w, (callFunc 87 args).run Tryz.prog w = .ok (.enter 87 args) w := enters Tryz.func87 (by kernel_rfl) rfl
  go_enter Tryz.func66, Tryz.ntmps66
  go_wp2_with (go_at_fn 87; refine (check_any b p v _ hpp hbw).mono ?_)
  rintro e w1 ⟨rfl, hb1, ho1, ht1, hu1, hs1, hf1⟩
  have hbuf1 : Buf (hp w1) v l := hbufw.mono fun g o hg h => by
    have : g ≠ b := fun e => hne (by rw [hg, e])
    exact (hf1 g this).trans h
  have c0 : w1.cell? ⟨b, 0, none⟩ = some (.pointer (some ⟨b, 0, none⟩)) := by rw [Lib.cell_of_heap hb1]; rfl
  have c1 : w1.cell? ⟨b, 1, none⟩ = some v := by rw [Lib.cell_of_heap hb1]; rfl
  obtain ⟨v', w2, hrun, hbuf2, hg2, hnew⟩ := buf_app hbuf1 s hlen 90
  have hlt : b < w1.heap.size := (Array.getElem?_eq_some_iff.1 hb1).1
  have hb2 : w2.heap[b]? = some (.cells #[.pointer (some ⟨b, 0, none⟩), v] 92 (0, 0)) := by
    rw [hg2.block b hlt (fun e => hne e.symm)]
    exact hb1
  have d0' : w2.cell? ⟨b, 0, none⟩ = some (.pointer (some ⟨b, 0, none⟩)) := by rw [Lib.cell_of_heap hb2]; rfl
  have d1' : w2.cell? ⟨b, 1, none⟩ = some v := by rw [Lib.cell_of_heap hb2]; rfl
  have f1 : w2.frozen? ⟨b, 1, none⟩ = false := Lib.frozen_of_heap hb2 1
  obtain ⟨ao, n', cap, rfl⟩ : ∃ ao n' cap, v' = .slice ao n' cap := by
    rcases hbuf2 with ⟨hv, _⟩ | ⟨g, cap, cur, hv, _⟩
    · exact ⟨_, _, _, hv⟩
    · exact ⟨_, _, _, hv⟩
  go_wp2_with (at_builtin; refine wpList_app_str rfl _ _ rfl rfl rfl hrun ?_)
  go_wp2
  go_ret2
  refine ⟨_, rfl, rfl, ?_⟩
  have hs2 : w1.heap.size ≤ w2.heap.size := hg2.size
  have hoth : ∀ x, x ≠ b → (w2.setCell ⟨b, 1, none⟩ (.slice ao n' cap)).heap[x]? = w2.heap[x]? := fun x hx => Below.heap_setCell _ _ _ _ (fun e => hx (by simp [e]))
  have hb3 : (w2.setCell ⟨b, 1, none⟩ (.slice ao n' cap)).heap[b]? = some (.cells #[.pointer (some ⟨b, 0, none⟩), .slice ao n' cap] 92 (0, 0)) := by
    simp [World.setCell, Array.getElem?_modify, hb2]
  refine hp0.with_ (w' := w2.setCell ⟨b, 1, none⟩ (.slice ao n' cap)) (hg2.os.trans ho1) (hg2.tape.trans ht1) (hg2.output.trans hu1) (hp0.sep.write fun k hk hkl => ?_)
  obtain ⟨p', v0, _, hkb, hkbuf⟩ := hk
  have hv0 : v0 = v := by
    have h1 := hkl _ _ hkb
    have h2 : hp w b = some (.cells #[p, v] 92 (0, 0)) := hbw
    rw [h2] at h1
    simp at h1
    exact h1.2.symm
  subst hv0
  refine ⟨fun x => if x = b ∨ (Value.slice ao n' cap).ownBlock = some x then hp (w2.setCell ⟨b, 1, none⟩ (.slice ao n' cap)) x else none, ⟨.pointer (some ⟨b, 0, none⟩), .slice ao n' cap, Or.inr rfl, ?_, ?_⟩, ?_, ?_, ?_⟩
  · simp only [true_or, if_true]; exact hb3
  · refine hbuf2.mono fun g o hg h => ?_
    simp only [hg, or_true, if_true]
    have hgb : g ≠ b := fun e => by
      subst e
      obtain ⟨cur, hc⟩ := hbuf2.in_ hg
      have : hp w2 g = some (.cells #[.pointer (some ⟨g, 0, none⟩), v0] 92 (0, 0)) := hb2
      rw [this] at hc
      simp at hc
    exact (hoth g hgb).trans h
  · intro x o e
    dsimp only at e
    split at e
    · exact e
    · cases e
  · intro x o e
    unfold PH.minus at e
    cases hx : k x with
    | some _ => rw [hx] at e; cases e
    | none =>
      rw [hx] at e
      have hxb : x ≠ b := fun e' => by subst e'; rw [hx] at hkb; cases hkb
      have hxg : some x ≠ v0.ownBlock := fun e' => by
        obtain ⟨cur, hc⟩ := hkbuf.in_ e'.symm
        rw [hx] at hc; cases hc
      have hxl : x < w1.heap.size := by rw [hs1]; exact (Array.getElem?_eq_some_iff.1 e).1
      show (w2.setCell ⟨b, 1, none⟩ (.slice ao n' cap)).heap[x]? = some o
      rw [hoth x hxb, hg2.block x hxl hxg, hf1 x hxb]
      exact e
  · intro x hx
    dsimp only at hx
    split at hx
    · rename_i hxx
      rcases hxx with rfl | hxx
      · left; rw [hkb]; simp
      · rcases hnew x hxx with h | h
        · left
          obtain ⟨cur, hc⟩ := hkbuf.in_ h
          rw [hc]; simp
        · right
          show w.heap[x]? = none
          rw [Array.getElem?_eq_none (by omega)]
    · exact absurd rfl hx
set_option maxHeartbeats 2000000 in
set_option maxRecDepth 100000 in
theorem c_bstr (b : Nat) (l : List UInt8) (hp0 : Hp Z ρ (BldA b l :: L) w) (r : ByteArray) (hm : m_bstr l = some r) :
    Calls Tryz.prog 68 #[.pointer (some ⟨b, 0, none⟩)] w (Ret fun v w' => v = .string r ∧ Hp Z ρ L w') := by
  unfold m_bstr at hm
  split at hm
  case isFalse => cases hm
  rename_i h0
  simp only [Option.some.injEq] at hm
  subst hm
  obtain ⟨k0, ⟨p, v, hpp, hk0, hbuf⟩, d0, hl0⟩ := hp0.lend
  have hle0 : k0.le (hp w) := (PH.le_un_r d0).tr hl0.le
  have hbk : w.heap[b]? = some (.cells #[p, v] 92 (0, 0)) := hle0 _ _ hk0
  rcases hbuf with ⟨_, h1⟩ | ⟨g, cap, cur, rfl, hg0, hnc, hcm, hcs, htake⟩
  · exact absurd h1 h0
  have hg : w.heap[g]? = some (.cells cur 5 (0, 0)) := hle0 _ _ hg0
  have hl0' : l.length ≠ 0 := by simpa using h0
  have c1 : w.drew.cell? ⟨b, 1, none⟩ = some (.slice (some ⟨g, 0, none⟩) l.length cap) := by
    have : w.drew.heap[b]? = some (.cells #[p, .slice (some ⟨g, 0, none⟩) l.length cap] 92 (0, 0)) := hbk
    rw [Lib.cell_of_heap this]; rfl
  have hSD : (Builtin.unsafeSliceData_ #[90] 108 #[.slice (some ⟨g, 0, none⟩) l.length cap]).run Tryz.prog w.drew = .ok (.pointer (some ⟨g, 0, none⟩)) w.drew :=
    Lib.run_unsafeSliceData_row _ _ _ _ _ _ (by omega)
  have hUS : (Builtin.unsafeString_ #[108, 3] 9 #[.pointer (some ⟨g, 0, none⟩), .int .i64 l.length]).run Tryz.prog w.drew = .ok (.string ⟨l.toArray⟩) (w.drew.freeze ⟨g, 0, none⟩ l.length) := by
    refine Lib.run_unsafeString_row w.drew 108 3 9 5 Tryz.underlying108 Tryz.Builder_Extra_169.cellsByte g cur.size (by have hg' : w.drew.heap[g]? = some (.cells cur 5 (0, 0)) := hg; simp [World.shape?, hg']) l h0 (by omega) (by unfold maxLen at hcm; omega) ?_
    intro j x hx
    have hj : j < l.length := (List.getElem?_eq_some_iff.1 hx).1
    show w.cell? _ = _
    rw [Addr.add_lit, Nat.zero_add, cell_of_row w g _ cur 5 (0, 0) hg]
    have h2 : (Lib.byteCells l)[j]? = some (.int .u8 x.toNat) := by simp [Lib.byteCells, hx]
    rw [← htake, List.getElem?_take, if_pos hj] at h2
    simpa using h2
  have hend : Hp Z ρ L (w.drew.freeze ⟨g, 0, none⟩ l.length) := by
    have hfr : ∀ x, x ≠ g → (w.drew.freeze ⟨g, 0, none⟩ l.length).heap[x]? = w.heap[x]? := fun x hx => by
      unfold World.freeze
      rw [if_neg hl0']
      simp only [Array.getElem?_modify]
      rw [if_neg (fun e => hx e.symm)]
      rfl
    have ho : (w.drew.freeze ⟨g, 0, none⟩ l.length).os = w.os ∧ (w.drew.freeze ⟨g, 0, none⟩ l.length).tape = w.tape ∧ (w.drew.freeze ⟨g, 0, none⟩ l.length).output = w.output := by
      unfold World.freeze
      rw [if_neg hl0']
      exact ⟨rfl, rfl, rfl⟩
    refine hp0.with_ ho.1 ho.2.1 ho.2.2 ((Sep.lift d0 hl0.sep).mono fun x o e => ?_)
    unfold PH.minus at e
    cases hx : k0 x with
    | some _ => rw [hx] at e; cases e
    | none =>
      rw [hx] at e
      show (w.drew.freeze ⟨g, 0, none⟩ l.length).heap[x]? = some o
      rw [hfr x (fun e' => by subst e'; rw [hx] at hg0; cases hg0)]
      exact e
  have mixed := Tryz.lays169.mixed
  go_enter Tryz.func68, Tryz.ntmps68
  go_wp2
  go_region_o
  all_goals (go_wp2; go_ret; exact ⟨_, rfl, rfl, hend⟩)
end
def BldS (b : Nat) (s : ByteArray) : Atom := BldA b s.data.toList
theorem bldS_new (b : Nat) : ∀ k, Pt b (.cells #[.pointer none, .slice none 0 0] 92 (0, 0)) k → BldS b ByteArray.empty k := bld_new b
section
variable {Z : World} {ρ : PH} {L : List Atom} {w : World}
theorem c_WStr (b : Nat) (l s : ByteArray) (hp0 : Hp Z ρ (BldS b l :: L) w) (r : ByteArray) (hm : m_WStr l s = some r) :
    Calls Tryz.prog 66 #[.pointer (some ⟨b, 0, none⟩), .string s] w (Ret fun v w' => v = .tuple #[.int .i64 s.size, .nilIface] ∧ Hp Z ρ (BldS b r :: L) w') := by
  unfold m_WStr at hm
  split at hm
  · rename_i h
    simp only [Option.some.injEq] at hm
    subst hm
    have e : (l ++ s).data.toList = l.data.toList ++ s.data.toList := by simp
    have := c_wstr (L := L) b l.data.toList s hp0 (l.data.toList ++ s.data.toList) (by unfold m_wstr; rw [if_pos]; exact h)
    unfold BldS
    rw [e]
    exact this
  · cases hm
theorem c_BStr (b : Nat) (l : ByteArray) (hp0 : Hp Z ρ (BldS b l :: L) w) (r : ByteArray) (hm : m_BStr l = some r) :
    Calls Tryz.prog 68 #[.pointer (some ⟨b, 0, none⟩)] w (Ret fun v w' => v = .string r ∧ Hp Z ρ L w') := by
  unfold m_BStr at hm
  split at hm
  · rename_i h
    simp only [Option.some.injEq] at hm
    subst hm
    refine c_bstr (L := L) b l.data.toList hp0 l ?_
    unfold m_bstr
    rw [if_pos]
    intro e
    exact h (by rw [show l.size = l.data.toList.length from rfl, e]; rfl)
  · cases hm
end
end Go.Proofs.YtelioaepnpnojaaGreatDoor

/- The library's contracts over owned parts: Itoa, Atoi, Cut, Split; the builder. -/
set_option linter.unusedVariables false
set_option linter.unusedSimpArgs false
namespace Go.Proofs.YtelioaepnpnojaaGreatDoor
open Go.RowKit Go.Sort Go.Lib
section
variable {Z : World} {ρ : PH} {L : List Atom} {w : World}
theorem Hp.grow (h : Hp Z ρ L w) (os : Array Obj) : Hp Z ρ L (grow w os) := by
  refine h.with_ (w' := Go.Sort.grow w os) rfl rfl rfl (h.sep.mono fun b o e => ?_)
  have hlt : b < w.heap.size := (Array.getElem?_eq_some_iff.1 e).1
  show (Go.Sort.grow w os).heap[b]? = some o
  rw [heap_grow_old _ _ hlt]; exact e
theorem c_itoa (hT : Tabs ρ) (n : Int) (hp : Hp Z ρ L w) (r : ByteArray) (hm : m_itoa n = some r) :
    Calls Tryz.prog 67 #[.int .i64 n] w (Ret fun v w' => v = .string r ∧ Hp Z ρ L w') := by
  unfold m_itoa at hm
  split at hm
  · rename_i h
    simp only [Option.some.injEq] at hm
    subst hm
    refine (Tryz.strconv_Itoa n h.1 h.2 w (hT.pow w hp.le)).mono ?_
    rintro e w' ⟨rfl, k, os, rfl⟩
    exact ⟨_, rfl, rfl, (hp.drewN k).grow os⟩
  · cases hm
theorem c_cut (hT : Tabs ρ) (s sep : ByteArray) (hp : Hp Z ρ L w) (r : ByteArray × ByteArray × Bool) (hm : m_cut s sep = some r) :
    Calls Tryz.prog 83 #[.string s, .string sep] w (Ret fun v w' => v = .tuple #[.string r.1, .string r.2.1, .bool r.2.2] ∧ Hp Z ρ L w') := by
  unfold m_cut at hm
  split at hm
  · rename_i h
    simp only [Option.some.injEq] at hm
    subst hm
    obtain ⟨m, hm⟩ := hT.maxl
    refine (Tryz.strings_Cut s sep m w h (hm w hp.le)).mono ?_
    rintro e w' ⟨rfl, n, rfl⟩
    exact ⟨_, rfl, rfl, hp.drewN n⟩
  · cases hm
theorem c_split (hT : Tabs ρ) (s sep : ByteArray) (hp : Hp Z ρ L w) (r : List ByteArray) (hm : m_split s sep = some r) :
    Calls Tryz.prog 62 #[.string s, .string sep] w (Ret fun v w' => ∃ v1, v = v1 ∧ Hp Z ρ (OwnSl 9 v1 r :: L) w') := by
  unfold m_split at hm
  split at hm
  · rename_i h
    simp only [Option.some.injEq] at hm
    subst hm
    obtain ⟨m, hm⟩ := hT.maxl
    refine (Tryz.strings_Split s sep m w h.1 (hm w hp.le) h.2.1).mono ?_
    rintro e w' ⟨rfl, rfl⟩
    have hl : (splitB sep 0 (countB s sep) s).length = countB s sep + 1 := splitB_all sep h.2.1 0 _ s rfl
    refine ⟨_, rfl, _, rfl, ?_⟩
    refine (hp.alloc _).imp (own_of_pt hl (by unfold maxLen; omega) ?_)
    congr 1
    induction (splitB sep 0 (countB s sep) s) with
    | nil => rfl
    | cons x l ih => rw [flat_cons, List.map_cons, ih]; rfl
  · cases hm
theorem c_atoi (hT : Tabs ρ) (s : ByteArray) (hp : Hp Z ρ L w) (r : Int) (hm : m_atoi s = some r) :
    Calls Tryz.prog 63 #[.string s] w (Ret fun v w' => ∃ ev, v = .tuple #[.int .i64 r, ev] ∧ Hp Z ρ L w') := by
  unfold m_atoi at hm
  split at hm
  · rename_i hs
    simp only [Option.some.injEq] at hm
    subst hm
    cases h : atoiAll s.data.toList with
    | ok v =>
      refine (Any.strconv_Atoi_ok Tryz.laysC172 s (by omega) v h w).mono ?_
      rintro e w' ⟨rfl, h | ⟨t, rfl⟩⟩
      · subst h; exact ⟨_, rfl, _, rfl, hp⟩
      · exact ⟨_, rfl, _, rfl, hp.keep ⟨rfl, rfl, rfl, by rw [bytesWorld_size]; omega, fun k hk => bytesWorld_at_old w _ t k hk⟩⟩
    | range =>
      obtain ⟨ev, hc, he⟩ := hT.rng
      refine (Any.strconv_Atoi_range Tryz.laysC172 s hs h ev w (hc w hp.le) he).mono ?_
      rintro e w' ⟨N, rfl, _, _, hb⟩
      exact ⟨_, rfl, _, rfl, hp.keep hb⟩
    | _ =>
      obtain ⟨ev, hc, he⟩ := hT.syn
      refine (Any.strconv_Atoi_syntax Tryz.laysC172 s hs h ev w (hc w hp.le) he).mono ?_
      rintro e w' ⟨N, rfl, _, _, hb⟩
      exact ⟨_, rfl, _, rfl, hp.keep hb⟩
  · cases hm
end
end Go.Proofs.YtelioaepnpnojaaGreatDoor

/- The code goes as its model: assessor/assessorref26.Decimal, assessor/assessorref26.integer, assessor/assessorref26.Line, assessor/assessorref26.ReadLine, assess -/
set_option linter.unusedVariables false
set_option linter.unusedSimpArgs false
namespace Go.Proofs.YtelioaepnpnojaaGreatDoor
open Go.RowKit
set_option maxRecDepth 100000 in
set_option maxHeartbeats 4000000 in
theorem c_cnf_Format {Z : World} {ρ : PH} {L : List Atom} {w : World} (hT : Tabs ρ) (p0 : Formula) (vp0_clauses : Value) (hp0_clauses : RoSl ρ vp0_clauses p0.clauses) (hp : Hp Z ρ (L) w) (r : ByteArray) (hm : m_cnf_Format p0 = some r) :
    Calls Tryz.prog 28 #[(.agg #[(.int .i64 p0.vars), vp0_clauses])] w (Ret fun v w' => v = (.string r) ∧ Hp Z ρ (L) w') := by
  refine enter (N := 44) Tryz.func28 rfl rfl [(0, (.agg #[(.int .i64 p0.vars), vp0_clauses]))] rfl (argsIn_mem ⟨rfl, trivial⟩) fun a hE => ?_
  unfold m_cnf_Format at hm
  refine k_seq ?_
  refine k_region ?_
  refine s_box (wk0 rfl) rfl rfl hE hp rfl (v := (.agg #[(.int .i64 p0.vars), vp0_clauses])) rfl ?_
  intro a w b1 hE hp
  have hp : Hp Z ρ (Pt b1 (.cells #[(.int .i64 p0.vars), vp0_clauses] 24 (0, 0)) :: L) w := hp
  refine s_val (wk0 rfl) rfl rfl hE hp (v := (.string (ByteArray.mk #[]))) (ex_asn rfl hE rfl) ?_
  intro a hE
  refine s_nil ?_
  refine k_seq ?_
  refine k_seq ?_
  refine k_region ?_
  refine s_val (wk0 rfl) rfl rfl hE hp (v := (.agg #[(.int .i64 p0.vars), vp0_clauses])) (ex_load rfl hE rfl (fun w hw => run_ldN (cs := [(.int .i64 p0.vars), vp0_clauses]) varty24 (Hp.cN 0 rfl 0 _ (sub_all rfl) w hw))) ?_
  intro a hE
  obtain ⟨x1, ex1, hm⟩ := bnd hm
  refine s_call (wk0 rfl) rfl rfl hE rfl [(.agg #[(.int .i64 p0.vars), vp0_clauses])] ⟨rfl, trivial⟩ ent15 (c_cnf_Valid hT p0 vp0_clauses hp0_clauses hp x1 ex1) Ret.ret ?_
  intro v a w hR hE
  obtain ⟨rfl, hp⟩ := Ret.of hR
  have hp : Hp Z ρ (_ :: L) w := hp
  refine s_val (wk0 rfl) rfl rfl hE hp (v := (.bool (!x1))) (ex_not rfl hE rfl) ?_
  intro a hE
  refine s_nil ?_
  refine k_if hE rfl (fun hc1 => ?_) (fun hc1 => ?_)
  · replace hm := (it hc1).symm.trans hm
    refine k_seq ?_
    refine k_region ?_
    refine s_val (wk0 rfl) rfl rfl hE hp (v := (.string (ByteArray.mk #[]))) (ex_asn rfl hE rfl) ?_
    intro a hE
    refine s_nil ?_
    refine k_ret ?_
    obtain rfl := Option.some.inj hm
    exact ret1 hE rfl rfl ⟨_, rfl, rfl, (hp.drop)⟩
  · replace hm := (ie hc1).symm.trans hm
    refine k_skip ?_
    refine k_seq ?_
    refine k_region ?_
    refine s_new (wk0 rfl) rfl rfl hE hp rfl [.pointer none, .slice none 0 0] (fun w => by simp [Instr.alloc, go_sem] <;> rfl) ?_
    intro a w b2 hE hp
    have hp := hp.imp (bldS_new b2)
    have hp : Hp Z ρ (BldS b2 ByteArray.empty :: _ :: L) w := hp
    refine s_nil ?_
    refine k_seq ?_
    obtain ⟨x2, ex2, hm⟩ := bnd hm
    obtain ⟨x3, ex3, hm⟩ := bnd hm
    obtain ⟨x4, ex4, hm⟩ := bnd hm
    obtain ⟨x5, ex5, hm⟩ := bnd hm
    obtain ⟨x6, ex6, hm⟩ := bnd hm
    obtain ⟨x7, ex7, hm⟩ := bnd hm
    obtain ⟨x8, ex8, hm⟩ := bnd hm
    have hp := hp.drew
    refine k_heldV ([([], At0 Z ρ), ([], At1 Z ρ (Pt b1 (.cells #[(.int .i64 p0.vars), vp0_clauses] 24 (0, 0))))] : Facts) (fun a w => Env 44 [(1, (.pointer (some ⟨b1, 0, none⟩))), (3, (.pointer (some ⟨b2, 0, none⟩)))] a ∧ Hp Z ρ (BldS b2 x8 :: Pt b1 (.cells #[(.int .i64 p0.vars), vp0_clauses] 24 (0, 0)) :: L) w) (by kernel_rfl) ⟨fun _ => ⟨_, hp⟩, fun _ => ⟨_, (hp.get 1 rfl)⟩, trivial⟩ (fun hS => ?_) ?_
    ·
      generalize w.drew = w at hS hp ⊢
      refine v_take0 0 (wk0 rfl) rfl rfl rfl hE (by kernel_rfl) (by kernel_rfl) (by kernel_rfl) rfl (by kernel_rfl) hS (v := (.pointer (some ⟨b1, 0, none⟩))) (fun _ => ex_field rfl hE rfl (fldty24_0 _ _)) ?_
      intro a hE hS
      refine v_take1 1 1 (wk0 rfl) rfl rfl rfl hE (by kernel_rfl) (by kernel_rfl) (by kernel_rfl) rfl (by kernel_rfl) hS (v := (.int .i64 p0.vars)) (fun _ => ex_load rfl hE rfl (fun w hw => run_ld1 varty3 (Hp.c 0 rfl 0 rfl w hw))) ?_
      intro a hE hS
      refine v_take0 5 (wk0 rfl) rfl rfl rfl hE (by kernel_rfl) (by kernel_rfl) (by kernel_rfl) rfl (by kernel_rfl) hS (v := (.pointer (some ⟨b1, 1, none⟩))) (fun _ => ex_field rfl hE rfl (fldty24_1 _ _)) ?_
      intro a hE hS
      refine v_take1 6 1 (wk0 rfl) rfl rfl rfl hE (by kernel_rfl) (by kernel_rfl) (by kernel_rfl) rfl (by kernel_rfl) hS (v := vp0_clauses) (fun _ => ex_load rfl hE rfl (fun w hw => run_ld1 varty22 (Hp.c 0 rfl 1 rfl w hw))) ?_
      intro a hE hS
      refine v_take0 7 (wk0 rfl) rfl rfl rfl hE (by kernel_rfl) (by kernel_rfl) (by kernel_rfl) rfl (by kernel_rfl) hS (v := (.int .i64 (p0.clauses.length : Int))) (fun _ => ex_len rfl hE rfl (RoSl.len hp0_clauses slty22)) ?_
      intro a hE hS
      refine v_all [2] (by kernel_rfl) rfl ?_
      refine List.forall_mem_cons.2 ⟨?_, fun _ h => absurd h (by simp)⟩
      ·
        refine h_op rfl ?_
        refine s_call (wk0 rfl) rfl rfl hE rfl [(.int .i64 p0.vars)] ⟨rfl, trivial⟩ ent67 (c_itoa hT p0.vars hp x2 ex2) Ret.ret ?_
        intro v a w hR hE
        obtain ⟨rfl, hp⟩ := Ret.of hR
        have hp : Hp Z ρ (_ :: _ :: L) w := hp
        refine s_nil (and_with ⟨fun _ => ⟨_, hp⟩, fun _ => ⟨_, (hp.get 1 rfl)⟩, trivial⟩ fun hS => ?_)
        refine v_take0 3 (wk0 rfl) rfl rfl rfl hE (by kernel_rfl) (by kernel_rfl) (by kernel_rfl) rfl (by kernel_rfl) hS (v := (.string x3)) (fun _ => ex_cat rfl hE rfl rfl ex3) ?_
        intro a hE hS
        refine v_take0 4 (wk0 rfl) rfl rfl rfl hE (by kernel_rfl) (by kernel_rfl) (by kernel_rfl) rfl (by kernel_rfl) hS (v := (.string x4)) (fun _ => ex_cat rfl hE rfl rfl ex4) ?_
        intro a hE hS
        refine v_all [8] (by kernel_rfl) rfl ?_
        refine List.forall_mem_cons.2 ⟨?_, fun _ h => absurd h (by simp)⟩
        ·
          refine h_op rfl ?_
          refine s_call (wk0 rfl) rfl rfl hE rfl [(.int .i64 (p0.clauses.length : Int))] ⟨rfl, trivial⟩ ent67 (c_itoa hT (p0.clauses.length : Int) hp x5 ex5) Ret.ret ?_
          intro v a w hR hE
          obtain ⟨rfl, hp⟩ := Ret.of hR
          have hp : Hp Z ρ (_ :: _ :: L) w := hp
          refine s_nil (and_with ⟨fun _ => ⟨_, hp⟩, fun _ => ⟨_, (hp.get 1 rfl)⟩, trivial⟩ fun hS => ?_)
          refine v_take0 9 (wk0 rfl) rfl rfl rfl hE (by kernel_rfl) (by kernel_rfl) (by kernel_rfl) rfl (by kernel_rfl) hS (v := (.string x6)) (fun _ => ex_cat rfl hE rfl rfl ex6) ?_
          intro a hE hS
          refine v_take0 10 (wk0 rfl) rfl rfl rfl hE (by kernel_rfl) (by kernel_rfl) (by kernel_rfl) rfl (by kernel_rfl) hS (v := (.string x7)) (fun _ => ex_cat rfl hE rfl rfl ex7) ?_
          intro a hE hS
          refine v_all [11] (by kernel_rfl) rfl ?_
          refine List.forall_mem_cons.2 ⟨?_, fun _ h => absurd h (by simp)⟩
          ·
            refine h_op rfl ?_
            refine s_call (wk0 rfl) rfl rfl hE rfl [(.pointer (some ⟨b2, 0, none⟩)), (.string x7)] ⟨rfl, rfl, trivial⟩ ent66 (c_WStr b2 ByteArray.empty x7 hp x8 ex8) Ret.ret ?_
            intro v a w hR hE
            obtain ⟨rfl, hp⟩ := Ret.of hR
            have hp : Hp Z ρ (BldS b2 x8 :: _ :: L) w := hp
            refine s_nil (and_with ⟨fun _ => ⟨_, hp⟩, fun _ => ⟨_, (hp.get 1 rfl)⟩, trivial⟩ fun hS => ?_)
            exact v_done (by kernel_rfl) ⟨hE.cut ⟨rfl, rfl, trivial⟩, hp⟩
    · rintro a w ⟨hE, hp⟩
      refine k_seq ?_
      refine k_seq ?_
      refine k_region ?_
      refine s_val (wk0 rfl) rfl rfl hE hp (v := (.pointer (some ⟨b1, 1, none⟩))) (ex_field rfl hE rfl (fldty24_1 _ _)) ?_
      intro a hE
      refine s_val (wk0 rfl) rfl rfl hE hp (v := vp0_clauses) (ex_load rfl hE rfl (fun w hw => run_ld1 varty22 (Hp.c 1 rfl 1 rfl w hw))) ?_
      intro a hE
      refine s_val (wk0 rfl) rfl rfl hE hp (v := (.int .i64 (p0.clauses.length : Int))) (ex_len rfl hE rfl (RoSl.len hp0_clauses slty22)) ?_
      intro a hE
      refine s_val (wk0 rfl) rfl rfl hE hp (v := (.int .i64 0)) (ex_move rfl hE rfl) ?_
      intro a hE
      refine s_nil ?_
      obtain ⟨b3, hc2, hm⟩ := bnd hm
      refine k_block (fun a w => Env 44 [(3, (.pointer (some ⟨b2, 0, none⟩)))] a ∧ Hp Z ρ (BldS b2 b3 :: Pt b1 (.cells #[(.int .i64 p0.vars), vp0_clauses] 24 (0, 0)) :: L) w) ?_ ?_
      · refine k_loop hc2 (fun s a w => Env 44 [(3, (.pointer (some ⟨b2, 0, none⟩))), (24, vp0_clauses), (25, (.int .i64 (p0.clauses.length : Int))), (26, (.int .i64 s.1))] a ∧ Hp Z ρ (BldS b2 s.2 :: Pt b1 (.cells #[(.int .i64 p0.vars), vp0_clauses] 24 (0, 0)) :: L) w) ?_ ?_
        · exact ⟨hE.cut ⟨rfl, rfl, rfl, rfl, trivial⟩, hp⟩
        · rintro ⟨lp1_0, lp1_1⟩ st a w ⟨hE, hp⟩ hl1
          have hE : Env 44 [(3, (.pointer (some ⟨b2, 0, none⟩))), (24, vp0_clauses), (25, (.int .i64 (p0.clauses.length : Int))), (26, (.int .i64 lp1_0))] a := hE
          have hp : Hp Z ρ (BldS b2 lp1_1 :: _ :: L) w := hp
          replace hl1 : m_cnf_Format_lp1 p0 lp1_0 lp1_1 = some st := hl1
          unfold m_cnf_Format_lp1 at hl1
          refine k_seq ?_
          refine k_region ?_
          refine s_val (wk0 rfl) rfl rfl hE hp (v := (.bool (decide (lp1_0 < (p0.clauses.length : Int))))) (ex_lss rfl hE rfl rfl) ?_
          intro a hE
          refine s_nil ?_
          refine k_seq ?_
          refine k_if hE rfl (fun hc3 => ?_) (fun hc3 => ?_)
          · replace hl1 := (it hc3).symm.trans hl1
            refine k_skip ?_
            refine k_seq ?_
            refine k_plain ?_
            refine k_seq ?_
            refine k_region ?_
            obtain ⟨x9, ex9, hl1⟩ := bnd hl1
            obtain ⟨b4, b4o, b4c, b4r, b4k, b4f⟩ := RoSl.at hp0_clauses slty22 ex9
            obtain ⟨vb4, rfl, hb4⟩ := b4k
            have b4f : AtP ρ b4 b4o [vb4] := b4f
            refine s_val (wk0 rfl) rfl rfl hE hp (v := (.pointer (some ⟨b4, b4o, none⟩))) (ex_index rfl hE rfl rfl b4r) ?_
            intro a hE
            refine s_val (wk0 rfl) rfl rfl hE hp (v := vb4) (ex_load rfl hE rfl (fun w hw => run_ld1 varty25 (b4f.c 0 rfl w hw))) ?_
            intro a hE
            refine s_val (wk0 rfl) rfl rfl hE hp (v := vb4) (ex_asn rfl hE rfl) ?_
            intro a hE
            refine s_nil ?_
            refine k_seq ?_
            refine k_seq ?_
            refine k_region ?_
            refine s_val (wk0 rfl) rfl rfl hE hp (v := vb4) (ex_move rfl hE rfl) ?_
            intro a hE
            refine s_val (wk0 rfl) rfl rfl hE hp (v := (.int .i64 (x9.length : Int))) (ex_len rfl hE rfl (RoSl.len hb4 slty25)) ?_
            intro a hE
            refine s_val (wk0 rfl) rfl rfl hE hp (v := (.int .i64 0)) (ex_move rfl hE rfl) ?_
            intro a hE
            refine s_nil ?_
            obtain ⟨b5, hc4, hl1⟩ := bnd hl1
            refine k_block (fun a w => Env 44 [(3, (.pointer (some ⟨b2, 0, none⟩))), (24, vp0_clauses), (25, (.int .i64 (p0.clauses.length : Int))), (26, (.int .i64 lp1_0))] a ∧ Hp Z ρ (BldS b2 b5 :: Pt b1 (.cells #[(.int .i64 p0.vars), vp0_clauses] 24 (0, 0)) :: L) w) ?_ ?_
            · refine k_loop hc4 (fun s a w => Env 44 [(3, (.pointer (some ⟨b2, 0, none⟩))), (24, vp0_clauses), (25, (.int .i64 (p0.clauses.length : Int))), (26, (.int .i64 lp1_0)), (30, vb4), (31, (.int .i64 (x9.length : Int))), (32, (.int .i64 s.1))] a ∧ Hp Z ρ (BldS b2 s.2 :: Pt b1 (.cells #[(.int .i64 p0.vars), vp0_clauses] 24 (0, 0)) :: L) w) ?_ ?_
              · exact ⟨hE.cut ⟨rfl, rfl, rfl, rfl, rfl, rfl, rfl, trivial⟩, hp⟩
              · rintro ⟨lp2_0, lp2_1⟩ st a w ⟨hE, hp⟩ hl2
                have hE : Env 44 [(3, (.pointer (some ⟨b2, 0, none⟩))), (24, vp0_clauses), (25, (.int .i64 (p0.clauses.length : Int))), (26, (.int .i64 lp1_0)), (30, vb4), (31, (.int .i64 (x9.length : Int))), (32, (.int .i64 lp2_0))] a := hE
                have hp : Hp Z ρ (BldS b2 lp2_1 :: _ :: L) w := hp
                replace hl2 : m_cnf_Format_lp2 x9 lp2_0 lp2_1 = some st := hl2
                unfold m_cnf_Format_lp2 at hl2
                refine k_seq ?_
                refine k_region ?_
                refine s_val (wk0 rfl) rfl rfl hE hp (v := (.bool (decide (lp2_0 < (x9.length : Int))))) (ex_lss rfl hE rfl rfl) ?_
                intro a hE
                refine s_nil ?_
                refine k_seq ?_
                refine k_if hE rfl (fun hc5 => ?_) (fun hc5 => ?_)
                · replace hl2 := (it hc5).symm.trans hl2
                  refine k_skip ?_
                  refine k_seq ?_
                  refine k_plain ?_
                  refine k_seq ?_
                  refine k_region ?_
                  obtain ⟨x10, ex10, hl2⟩ := bnd hl2
                  obtain ⟨b6, b6o, b6c, b6r, b6k, b6f⟩ := RoSl.at hb4 slty25 ex10
                  obtain rfl : b6c = Enc.enc x10 := b6k
                  have b6f : AtP ρ b6 b6o [(.int .i64 x10)] := b6f
                  refine s_val (wk0 rfl) rfl rfl hE hp (v := (.pointer (some ⟨b6, b6o, none⟩))) (ex_index rfl hE rfl rfl b6r) ?_
                  intro a hE
                  refine s_val (wk0 rfl) rfl rfl hE hp (v := (.int .i64 x10)) (ex_load rfl hE rfl (fun w hw => run_ld1 varty3 (b6f.c 0 rfl w hw))) ?_
                  intro a hE
                  refine s_val (wk0 rfl) rfl rfl hE hp (v := (.int .i64 x10)) (ex_asn rfl hE rfl) ?_
                  intro a hE
                  refine s_nil ?_
                  refine k_region ?_
                  refine s_val (wk0 rfl) rfl rfl hE hp (v := (.int .i64 x10)) (ex_move rfl hE rfl) ?_
                  intro a hE
                  obtain ⟨x11, ex11, hl2⟩ := bnd hl2
                  refine s_call (wk0 rfl) rfl rfl hE rfl [(.int .i64 x10)] ⟨rfl, trivial⟩ ent67 (c_itoa hT x10 hp x11 ex11) Ret.ret ?_
                  intro v a w hR hE
                  obtain ⟨rfl, hp⟩ := Ret.of hR
                  have hp : Hp Z ρ (_ :: _ :: L) w := hp
                  obtain ⟨x12, ex12, hl2⟩ := bnd hl2
                  refine s_val (wk0 rfl) rfl rfl hE hp (v := (.string x12)) (ex_cat rfl hE rfl rfl ex12) ?_
                  intro a hE
                  obtain ⟨x13, ex13, hl2⟩ := bnd hl2
                  refine s_call (wk0 rfl) rfl rfl hE rfl [(.pointer (some ⟨b2, 0, none⟩)), (.string x12)] ⟨rfl, rfl, trivial⟩ ent66 (c_WStr b2 lp2_1 x12 hp x13 ex13) Ret.ret ?_
                  intro v a w hR hE
                  obtain ⟨rfl, hp⟩ := Ret.of hR
                  have hp : Hp Z ρ (BldS b2 x13 :: _ :: L) w := hp
                  refine s_nil ?_
                  have hE := hE.cut (E' := [(3, (.pointer (some ⟨b2, 0, none⟩))), (24, vp0_clauses), (25, (.int .i64 (p0.clauses.length : Int))), (26, (.int .i64 lp1_0)), (30, vb4), (31, (.int .i64 (x9.length : Int))), (32, (.int .i64 lp2_0))]) ⟨rfl, rfl, rfl, rfl, rfl, rfl, rfl, trivial⟩
                  refine k_region ?_
                  obtain ⟨x14, ex14, hl2⟩ := bnd hl2
                  refine s_val (wk0 rfl) rfl rfl hE hp (v := (.int .i64 x14)) (ex_add rfl hE rfl rfl (inK_some ex14)) ?_
                  intro a hE
                  refine s_val (wk0 rfl) rfl rfl hE hp (v := (.int .i64 x14)) (ex_move rfl hE rfl) ?_
                  intro a hE
                  refine s_nil ?_
                  exact ⟨_, (Option.some.inj hl2).symm, hE.cut ⟨rfl, rfl, rfl, rfl, rfl, rfl, rfl, trivial⟩, hp⟩
                · replace hl2 := (ie hc5).symm.trans hl2
                  refine k_exit ?_
                  refine ⟨_, (Option.some.inj hl2).symm, fun hbb => ?_⟩
                  subst hbb
                  exact ⟨hE.cut ⟨rfl, rfl, rfl, rfl, trivial⟩, hp⟩
            · rintro a w ⟨hE, hp⟩
              refine k_region ?_
              obtain ⟨x15, ex15, hl1⟩ := bnd hl1
              refine s_call (wk0 rfl) rfl rfl hE rfl [(.pointer (some ⟨b2, 0, none⟩)), (.string (ByteArray.mk #[48, 10]))] ⟨rfl, rfl, trivial⟩ ent66 (c_WStr b2 b5 (ByteArray.mk #[48, 10]) hp x15 ex15) Ret.ret ?_
              intro v a w hR hE
              obtain ⟨rfl, hp⟩ := Ret.of hR
              have hp : Hp Z ρ (BldS b2 x15 :: _ :: L) w := hp
              refine s_nil ?_
              refine k_region ?_
              obtain ⟨x16, ex16, hl1⟩ := bnd hl1
              refine s_val (wk0 rfl) rfl rfl hE hp (v := (.int .i64 x16)) (ex_add rfl hE rfl rfl (inK_some ex16)) ?_
              intro a hE
              refine s_val (wk0 rfl) rfl rfl hE hp (v := (.int .i64 x16)) (ex_move rfl hE rfl) ?_
              intro a hE
              refine s_nil ?_
              exact ⟨_, (Option.some.inj hl1).symm, hE.cut ⟨rfl, rfl, rfl, rfl, trivial⟩, hp⟩
          · replace hl1 := (ie hc3).symm.trans hl1
            refine k_exit ?_
            refine ⟨_, (Option.some.inj hl1).symm, fun hbb => ?_⟩
            subst hbb
            exact ⟨hE.cut ⟨rfl, trivial⟩, hp⟩
      · rintro a w ⟨hE, hp⟩
        refine k_seq ?_
        refine k_region ?_
        obtain ⟨x17, ex17, hm⟩ := bnd hm
        refine s_call (wk0 rfl) rfl rfl hE rfl [(.pointer (some ⟨b2, 0, none⟩))] ⟨rfl, trivial⟩ ent68 (c_BStr b2 b3 hp x17 ex17) Ret.ret ?_
        intro v a w hR hE
        obtain ⟨rfl, hp⟩ := Ret.of hR
        have hp : Hp Z ρ (_ :: L) w := hp
        refine s_val (wk0 rfl) rfl rfl hE hp (v := (.string x17)) (ex_asn rfl hE rfl) ?_
        intro a hE
        refine s_nil ?_
        refine k_ret ?_
        obtain rfl := Option.some.inj hm
        exact ret1 hE rfl rfl ⟨_, rfl, rfl, (hp.drop)⟩
set_option maxRecDepth 100000 in
set_option maxHeartbeats 4000000 in
theorem c_cnf_lines_1_yield {Z : World} {ρ : PH} {L : List Atom} {w : World} (hT : Tabs ρ) {σ ε : Type} (yf : ByteArray → σ → Option (Step σ ε)) (yl : Nat) (Y : Step σ ε → Atom) (hY : YieldOk Tryz.prog Z ρ yl (fun x : ByteArray => [(.string x)]) yf Y) (ys : Step σ ε) (bc0 : Nat) (c0 : ByteArray) (hp : Hp Z ρ (Pt bc0 (.cells #[(.string c0)] 9 (0, 0)) :: Y ys :: L) w) (r : (ByteArray × (Step σ ε))) (hm : m_cnf_lines_1_yield yf ys c0 = some r) :
    Calls Tryz.prog 82 #[(.func (.yield yl) #[] #[]), (.pointer (some ⟨bc0, 0, none⟩))] w (Ret fun v w' => v = .tuple #[] ∧ Hp Z ρ (Pt bc0 (.cells #[(.string r.1)] 9 (0, 0)) :: Y r.2 :: L) w') := by
  refine enter (N := 19) Tryz.func82 rfl rfl [(0, (.func (.yield yl) #[] #[])), (1, (.pointer (some ⟨bc0, 0, none⟩)))] rfl (argsIn_mem ⟨rfl, rfl, trivial⟩) fun a hE => ?_
  unfold m_cnf_lines_1_yield at hm
  obtain ⟨b1, hc1, hm⟩ := bnd hm
  refine k_block (fun a w => ∃ s : (ByteArray × (Step σ ε)), b1 = .brk s ∧ (Env 19 [] a ∧ Hp Z ρ (Pt bc0 (.cells #[(.string s.1)] 9 (0, 0)) :: Y s.2 :: L) w)) ?_ ?_
  · refine k_loop hc1 (fun s a w => Env 19 [(0, (.func (.yield yl) #[] #[])), (1, (.pointer (some ⟨bc0, 0, none⟩)))] a ∧ Hp Z ρ (Pt bc0 (.cells #[(.string s.1)] 9 (0, 0)) :: Y s.2 :: L) w) ?_ ?_
    · exact ⟨hE.cut ⟨rfl, rfl, trivial⟩, hp⟩
    · rintro ⟨lp1_0, lp1_1⟩ st a w ⟨hE, hp⟩ hl1
      have hE : Env 19 [(0, (.func (.yield yl) #[] #[])), (1, (.pointer (some ⟨bc0, 0, none⟩)))] a := hE
      have hp : Hp Z ρ (Pt bc0 (.cells #[(.string lp1_0)] 9 (0, 0)) :: Y lp1_1 :: L) w := hp
      replace hl1 : m_cnf_lines_1_yield_lp1 yf lp1_0 lp1_1 = some st := hl1
      unfold m_cnf_lines_1_yield_lp1 at hl1
      refine k_seq ?_
      refine k_seq ?_
      refine k_region ?_
      refine s_val (wk0 rfl) rfl rfl hE hp (v := (.string lp1_0)) (ex_load rfl hE rfl (fun w hw => run_ld1 varty9 (Hp.c 0 rfl 0 rfl w hw))) ?_
      intro a hE
      refine s_val (wk0 rfl) rfl rfl hE hp (v := (.bool (!decide (lp1_0 = (ByteArray.mk #[]))))) (ex_sneq rfl hE rfl rfl) ?_
      intro a hE
      refine s_nil ?_
      refine k_if hE rfl (fun hc2 => ?_) (fun hc2 => ?_)
      · replace hl1 := (it hc2).symm.trans hl1
        refine k_skip ?_
        refine k_plain ?_
        refine k_seq ?_
        refine k_region ?_
        refine s_val (wk0 rfl) rfl rfl hE hp (v := (.string lp1_0)) (ex_load rfl hE rfl (fun w hw => run_ld1 varty9 (Hp.c 0 rfl 0 rfl w hw))) ?_
        intro a hE
        obtain ⟨x1, ex1, hl1⟩ := bnd hl1
        refine s_call (wk0 rfl) rfl rfl hE rfl [(.string lp1_0), (.string (ByteArray.mk #[10]))] ⟨rfl, rfl, trivial⟩ ent83 (c_cut hT lp1_0 (ByteArray.mk #[10]) hp x1 ex1) Ret.ret ?_
        intro v a w hR hE
        obtain ⟨rfl, hp⟩ := Ret.of hR
        have hp : Hp Z ρ (_ :: _ :: L) w := hp
        refine s_val (wk0 rfl) rfl rfl hE hp (v := (.tuple #[(.string x1.1), (.string x1.2.1), (.bool x1.2.2)])) (ex_move rfl hE rfl) ?_
        intro a hE
        refine s_val (wk0 rfl) rfl rfl hE hp (v := (.string x1.1)) (ex_extract rfl hE rfl rfl) ?_
        intro a hE
        refine s_val (wk0 rfl) rfl rfl hE hp (v := (.string x1.2.1)) (ex_extract rfl hE rfl rfl) ?_
        intro a hE
        refine s_val (wk0 rfl) rfl rfl hE hp (v := (.bool x1.2.2)) (ex_extract rfl hE rfl rfl) ?_
        intro a hE
        refine s_val (wk0 rfl) rfl rfl hE hp (v := (.string x1.1)) (ex_asn rfl hE rfl) ?_
        intro a hE
        refine s_val (wk0 rfl) rfl rfl hE hp (v := (.string x1.2.1)) (ex_asn rfl hE rfl) ?_
        intro a hE
        refine s_val (wk0 rfl) rfl rfl hE hp (v := (.bool x1.2.2)) (ex_asn rfl hE rfl) ?_
        intro a hE
        refine s_nil ?_
        have hE := hE.cut (E' := [(0, (.func (.yield yl) #[] #[])), (1, (.pointer (some ⟨bc0, 0, none⟩))), (3, (.string x1.1)), (4, (.string x1.2.1))]) ⟨rfl, rfl, rfl, rfl, trivial⟩
        refine k_seq ?_
        refine k_seq ?_
        refine k_regionY ?_
        refine y_val (wk0 rfl) rfl rfl hE hp (v := (.func (.yield yl) #[] #[])) (ex_move rfl hE rfl) ?_
        intro a hE
        refine y_val (wk0 rfl) rfl rfl hE hp (v := (.string x1.1)) (ex_move rfl hE rfl) ?_
        intro a hE
        obtain ⟨x2, ex2, hl1⟩ := bnd hl1
        refine y_yield (wk0 rfl) rfl rfl hE rfl rfl [(.string x1.1)] ⟨rfl, trivial⟩ (YieldOk.at hY ex2 (hp.get 1 rfl)) ?_
        rintro _ a w ⟨rfl, hp⟩ hE
        have hp : Hp Z ρ (Y x2 :: _ :: L) w := hp
        refine y_val (wk0 rfl) rfl rfl hE hp (v := (.bool (!x2.more))) (ex_not rfl hE rfl) ?_
        intro a hE
        refine y_nil ?_
        refine k_if hE rfl (fun hc3 => ?_) (fun hc3 => ?_)
        · replace hl1 := (it hc3).symm.trans hl1
          refine k_ret ?_
          refine ⟨_, (Option.some.inj hl1).symm, fun hb => ?_⟩
          subst hb
          obtain rfl := Option.some.inj hm
          exact ret0 hE rfl ⟨_, rfl, rfl, ((hp.get 0 rfl).get 1 rfl)⟩
        · replace hl1 := (ie hc3).symm.trans hl1
          refine k_skip ?_
          refine k_region ?_
          refine s_val (wk0 rfl) rfl rfl hE hp (v := (.string x1.2.1)) (ex_move rfl hE rfl) ?_
          intro a hE
          refine s_store (wk0 rfl) rfl hE hp rfl rfl rfl 1 rfl varty9.size_ rfl (allOne_mem ⟨rfl, trivial⟩) [(.string x1.2.1)] rfl ?_
          intro w hp
          have hp : Hp Z ρ (_ :: Pt bc0 (.cells #[(.string x1.2.1)] 9 (0, 0)) :: L) w := hp
          refine s_nil ?_
          exact ⟨_, (Option.some.inj hl1).symm, hE.cut ⟨rfl, rfl, trivial⟩, ((hp.get 0 rfl).get 1 rfl)⟩
      · replace hl1 := (ie hc2).symm.trans hl1
        refine k_exit ?_
        refine ⟨_, (Option.some.inj hl1).symm, fun hbb => ?_⟩
        exact ⟨_, hbb.symm, hE.cut trivial, hp⟩
  · rintro a w ⟨b1s, rfl, hE, hp⟩
    dsimp only at hm
    obtain rfl := Option.some.inj hm
    exact ret0n hE rfl ⟨_, rfl, rfl, hp⟩
set_option maxRecDepth 100000 in
set_option maxHeartbeats 4000000 in
theorem c_cnf_lines {Z : World} {ρ : PH} {L : List Atom} {w : World} (hT : Tabs ρ) (p0 : ByteArray) (hp : Hp Z ρ (L) w) (r : ByteArray) (hm : m_cnf_lines p0 = some r) :
    Calls Tryz.prog 61 #[(.string p0)] w (Ret fun v w' => ∃ (b1 : Nat), v = (.func (.func 82) #[] #[.pointer (some ⟨b1, 0, none⟩)]) ∧ Hp Z ρ (Pt b1 (.cells #[(.string r)] 9 (0, 0)) :: L) w') := by
  refine enter (N := 4) Tryz.func61 rfl rfl [(0, (.string p0))] rfl (argsIn_mem ⟨rfl, trivial⟩) fun a hE => ?_
  unfold m_cnf_lines at hm
  refine k_seq ?_
  refine k_region ?_
  refine s_box (wk0 rfl) rfl rfl hE hp rfl (v := (.string p0)) rfl ?_
  intro a w b1 hE hp
  have hp : Hp Z ρ (Pt b1 (.cells #[(.string p0)] 9 (0, 0)) :: L) w := hp
  refine s_val (wk0 rfl) rfl rfl hE hp (v := .nilFunc) (ex_asn rfl hE rfl) ?_
  intro a hE
  refine s_nil ?_
  refine k_seq ?_
  refine k_region ?_
  refine s_val (wk0 rfl) rfl rfl hE hp (v := (.func (.func 82) #[] #[(.pointer (some ⟨b1, 0, none⟩))])) (ex_fn rfl hE [(.pointer (some ⟨b1, 0, none⟩))] (by exact ⟨rfl, trivial⟩)) ?_
  intro a hE
  refine s_val (wk0 rfl) rfl rfl hE hp (v := (.func (.func 82) #[] #[(.pointer (some ⟨b1, 0, none⟩))])) (ex_asn rfl hE rfl) ?_
  intro a hE
  refine s_nil ?_
  refine k_ret ?_
  obtain rfl := Option.some.inj hm
  exact ret1 hE rfl rfl ⟨_, rfl, _, rfl, hp⟩
set_option maxRecDepth 100000 in
set_option maxHeartbeats 4000000 in
theorem c_cnf_Parse {Z : World} {ρ : PH} {L : List Atom} {w : World} (hT : Tabs ρ) (p0 : ByteArray) (hp : Hp Z ρ (L) w) (r : (Formula × Int)) (hm : m_cnf_Parse p0 = some r) :
    Calls Tryz.prog 26 #[(.string p0)] w (Ret fun v w' => ∃ (vr1_clauses : Value) (usr1_clauses : List Sl), v = .tuple #[(.agg #[(.int .i64 r.1.vars), vr1_clauses]), (.int .i64 r.2)] ∧ Hp Z ρ (TblA 25 3 vr1_clauses usr1_clauses (r.1.clauses : (List (List Int))) :: L) w') := by
  refine enterM (N := 68) Tryz.func26 rfl rfl [(0, (.string p0))] rfl (argsIn_mem ⟨rfl, trivial⟩) fun a hE => ?_
  unfold m_cnf_Parse at hm
  refine k_seq ?_
  refine k_region ?_
  refine s_new (wk0 rfl) rfl rfl hE hp rfl [(.int .i64 0), (.slice none 0 0)] (fun w => by simp [Instr.alloc, go_sem] <;> rfl) ?_
  intro a w b1 hE hp
  have hp : Hp Z ρ (Pt b1 (.cells #[(.int .i64 0), (.slice none 0 0)] 24 (0, 0)) :: L) w := hp
  refine s_new (wk0 rfl) rfl rfl hE hp rfl [(.int .i64 0)] (fun w => by simp [Instr.alloc, go_sem] <;> rfl) ?_
  intro a w b2 hE hp
  have hp : Hp Z ρ (Pt b2 (.cells #[(.int .i64 0)] 39 (0, 0)) :: _ :: L) w := hp
  refine s_nil ?_
  refine k_seq ?_
  refine k_region ?_
  refine s_val (wk0 rfl) rfl rfl hE hp (v := (.agg #[(.int .i64 0), (.slice none 0 0)])) (ex_bld rfl hE [] (by exact trivial) (fun w => by simp [Instr.build, Instr.fill, Value.cells, go_sem])) ?_
  intro a hE
  refine s_new (wk0 rfl) rfl rfl hE hp rfl [(.int .i64 0), (.slice none 0 0)] (fun w => by simp [Instr.alloc, go_sem] <;> rfl) ?_
  intro a w b3 hE hp
  have hp : Hp Z ρ (Pt b3 (.cells #[(.int .i64 0), (.slice none 0 0)] 24 (0, 0)) :: _ :: _ :: L) w := hp
  refine s_store (wk0 rfl) rfl hE hp rfl rfl rfl 0 rfl varty24.size_ rfl (allOne_mem ⟨rfl, rfl, trivial⟩) [(.int .i64 0), (.slice none 0 0)] rfl ?_
  intro w hp
  have hp : Hp Z ρ (_ :: _ :: _ :: L) w := hp
  refine s_nil ?_
  refine k_seq ?_
  refine k_region ?_
  refine s_new (wk0 rfl) rfl rfl hE hp rfl [(.bool false)] (fun w => by simp [Instr.alloc, go_sem] <;> rfl) ?_
  intro a w b4 hE hp
  have hp : Hp Z ρ (Pt b4 (.cells #[(.bool false)] 4 (0, 0)) :: _ :: _ :: _ :: L) w := hp
  refine s_store (wk0 rfl) rfl hE hp rfl rfl rfl 0 rfl varty4.size_ rfl (allOne_mem ⟨rfl, trivial⟩) [(.bool true)] rfl ?_
  intro w hp
  have hp : Hp Z ρ (Pt b4 (.cells #[(.bool true)] 4 (0, 0)) :: _ :: _ :: _ :: L) w := hp
  refine s_nil ?_
  refine k_seq ?_
  refine k_seq ?_
  refine k_region ?_
  refine s_val (wk0 rfl) rfl rfl hE hp (v := (.string p0)) (ex_move rfl hE rfl) ?_
  intro a hE
  obtain ⟨x1, ex1, hm⟩ := bnd hm
  refine s_call (wk0 rfl) rfl rfl hE rfl [(.string p0)] ⟨rfl, trivial⟩ ent61 (c_cnf_lines hT p0 hp x1 ex1) Ret.ret ?_
  intro v a w hR hE
  obtain ⟨b5, rfl, hp⟩ := Ret.of hR
  have hp : Hp Z ρ (Pt b5 (.cells #[(.string x1)] 9 (0, 0)) :: _ :: _ :: _ :: _ :: L) w := hp
  refine s_nil ?_
  refine k_plain ?_
  have hp := hp.emp (TblA.none (α := Int) 25 3 none)
  have hp : Hp Z ρ (TblA 25 3 (.slice none 0 0) ([]) ([] : (List (List Int))) :: _ :: _ :: _ :: _ :: _ :: L) w := hp
  have hp : Hp Z ρ (_ :: _ :: _ :: _ :: _ :: _ :: L) w := hp
  obtain ⟨b6, hc1, hm⟩ := bnd hm
  have hp : Hp Z ρ ((fun s : ((List (List Int)) × Bool × Int) => fun k => ∃ w32 : Value, ∃ us32 : List Sl, Stars [TblA 25 3 w32 us32 (s.1 : (List (List Int))), Pt b4 (.cells #[(.bool s.2.1)] 4 (0, 0)), Pt b3 (.cells #[(.int .i64 s.2.2), w32] 24 (0, 0)), Pt b2 (.cells #[(.int .i64 0)] 39 (0, 0)), Pt b1 (.cells #[(.int .i64 0), (.slice none 0 0)] 24 (0, 0))] k) ([], true, 0) :: Pt b5 (.cells #[(.string x1)] 9 (0, 0)) :: L) w := Hp.exI _ (Hp.exI _ (Hp.stars (l := [_, _, _, _, _]) (((((((hp.get 1 rfl).get 5 rfl).get 5 rfl).get 5 rfl).get 5 rfl).get 5 rfl))))
  have hE := hE.cut (E' := [(0, (.string p0)), (2, (.pointer (some ⟨b1, 0, none⟩))), (3, (.pointer (some ⟨b2, 0, none⟩))), (4, (.pointer (some ⟨b3, 0, none⟩))), (5, (.pointer (some ⟨b4, 0, none⟩))), (15, (.func (.func 82) #[] #[(.pointer (some ⟨b5, 0, none⟩))]))]) ⟨rfl, rfl, rfl, rfl, rfl, rfl, trivial⟩
  refine k_rangeF (fun s : ((List (List Int)) × Bool × Int) => fun k => ∃ w32 : Value, ∃ us32 : List Sl, Stars [TblA 25 3 w32 us32 (s.1 : (List (List Int))), Pt b4 (.cells #[(.bool s.2.1)] 4 (0, 0)), Pt b3 (.cells #[(.int .i64 s.2.2), w32] 24 (0, 0)), Pt b2 (.cells #[(.int .i64 0)] 39 (0, 0)), Pt b1 (.cells #[(.int .i64 0), (.slice none 0 0)] 24 (0, 0))] k) (fun r : (Formula × Int) => fun k => ∃ vr1_clauses : Value, ∃ usr1_clauses : List Sl, Stars [Pt b1 (.cells #[(.int .i64 r.1.vars), vr1_clauses] 24 (0, 0)), TblA 25 3 vr1_clauses usr1_clauses (r.1.clauses : (List (List Int))), Pt b2 (.cells #[(.int .i64 r.2)] 39 (0, 0))] k) (fun x : ByteArray => [(.string x)]) (fun x s => m_cnf_Parse_lp1  x s.1 s.2.1 s.2.2) (b := b6.2) (L' := L) (E2 := fun x => [(6, (.string x))]) (lb := [(.pointer (some ⟨b5, 0, none⟩))]) hE rfl ent82 hp (fun _ => rfl) (by decide) ?_ ?_ ?_ ?_ ?_
  · intro yl Y w hY hp
    refine Calls.mono (c_cnf_lines_1_yield hT (fun x s => m_cnf_Parse_lp1  x s.1 s.2.1 s.2.2) yl Y hY (.next ([], true, 0)) b5 x1 (hp.get 1 rfl) _ hc1) fun e w' he => ?_
    obtain ⟨v, rfl, hh⟩ := he
    obtain ⟨-, hp⟩ := hh
    exact ⟨_, rfl, hp.drop⟩
  · intro yl x a L w hE hp
    have hE : Env 68 [(16, (.string x)), (0, (.string p0)), (2, (.pointer (some ⟨b1, 0, none⟩))), (3, (.pointer (some ⟨b2, 0, none⟩))), (4, (.pointer (some ⟨b3, 0, none⟩))), (5, (.pointer (some ⟨b4, 0, none⟩))), (15, (.func (.func 82) #[] #[(.pointer (some ⟨b5, 0, none⟩))]))] a := hE
    refine k_region ?_
    refine s_val (wk0 rfl) rfl rfl hE hp (v := (.string x)) (ex_asn rfl hE rfl) ?_
    intro a hE
    refine s_nil ?_
    exact ⟨hE.cut ⟨rfl, rfl, rfl, rfl, rfl, rfl, rfl, rfl, trivial⟩, hp⟩
  · rintro yl x ⟨lp1_0, lp1_1, lp1_2⟩ st a L w hl1 hE hp
    have hp := hp
    obtain ⟨w32, hp⟩ := Hp.exO hp
    obtain ⟨us32, hp⟩ := Hp.exO hp
    have hp := Hp.unstar hp
    have hE := hE.cut (E' := [(2, (.pointer (some ⟨b1, 0, none⟩))), (3, (.pointer (some ⟨b2, 0, none⟩))), (4, (.pointer (some ⟨b3, 0, none⟩))), (5, (.pointer (some ⟨b4, 0, none⟩))), (6, (.string x)), (15, (.func (.func 82) #[] #[(.pointer (some ⟨b5, 0, none⟩))]))]) ⟨rfl, rfl, rfl, rfl, rfl, rfl, trivial⟩
    have hp : Hp Z ρ (TblA 25 3 w32 us32 (lp1_0 : (List (List Int))) :: Pt b4 (.cells #[(.bool lp1_1)] 4 (0, 0)) :: Pt b3 (.cells #[(.int .i64 lp1_2), w32] 24 (0, 0)) :: Pt b2 (.cells #[(.int .i64 0)] 39 (0, 0)) :: Pt b1 (.cells #[(.int .i64 0), (.slice none 0 0)] 24 (0, 0)) :: L) w := hp
    replace hl1 : m_cnf_Parse_lp1  x lp1_0 lp1_1 lp1_2 = some st := hl1
    unfold m_cnf_Parse_lp1 at hl1
    obtain ⟨j1, hj1, hl1⟩ := bnd hl1
    refine k_block (fun a w => ∃ s : ((List (List Int)) × Bool × Int), j1 = .brk s ∧ (∃ (w32q : Value) (us32q : List Sl), Env 68 [] a ∧ Hp Z ρ (TblA 25 3 w32q us32q (s.1 : (List (List Int))) :: Pt b4 (.cells #[(.bool s.2.1)] 4 (0, 0)) :: Pt b3 (.cells #[(.int .i64 s.2.2), w32q] 24 (0, 0)) :: Pt b2 (.cells #[(.int .i64 0)] 39 (0, 0)) :: Pt b1 (.cells #[(.int .i64 0), (.slice none 0 0)] 24 (0, 0)) :: L) w)) ?_ ?_
    ·
      refine k_seq ?_
      refine k_region ?_
      refine s_val (wk0 rfl) rfl rfl hE hp (v := (.string x)) (ex_move rfl hE rfl) ?_
      intro a hE
      obtain ⟨x2, ex2, hj1⟩ := bnd hj1
      refine s_call (wk0 rfl) rfl rfl hE rfl [(.string x), (.string (ByteArray.mk #[32]))] ⟨rfl, rfl, trivial⟩ ent62 (c_split hT x (ByteArray.mk #[32]) hp x2 ex2) Ret.ret ?_
      intro v1 a w hR hE
      obtain ⟨u, hu, hp⟩ := Ret.of hR
      rw [← hu] at hp
      have hp : Hp Z ρ (OwnSl 9 v1 x2 :: _ :: _ :: _ :: _ :: _ :: L) w := hp
      refine s_val (wk0 rfl) rfl rfl hE hp (v := v1) (ex_asn rfl hE rfl) ?_
      intro a hE
      refine s_nil ?_
      refine k_seq ?_
      refine k_seq ?_
      refine k_region ?_
      refine s_val (wk0 rfl) rfl rfl hE hp (v := (.bool lp1_1)) (ex_load rfl hE rfl (fun w hw => run_ld1 varty4 (Hp.c 2 rfl 0 rfl w hw))) ?_
      intro a hE
      refine s_nil ?_
      refine k_if hE rfl (fun hc2 => ?_) (fun hc2 => ?_)
      · replace hj1 := (it hc2).symm.trans hj1
        refine k_seq ?_
        refine k_seq ?_
        refine k_region ?_
        refine s_val (wk0 rfl) rfl rfl hE hp (v := v1) (ex_move rfl hE rfl) ?_
        intro a hE
        refine s_val (wk0 rfl) rfl rfl hE hp (v := (.int .i64 (x2.length : Int))) (ex_len rfl hE rfl (OwnSl.len hp 0 rfl slty79)) ?_
        intro a hE
        refine s_val (wk0 rfl) rfl rfl hE hp (v := (.bool (!decide ((x2.length : Int) = 4)))) (ex_neq rfl hE rfl rfl) ?_
        intro a hE
        refine s_nil ?_
        have hE := hE.cut (E' := [(2, (.pointer (some ⟨b1, 0, none⟩))), (3, (.pointer (some ⟨b2, 0, none⟩))), (4, (.pointer (some ⟨b3, 0, none⟩))), (5, (.pointer (some ⟨b4, 0, none⟩))), (7, v1), (22, (.bool (!decide ((x2.length : Int) = 4))))]) ⟨rfl, rfl, rfl, rfl, rfl, rfl, trivial⟩
        refine k_if hE rfl (fun hc3 => ?_) (fun hc3 => ?_)
        · replace hj1 := (it hc3).symm.trans hj1
          refine k_seq ?_
          refine k_region ?_
          refine s_val (wk0 rfl) rfl rfl hE hp (v := (.agg #[(.int .i64 0), (.slice none 0 0)])) (ex_bld rfl hE [] (by exact trivial) (fun w => by simp [Instr.build, Instr.fill, Value.cells, go_sem])) ?_
          intro a hE
          refine s_store (wk0 rfl) rfl hE hp rfl rfl rfl 5 rfl varty24.size_ rfl (allOne_mem ⟨rfl, rfl, trivial⟩) [(.int .i64 0), (.slice none 0 0)] rfl ?_
          intro w hp
          have hp : Hp Z ρ (_ :: _ :: _ :: _ :: _ :: _ :: L) w := hp
          refine s_store (wk0 rfl) rfl hE hp rfl rfl rfl 4 rfl varty39.size_ rfl (allOne_mem ⟨rfl, trivial⟩) [(.int .i64 3)] rfl ?_
          intro w hp
          have hp : Hp Z ρ (_ :: _ :: _ :: _ :: Pt b2 (.cells #[(.int .i64 3)] 39 (0, 0)) :: _ :: L) w := hp
          refine s_nil ?_
          refine k_ret ?_
          obtain rfl := Option.some.inj hj1
          have hp := hp.emp (TblA.none (α := Int) 25 3 none)
          have hp : Hp Z ρ (TblA 25 3 (.slice none 0 0) ([]) ([] : (List (List Int))) :: _ :: _ :: _ :: _ :: _ :: _ :: L) w := hp
          have hp : Hp Z ρ (_ :: _ :: _ :: _ :: _ :: _ :: _ :: L) w := hp
          exact ⟨_, (Option.some.inj hl1).symm, Hp.exI _ (Hp.exI _ (Hp.stars (l := [_, _, _]) ((((((((((((hp.get 5 rfl).get 1 rfl).get 6 rfl).get 6 rfl).drop).get 5 rfl).drop).get 4 rfl).drop).get 3 rfl).drop))))⟩
        · replace hj1 := (ie hc3).symm.trans hj1
          refine k_skip ?_
          refine k_seq ?_
          refine k_region ?_
          refine s_val (wk0 rfl) rfl rfl hE hp (v := v1) (ex_move rfl hE rfl) ?_
          intro a hE
          obtain ⟨x3, ex3, hj1⟩ := bnd hj1
          obtain ⟨b7, b7o, b7r, b7v, b7f⟩ := OwnSl.at hp 0 rfl slty79 ex3
          have b7f : ∀ (j : Nat) (u : Value), ([(.string x3)] : List Value)[j]? = some u → ∀ ρ' L' w, Hp Z ρ' (OwnSl 9 v1 x2 :: L') w → w.cell? ⟨b7, b7o + j, none⟩ = some u := b7f
          refine s_val (wk0 rfl) rfl rfl hE hp (v := (.pointer (some ⟨b7, b7o, none⟩))) (ex_index rfl hE rfl rfl b7r) ?_
          intro a hE
          refine s_val (wk0 rfl) rfl rfl hE hp (v := (.string x3)) (ex_load rfl hE rfl (fun w hw => run_ld1 varty9 (b7f 0 _ rfl _ _ w (hw.get 0 rfl)))) ?_
          intro a hE
          obtain ⟨x4, ex4, hj1⟩ := bnd hj1
          refine s_call (wk0 rfl) rfl rfl hE rfl [(.string x3)] ⟨rfl, trivial⟩ ent63 (c_atoi hT x3 hp x4 ex4) Ret.ret ?_
          intro v a w hR hE
          obtain ⟨ev1, rfl, hp⟩ := Ret.of hR
          have hp : Hp Z ρ (_ :: _ :: _ :: _ :: _ :: _ :: L) w := hp
          refine s_val (wk0 rfl) rfl rfl hE hp (v := (.tuple #[(.int .i64 x4), ev1])) (ex_move rfl hE rfl) ?_
          intro a hE
          refine s_val (wk0 rfl) rfl rfl hE hp (v := (.int .i64 x4)) (ex_extract rfl hE rfl rfl) ?_
          intro a hE
          refine s_val (wk0 rfl) rfl rfl hE hp (v := ev1) (ex_extract rfl hE rfl rfl) ?_
          intro a hE
          refine s_val (wk0 rfl) rfl rfl hE hp (v := (.pointer (some ⟨b3, 0, none⟩))) (ex_field rfl hE rfl (fldty24_0 _ _)) ?_
          intro a hE
          refine s_store (wk0 rfl) rfl hE hp rfl rfl rfl 3 rfl varty3.size_ rfl (allOne_mem ⟨rfl, trivial⟩) [(.int .i64 x4), w32] rfl ?_
          intro w hp
          have hp : Hp Z ρ (_ :: _ :: _ :: Pt b3 (.cells #[(.int .i64 x4), w32] 24 (0, 0)) :: _ :: _ :: L) w := hp
          refine s_nil ?_
          refine k_seq ?_
          refine k_region ?_
          refine s_store (wk0 rfl) rfl hE hp rfl rfl rfl 2 rfl varty4.size_ rfl (allOne_mem ⟨rfl, trivial⟩) [(.bool false)] rfl ?_
          intro w hp
          have hp : Hp Z ρ (_ :: _ :: Pt b4 (.cells #[(.bool false)] 4 (0, 0)) :: _ :: _ :: _ :: L) w := hp
          refine s_nil ?_
          refine k_exit ?_
          obtain rfl := Option.some.inj hj1
          exact ⟨_, rfl, _, _, hE.cut trivial, (hp.drop)⟩
      · replace hj1 := (ie hc2).symm.trans hj1
        refine k_skip ?_
        refine k_seq ?_
        refine k_region ?_
        refine s_val (wk0 rfl) rfl rfl hE hp (v := (.slice none 0 0)) (ex_asn rfl hE rfl) ?_
        intro a hE
        refine s_nil ?_
        refine k_seq ?_
        refine k_seq ?_
        refine k_region ?_
        refine s_val (wk0 rfl) rfl rfl hE hp (v := v1) (ex_move rfl hE rfl) ?_
        intro a hE
        refine s_val (wk0 rfl) rfl rfl hE hp (v := v1) (ex_move rfl hE rfl) ?_
        intro a hE
        refine s_val (wk0 rfl) rfl rfl hE hp (v := (.int .i64 (x2.length : Int))) (ex_len rfl hE rfl (OwnSl.len hp 0 rfl slty79)) ?_
        intro a hE
        obtain ⟨x5, ex5, hj1⟩ := bnd hj1
        refine s_val (wk0 rfl) rfl rfl hE hp (v := (.int .i64 x5)) (ex_sub rfl hE rfl rfl (inK_some ex5)) ?_
        intro a hE
        obtain ⟨x6, ex6, hj1⟩ := bnd hj1
        obtain ⟨v2, v2r, hp⟩ := OwnSl.head (hp.get 0 rfl) slty79 (some (.i64, x5)) rfl ex6
        have hp : Hp Z ρ (OwnSl 9 v2 x6 :: _ :: _ :: _ :: _ :: _ :: L) w := hp
        refine s_val (wk0 rfl) rfl rfl hE hp (v := v2) (ex_sl rfl hE rfl none (some (.i64, x5)) (by exact trivial) (by exact rfl) v2r) ?_
        intro a hE
        refine s_val (wk0 rfl) rfl rfl hE hp (v := (.int .i64 (x6.length : Int))) (ex_len rfl hE rfl (OwnSl.len hp 0 rfl slty79)) ?_
        intro a hE
        refine s_val (wk0 rfl) rfl rfl hE hp (v := (.int .i64 0)) (ex_move rfl hE rfl) ?_
        intro a hE
        refine s_nil ?_
        have hp := hp.emp (OwnSl.nil (α := Int) 3)
        have hp : Hp Z ρ (OwnSl 3 (.slice none 0 0) ([] : List Int) :: _ :: _ :: _ :: _ :: _ :: _ :: L) w := hp
        obtain ⟨b8, hc4, hj1⟩ := bnd hj1
        refine k_block (fun a w => ∃ (w59 : Value), Env 68 [(4, (.pointer (some ⟨b3, 0, none⟩))), (8, w59)] a ∧ Hp Z ρ (OwnSl 3 w59 b8 :: OwnSl 9 v2 x6 :: TblA 25 3 w32 us32 (lp1_0 : (List (List Int))) :: Pt b4 (.cells #[(.bool lp1_1)] 4 (0, 0)) :: Pt b3 (.cells #[(.int .i64 lp1_2), w32] 24 (0, 0)) :: Pt b2 (.cells #[(.int .i64 0)] 39 (0, 0)) :: Pt b1 (.cells #[(.int .i64 0), (.slice none 0 0)] 24 (0, 0)) :: L) w) ?_ ?_
        · refine k_loop hc4 (fun s a w => ∃ (w59 : Value), Env 68 [(4, (.pointer (some ⟨b3, 0, none⟩))), (8, w59), (36, v2), (37, (.int .i64 (x6.length : Int))), (38, (.int .i64 s.1))] a ∧ Hp Z ρ (OwnSl 3 w59 s.2 :: OwnSl 9 v2 x6 :: TblA 25 3 w32 us32 (lp1_0 : (List (List Int))) :: Pt b4 (.cells #[(.bool lp1_1)] 4 (0, 0)) :: Pt b3 (.cells #[(.int .i64 lp1_2), w32] 24 (0, 0)) :: Pt b2 (.cells #[(.int .i64 0)] 39 (0, 0)) :: Pt b1 (.cells #[(.int .i64 0), (.slice none 0 0)] 24 (0, 0)) :: L) w) ?_ ?_
          · exact ⟨_, hE.cut ⟨rfl, rfl, rfl, rfl, rfl, trivial⟩, hp⟩
          · rintro ⟨lp2_0, lp2_1⟩ st a w ⟨w59, hE, hp⟩ hl2
            have hE : Env 68 [(4, (.pointer (some ⟨b3, 0, none⟩))), (8, w59), (36, v2), (37, (.int .i64 (x6.length : Int))), (38, (.int .i64 lp2_0))] a := hE
            have hp : Hp Z ρ (OwnSl 3 w59 lp2_1 :: _ :: _ :: _ :: _ :: _ :: _ :: L) w := hp
            replace hl2 : m_cnf_Parse_lp2 x6 lp2_0 lp2_1 = some st := hl2
            unfold m_cnf_Parse_lp2 at hl2
            refine k_seq ?_
            refine k_region ?_
            refine s_val (wk0 rfl) rfl rfl hE hp (v := (.bool (decide (lp2_0 < (x6.length : Int))))) (ex_lss rfl hE rfl rfl) ?_
            intro a hE
            refine s_nil ?_
            refine k_seq ?_
            refine k_if hE rfl (fun hc5 => ?_) (fun hc5 => ?_)
            · replace hl2 := (it hc5).symm.trans hl2
              refine k_skip ?_
              refine k_seq ?_
              refine k_plain ?_
              refine k_seq ?_
              refine k_region ?_
              obtain ⟨x7, ex7, hl2⟩ := bnd hl2
              obtain ⟨b9, b9o, b9r, b9v, b9f⟩ := OwnSl.at hp 1 rfl slty79 ex7
              have b9f : ∀ (j : Nat) (u : Value), ([(.string x7)] : List Value)[j]? = some u → ∀ ρ' L' w, Hp Z ρ' (OwnSl 9 v2 x6 :: L') w → w.cell? ⟨b9, b9o + j, none⟩ = some u := b9f
              refine s_val (wk0 rfl) rfl rfl hE hp (v := (.pointer (some ⟨b9, b9o, none⟩))) (ex_index rfl hE rfl rfl b9r) ?_
              intro a hE
              refine s_val (wk0 rfl) rfl rfl hE hp (v := (.string x7)) (ex_load rfl hE rfl (fun w hw => run_ld1 varty9 (b9f 0 _ rfl _ _ w (hw.get 1 rfl)))) ?_
              intro a hE
              refine s_val (wk0 rfl) rfl rfl hE hp (v := (.string x7)) (ex_asn rfl hE rfl) ?_
              intro a hE
              refine s_nil ?_
              refine k_seq ?_
              refine k_region ?_
              refine s_val (wk0 rfl) rfl rfl hE hp (v := (.string x7)) (ex_move rfl hE rfl) ?_
              intro a hE
              obtain ⟨x8, ex8, hl2⟩ := bnd hl2
              refine s_call (wk0 rfl) rfl rfl hE rfl [(.string x7)] ⟨rfl, trivial⟩ ent63 (c_atoi hT x7 hp x8 ex8) Ret.ret ?_
              intro v a w hR hE
              obtain ⟨ev2, rfl, hp⟩ := Ret.of hR
              have hp : Hp Z ρ (_ :: _ :: _ :: _ :: _ :: _ :: _ :: L) w := hp
              refine s_val (wk0 rfl) rfl rfl hE hp (v := (.tuple #[(.int .i64 x8), ev2])) (ex_move rfl hE rfl) ?_
              intro a hE
              refine s_val (wk0 rfl) rfl rfl hE hp (v := (.int .i64 x8)) (ex_extract rfl hE rfl rfl) ?_
              intro a hE
              refine s_val (wk0 rfl) rfl rfl hE hp (v := ev2) (ex_extract rfl hE rfl rfl) ?_
              intro a hE
              refine s_val (wk0 rfl) rfl rfl hE hp (v := (.int .i64 x8)) (ex_asn rfl hE rfl) ?_
              intro a hE
              refine s_val (wk0 rfl) rfl rfl hE hp (v := ev2) (ex_asn rfl hE rfl) ?_
              intro a hE
              refine s_nil ?_
              refine k_region ?_
              refine s_val (wk0 rfl) rfl rfl hE hp (v := w59) (ex_move rfl hE rfl) ?_
              intro a hE
              refine s_val (wk0 rfl) rfl rfl hE hp (v := (.int .i64 x8)) (ex_move rfl hE rfl) ?_
              intro a hE
              refine s_lit (wk0 rfl) rfl rfl hE hp rfl [(0, (.int .i64 x8))] ⟨⟨rfl, rfl⟩, trivial⟩ [(.int .i64 x8)] 3 (fun w => by simp [Instr.buildSlice, Instr.fill, Value.cells, go_sem]) ?_
              intro a w b10 hE hp
              have hp : Hp Z ρ (Pt b10 (.cells #[(.int .i64 x8)] 3 (0, 0)) :: _ :: _ :: _ :: _ :: _ :: _ :: _ :: L) w := hp
              obtain ⟨x9, ex9, hl2⟩ := bnd hl2
              refine s_app (wk0 rfl) rfl rfl hE hp rfl slty25 rfl rfl 1 rfl rfl (l2 := [x8]) rfl (fun j u hj => by have := Hp.cN 0 rfl 0 _ (sub_all rfl) w hp j u hj; simpa using this) ex9 ?_
              intro v3 a w hE hp
              have hp : Hp Z ρ (_ :: OwnSl 3 v3 x9 :: _ :: _ :: _ :: _ :: _ :: _ :: L) w := hp
              refine s_val (wk0 rfl) rfl rfl hE hp (v := v3) (ex_asn rfl hE rfl) ?_
              intro a hE
              refine s_nil ?_
              have hE := hE.cut (E' := [(4, (.pointer (some ⟨b3, 0, none⟩))), (8, v3), (36, v2), (37, (.int .i64 (x6.length : Int))), (38, (.int .i64 lp2_0))]) ⟨rfl, rfl, rfl, rfl, rfl, trivial⟩
              refine k_region ?_
              obtain ⟨x10, ex10, hl2⟩ := bnd hl2
              refine s_val (wk0 rfl) rfl rfl hE hp (v := (.int .i64 x10)) (ex_add rfl hE rfl rfl (inK_some ex10)) ?_
              intro a hE
              refine s_val (wk0 rfl) rfl rfl hE hp (v := (.int .i64 x10)) (ex_move rfl hE rfl) ?_
              intro a hE
              refine s_nil ?_
              exact ⟨_, (Option.some.inj hl2).symm, _, hE.cut ⟨rfl, rfl, rfl, rfl, rfl, trivial⟩, (hp.drop)⟩
            · replace hl2 := (ie hc5).symm.trans hl2
              refine k_exit ?_
              refine ⟨_, (Option.some.inj hl2).symm, fun hbb => ?_⟩
              subst hbb
              exact ⟨_, hE.cut ⟨rfl, rfl, trivial⟩, hp⟩
        · rintro a w ⟨w59, hE, hp⟩
          refine k_region ?_
          refine s_val (wk0 rfl) rfl rfl hE hp (v := (.pointer (some ⟨b3, 1, none⟩))) (ex_field rfl hE rfl (fldty24_1 _ _)) ?_
          intro a hE
          refine s_val (wk0 rfl) rfl rfl hE hp (v := w32) (ex_load rfl hE rfl (fun w hw => run_ld1 varty22 (Hp.c 4 rfl 1 rfl w hw))) ?_
          intro a hE
          refine s_val (wk0 rfl) rfl rfl hE hp (v := w59) (ex_move rfl hE rfl) ?_
          intro a hE
          refine s_lit (wk0 rfl) rfl rfl hE hp rfl [(0, w59)] ⟨⟨rfl, rfl⟩, trivial⟩ [w59] 25 (fun w => by have hc0 := OwnSl.cells hp 0 rfl; simp only [Value.cells] at hc0; simp [Instr.buildSlice, Instr.fill, Value.cells, hc0, go_sem]) ?_
          intro a w b11 hE hp
          have hp : Hp Z ρ (Pt b11 (.cells #[w59] 25 (0, 0)) :: OwnSl 3 w59 b8 :: _ :: _ :: _ :: _ :: _ :: _ :: L) w := hp
          obtain ⟨x11, ex11, hj1⟩ := bnd hj1
          obtain ⟨sl1, sl1e⟩ := OwnSl.toSl hp 1 rfl
          refine s_tapp (wk0 rfl) rfl rfl hE sl1e (hp.get 1 rfl) rfl slty22 rfl rfl 2 rfl rfl (Hp.c 0 rfl 0 rfl w hp) ex11 ?_
          intro v4 us1 a w hE hp
          have hp : Hp Z ρ (_ :: _ :: TblA 25 3 v4 us1 (x11 : (List (List Int))) :: _ :: _ :: _ :: _ :: L) w := hp
          refine s_val (wk0 rfl) rfl rfl hE hp (v := (.pointer (some ⟨b3, 1, none⟩))) (ex_field rfl hE rfl (fldty24_1 _ _)) ?_
          intro a hE
          refine s_store1 (wk0 rfl) rfl hE hp rfl rfl rfl 4 rfl varty22.size_ (TblA.cells hp 2 rfl) (TblA.one hp 2 rfl) rfl [(.int .i64 lp1_2), v4] rfl ?_
          intro w hp
          have hp : Hp Z ρ (_ :: _ :: _ :: _ :: Pt b3 (.cells #[(.int .i64 lp1_2), v4] 24 (0, 0)) :: _ :: _ :: L) w := hp
          refine s_nil ?_
          obtain rfl := Option.some.inj hj1
          exact ⟨_, rfl, _, _, hE.cut trivial, (((hp.get 1 rfl).drop).drop)⟩
    · rintro a w ⟨j1s, rfl, w32q, us32q, hE, hp⟩
      dsimp only at hl1
      exact ⟨_, (Option.some.inj hl1).symm, Hp.exI _ (Hp.exI _ (Hp.stars (l := [_, _, _, _, _]) (hp)))⟩
  · intro lp1n hb1 dd1 a w hE hp
    rw [hb1] at hm
    dsimp only at hm
    have hp := hp
    obtain ⟨w32, hp⟩ := Hp.exO hp
    obtain ⟨us32, hp⟩ := Hp.exO hp
    have hp := Hp.unstar hp
    have hE := hE.cut (E' := [(0, (.string p0)), (2, (.pointer (some ⟨b1, 0, none⟩))), (3, (.pointer (some ⟨b2, 0, none⟩))), (4, (.pointer (some ⟨b3, 0, none⟩)))]) ⟨rfl, rfl, rfl, rfl, trivial⟩
    have hp : Hp Z ρ (TblA 25 3 w32 us32 (lp1n.1 : (List (List Int))) :: Pt b4 (.cells #[(.bool lp1n.2.1)] 4 (0, 0)) :: Pt b3 (.cells #[(.int .i64 lp1n.2.2), w32] 24 (0, 0)) :: Pt b2 (.cells #[(.int .i64 0)] 39 (0, 0)) :: Pt b1 (.cells #[(.int .i64 0), (.slice none 0 0)] 24 (0, 0)) :: Pt dd1 (.deferred (some [])) :: L) w := hp
    refine k_seq ?_
    refine k_seq ?_
    refine k_region ?_
    refine s_val (wk0 rfl) rfl rfl hE hp (v := (.string p0)) (ex_move rfl hE rfl) ?_
    intro a hE
    refine s_val (wk0 rfl) rfl rfl hE hp (v := (.bool (decide (p0 = (ByteArray.mk #[]))))) (ex_seql rfl hE rfl rfl) ?_
    intro a hE
    refine s_val (wk0 rfl) rfl rfl hE hp (v := (.bool (decide (p0 = (ByteArray.mk #[]))))) (ex_move rfl hE rfl) ?_
    intro a hE
    obtain ⟨m1, hg1, hm⟩ := bnd hm
    refine s_cut [_, _, _, _, _] (fun a w => EnvD [markOf dd1] 68 [(65, (.bool m1)), (2, (.pointer (some ⟨b1, 0, none⟩))), (3, (.pointer (some ⟨b2, 0, none⟩))), (4, (.pointer (some ⟨b3, 0, none⟩)))] a ∧ Hp Z ρ (TblA 25 3 w32 us32 (lp1n.1 : (List (List Int))) :: Pt b4 (.cells #[(.bool lp1n.2.1)] 4 (0, 0)) :: Pt b3 (.cells #[(.int .i64 lp1n.2.2), w32] 24 (0, 0)) :: Pt b2 (.cells #[(.int .i64 0)] 39 (0, 0)) :: Pt b1 (.cells #[(.int .i64 0), (.slice none 0 0)] 24 (0, 0)) :: Pt dd1 (.deferred (some [])) :: L) w) ?_ ?_
    · rcases Bool.eq_false_or_eq_true (decide (p0 = (ByteArray.mk #[]))) with hc6 | hc6
      ·
        replace hg1 := (it hc6).symm.trans hg1
        refine s_skip (wk2 hE rfl rfl rfl hc6) rfl rfl hE ?_
        intro a hE
        refine s_skip (wk2 hE rfl rfl rfl hc6) rfl rfl hE ?_
        intro a hE
        refine s_skip (wk2 hE rfl rfl rfl hc6) rfl rfl hE ?_
        intro a hE
        refine s_skip (wk2 hE rfl rfl rfl hc6) rfl rfl hE ?_
        intro a hE
        refine s_val (wk0 rfl) rfl rfl hE hp (v := (.bool true)) (ex_pick1 rfl hE rfl hc6 rfl) ?_
        intro a hE
        obtain rfl := Option.some.inj hg1
        exact s_nil ⟨hE.cut ⟨rfl, rfl, rfl, rfl, trivial⟩, hp⟩
      ·
        replace hg1 := (ie hc6).symm.trans hg1
        refine s_val (wk1 hE rfl rfl rfl hc6) rfl rfl hE hp (v := (.agg #[(.int .i64 lp1n.2.2), w32])) (ex_load rfl hE rfl (fun w hw => run_ldN (cs := [(.int .i64 lp1n.2.2), w32]) varty24 (Hp.cN 2 rfl 0 _ (sub_all rfl) w hw))) ?_
        intro a hE
        obtain ⟨k1, k1a, k1d, k1h⟩ := (hp.get 0 rfl).lend
        obtain ⟨x12, ex12, hg1⟩ := bnd hg1
        refine s_call (wk1 hE rfl rfl rfl hc6) rfl rfl hE rfl [(.agg #[(.int .i64 lp1n.2.2), w32])] ⟨rfl, trivial⟩ ent28 (c_cnf_Format (Tabs.mono hT (PH.le_un _ k1)) (Formula.mk lp1n.2.2 lp1n.1) w32 (TblA.ro k1d k1a) k1h x12 ex12) Ret.ret ?_
        intro v a w hR hE
        obtain ⟨rfl, hp⟩ := Ret.of hR
        have hp := Hp.back k1a k1d hp
        have hp : Hp Z ρ (_ :: _ :: _ :: _ :: _ :: _ :: L) w := hp
        refine s_val (wk1 hE rfl rfl rfl hc6) rfl rfl hE hp (v := (.string p0)) (ex_move rfl hE rfl) ?_
        intro a hE
        refine s_val (wk1 hE rfl rfl rfl hc6) rfl rfl hE hp (v := (.bool (!decide (x12 = p0)))) (ex_sneq rfl hE rfl rfl) ?_
        intro a hE
        refine s_val (wk0 rfl) rfl rfl hE hp (v := (.bool (!decide (x12 = p0)))) (ex_pick0 rfl hE rfl hc6 rfl) ?_
        intro a hE
        obtain rfl := Option.some.inj hg1
        exact s_nil ⟨hE.cut ⟨rfl, rfl, rfl, rfl, trivial⟩, hp⟩
    · rintro a w ⟨hE, hp⟩
      refine s_nil ?_
      refine k_if hE rfl (fun hc7 => ?_) (fun hc7 => ?_)
      · replace hm := (it hc7).symm.trans hm
        refine k_seq ?_
        refine k_region ?_
        refine s_val (wk0 rfl) rfl rfl hE hp (v := (.agg #[(.int .i64 0), (.slice none 0 0)])) (ex_bld rfl hE [] (by exact trivial) (fun w => by simp [Instr.build, Instr.fill, Value.cells, go_sem])) ?_
        intro a hE
        refine s_store (wk0 rfl) rfl hE hp rfl rfl rfl 4 rfl varty24.size_ rfl (allOne_mem ⟨rfl, rfl, trivial⟩) [(.int .i64 0), (.slice none 0 0)] rfl ?_
        intro w hp
        have hp : Hp Z ρ (_ :: _ :: _ :: _ :: _ :: _ :: L) w := hp
        refine s_store (wk0 rfl) rfl hE hp rfl rfl rfl 3 rfl varty39.size_ rfl (allOne_mem ⟨rfl, trivial⟩) [(.int .i64 3)] rfl ?_
        intro w hp
        have hp : Hp Z ρ (_ :: _ :: _ :: Pt b2 (.cells #[(.int .i64 3)] 39 (0, 0)) :: _ :: _ :: L) w := hp
        refine s_nil ?_
        refine k_ret ?_
        refine retM (.inl rfl) hE (hp.get 5 rfl) fun a w hE hp => ?_
        have hp := hp.emp (TblA.none (α := Int) 25 3 none)
        have hp : Hp Z ρ (TblA 25 3 (.slice none 0 0) ([]) ([] : (List (List Int))) :: _ :: _ :: _ :: _ :: _ :: L) w := hp
        have hp : Hp Z ρ (_ :: _ :: _ :: _ :: _ :: _ :: L) w := hp
        obtain rfl := Option.some.inj hm
        exact retc2 hE rfl rfl rfl (run_lvN (cs := [(.int .i64 0), (.slice none 0 0)]) varty24 (Hp.cN 5 rfl 0 _ (sub_all rfl) _ hp)) (run_lv1 varty39 (Hp.c 4 rfl 0 rfl _ hp)) ⟨_, rfl, _, _, rfl, ((((((((((hp.get 5 rfl).drop).get 4 rfl).drop).get 3 rfl).drop).get 2 rfl).drop).get 1 rfl).drop)⟩
      · replace hm := (ie hc7).symm.trans hm
        refine k_skip ?_
        refine k_seq ?_
        refine k_region ?_
        refine s_val (wk0 rfl) rfl rfl hE hp (v := (.agg #[(.int .i64 lp1n.2.2), w32])) (ex_load rfl hE rfl (fun w hw => run_ldN (cs := [(.int .i64 lp1n.2.2), w32]) varty24 (Hp.cN 2 rfl 0 _ (sub_all rfl) w hw))) ?_
        intro a hE
        refine s_store (wk0 rfl) rfl hE hp rfl rfl rfl 4 rfl varty24.size_ rfl (allOne_mem ⟨rfl, (TblA.one hp 0 rfl), trivial⟩) [(.int .i64 lp1n.2.2), w32] rfl ?_
        intro w hp
        have hp : Hp Z ρ (_ :: _ :: _ :: _ :: Pt b1 (.cells #[(.int .i64 lp1n.2.2), w32] 24 (0, 0)) :: _ :: L) w := hp
        refine s_store (wk0 rfl) rfl hE hp rfl rfl rfl 3 rfl varty39.size_ rfl (allOne_mem ⟨rfl, trivial⟩) [(.int .i64 0)] rfl ?_
        intro w hp
        have hp : Hp Z ρ (_ :: _ :: _ :: _ :: _ :: _ :: L) w := hp
        refine s_nil ?_
        refine k_ret ?_
        refine retM (.inl rfl) hE (hp.get 5 rfl) fun a w hE hp => ?_
        obtain rfl := Option.some.inj hm
        exact retc2 hE rfl rfl rfl (run_lvN (cs := [(.int .i64 lp1n.2.2), w32]) varty24 (Hp.cN 4 rfl 0 _ (sub_all rfl) _ hp)) (run_lv1 varty39 (Hp.c 3 rfl 0 rfl _ hp)) ⟨_, rfl, _, _, rfl, ((((((((hp.get 4 rfl).drop).get 3 rfl).drop).get 2 rfl).drop).get 1 rfl).drop)⟩
  · intro r hb1 dd1 a w hE hp
    rw [hb1] at hm
    dsimp only at hm
    have hp := hp
    obtain ⟨vr1_clauses, hp⟩ := Hp.exO hp
    obtain ⟨usr1_clauses, hp⟩ := Hp.exO hp
    have hp := Hp.unstar hp
    have hE := hE.cut (E' := [(2, (.pointer (some ⟨b1, 0, none⟩))), (3, (.pointer (some ⟨b2, 0, none⟩)))]) ⟨rfl, rfl, trivial⟩
    have hp : Hp Z ρ (Pt b1 (.cells #[(.int .i64 r.1.vars), vr1_clauses] 24 (0, 0)) :: TblA 25 3 vr1_clauses usr1_clauses (r.1.clauses : (List (List Int))) :: Pt b2 (.cells #[(.int .i64 r.2)] 39 (0, 0)) :: Pt dd1 (.deferred (some [])) :: L) w := hp
    refine retM (.inl rfl) hE (hp.get 3 rfl) fun a w hE hp => ?_
    obtain rfl := Option.some.inj hm
    exact retc2 hE rfl rfl rfl (run_lvN (cs := [(.int .i64 r.1.vars), vr1_clauses]) varty24 (Hp.cN 0 rfl 0 _ (sub_all rfl) _ hp)) (run_lv1 varty39 (Hp.c 2 rfl 0 rfl _ hp)) ⟨_, rfl, _, _, rfl, (((hp.get 2 rfl).drop).drop)⟩
end Go.Proofs.YtelioaepnpnojaaGreatDoor

/- The code goes as its model: slices.Equal[[]int,int], slices.Index[[]int,int], slices.Contains[[]int,int], slices.Index[[]bool,bool], slices.Contains[[]bool,bool -/
set_option linter.unusedVariables false
set_option linter.unusedSimpArgs false
namespace Go.Proofs.YtelioaepnpnojaaGreatDoor
open Go.RowKit
set_option maxRecDepth 100000 in
set_option maxHeartbeats 4000000 in
theorem c_slices_Equal_int_int_ {Z : World} {ρ : PH} {L : List Atom} {w : World} (hT : Tabs ρ) (p0 : (List Int)) (vp0 : Value) (hp0 : RoSl ρ vp0 p0) (p1 : (List Int)) (vp1 : Value) (hp1 : RoSl ρ vp1 p1) (hp : Hp Z ρ (L) w) (r : Bool) (hm : m_slices_Equal_int_int_ p0 p1 = some r) :
    Calls Tryz.prog 14 #[vp0, vp1] w (Ret fun v w' => v = (.bool r) ∧ Hp Z ρ (L) w') := by
  refine enter (N := 26) Tryz.func14 rfl rfl [(0, vp0), (1, vp1)] rfl (argsIn_mem ⟨rfl, rfl, trivial⟩) fun a hE => ?_
  unfold m_slices_Equal_int_int_ at hm
  refine k_seq ?_
  refine k_region ?_
  refine s_val (wk0 rfl) rfl rfl hE hp (v := (.bool false)) (ex_asn rfl hE rfl) ?_
  intro a hE
  refine s_nil ?_
  refine k_seq ?_
  refine k_seq ?_
  refine k_region ?_
  refine s_val (wk0 rfl) rfl rfl hE hp (v := vp0) (ex_move rfl hE rfl) ?_
  intro a hE
  refine s_val (wk0 rfl) rfl rfl hE hp (v := (.int .i64 (p0.length : Int))) (ex_len rfl hE rfl (RoSl.len hp0 slty25)) ?_
  intro a hE
  refine s_val (wk0 rfl) rfl rfl hE hp (v := vp1) (ex_move rfl hE rfl) ?_
  intro a hE
  refine s_val (wk0 rfl) rfl rfl hE hp (v := (.int .i64 (p1.length : Int))) (ex_len rfl hE rfl (RoSl.len hp1 slty25)) ?_
  intro a hE
  refine s_val (wk0 rfl) rfl rfl hE hp (v := (.bool (!decide ((p0.length : Int) = (p1.length : Int))))) (ex_neq rfl hE rfl rfl) ?_
  intro a hE
  refine s_nil ?_
  refine k_if hE rfl (fun hc1 => ?_) (fun hc1 => ?_)
  · replace hm := (it hc1).symm.trans hm
    refine k_seq ?_
    refine k_region ?_
    refine s_val (wk0 rfl) rfl rfl hE hp (v := (.bool false)) (ex_asn rfl hE rfl) ?_
    intro a hE
    refine s_nil ?_
    refine k_ret ?_
    obtain rfl := Option.some.inj hm
    exact ret1 hE rfl rfl ⟨_, rfl, rfl, hp⟩
  · replace hm := (ie hc1).symm.trans hm
    refine k_skip ?_
    refine k_seq ?_
    refine k_seq ?_
    refine k_region ?_
    refine s_val (wk0 rfl) rfl rfl hE hp (v := vp0) (ex_move rfl hE rfl) ?_
    intro a hE
    refine s_val (wk0 rfl) rfl rfl hE hp (v := (.int .i64 (p0.length : Int))) (ex_len rfl hE rfl (RoSl.len hp0 slty25)) ?_
    intro a hE
    refine s_val (wk0 rfl) rfl rfl hE hp (v := (.int .i64 0)) (ex_move rfl hE rfl) ?_
    intro a hE
    refine s_nil ?_
    obtain ⟨b1, hc2, hm⟩ := bnd hm
    refine k_block (fun a w => ∃ s : Unit, b1 = .brk s ∧ (Env 26 [] a ∧ Hp Z ρ (L) w)) ?_ ?_
    · refine k_loop hc2 (fun s a w => Env 26 [(0, vp0), (1, vp1), (12, (.int .i64 (p0.length : Int))), (13, (.int .i64 s))] a ∧ Hp Z ρ (L) w) ?_ ?_
      · exact ⟨hE.cut ⟨rfl, rfl, rfl, rfl, trivial⟩, hp⟩
      · rintro lp1_0 st a w ⟨hE, hp⟩ hl1
        have hE : Env 26 [(0, vp0), (1, vp1), (12, (.int .i64 (p0.length : Int))), (13, (.int .i64 lp1_0))] a := hE
        have hp : Hp Z ρ (L) w := hp
        replace hl1 : m_slices_Equal_int_int__lp1 p0 p1 lp1_0 = some st := hl1
        unfold m_slices_Equal_int_int__lp1 at hl1
        refine k_seq ?_
        refine k_region ?_
        refine s_val (wk0 rfl) rfl rfl hE hp (v := (.bool (decide (lp1_0 < (p0.length : Int))))) (ex_lss rfl hE rfl rfl) ?_
        intro a hE
        refine s_nil ?_
        refine k_seq ?_
        refine k_if hE rfl (fun hc3 => ?_) (fun hc3 => ?_)
        · replace hl1 := (it hc3).symm.trans hl1
          refine k_skip ?_
          refine k_seq ?_
          refine k_plain ?_
          refine k_seq ?_
          refine k_region ?_
          refine s_val (wk0 rfl) rfl rfl hE hp (v := (.int .i64 lp1_0)) (ex_move rfl hE rfl) ?_
          intro a hE
          refine s_val (wk0 rfl) rfl rfl hE hp (v := (.int .i64 lp1_0)) (ex_asn rfl hE rfl) ?_
          intro a hE
          refine s_nil ?_
          refine k_seq ?_
          refine k_quiet (by kernel_rfl) (by kernel_rfl) hp ?_
          refine q_val (wk0 rfl) rfl rfl hE (v := vp0) (ex_move rfl hE rfl) ?_
          intro a hE
          refine q_val (wk0 rfl) rfl rfl hE (v := (.int .i64 lp1_0)) (ex_move rfl hE rfl) ?_
          intro a hE
          obtain ⟨x1, ex1, hl1⟩ := bnd hl1
          obtain ⟨b2, b2o, b2c, b2r, b2k, b2f⟩ := RoSl.at hp0 slty25 ex1
          obtain rfl : b2c = Enc.enc x1 := b2k
          have b2f : AtP ρ b2 b2o [(.int .i64 x1)] := b2f
          refine q_val (wk0 rfl) rfl rfl hE (v := (.pointer (some ⟨b2, b2o, none⟩))) (ex_index rfl hE rfl rfl b2r) ?_
          intro a hE
          refine q_val (wk0 rfl) rfl rfl hE (v := (.int .i64 x1)) (ex_load rfl hE rfl (fun w hw => run_ld1 varty3 (b2f.c 0 rfl w hw))) ?_
          intro a hE
          refine q_val (wk0 rfl) rfl rfl hE (v := vp1) (ex_move rfl hE rfl) ?_
          intro a hE
          refine q_val (wk0 rfl) rfl rfl hE (v := (.int .i64 lp1_0)) (ex_move rfl hE rfl) ?_
          intro a hE
          obtain ⟨x2, ex2, hl1⟩ := bnd hl1
          obtain ⟨b3, b3o, b3c, b3r, b3k, b3f⟩ := RoSl.at hp1 slty25 ex2
          obtain rfl : b3c = Enc.enc x2 := b3k
          have b3f : AtP ρ b3 b3o [(.int .i64 x2)] := b3f
          refine q_val (wk0 rfl) rfl rfl hE (v := (.pointer (some ⟨b3, b3o, none⟩))) (ex_index rfl hE rfl rfl b3r) ?_
          intro a hE
          refine q_val (wk0 rfl) rfl rfl hE (v := (.int .i64 x2)) (ex_load rfl hE rfl (fun w hw => run_ld1 varty3 (b3f.c 0 rfl w hw))) ?_
          intro a hE
          refine q_val (wk0 rfl) rfl rfl hE (v := (.bool (!decide (x1 = x2)))) (ex_neq rfl hE rfl rfl) ?_
          intro a hE
          refine q_nil fun w hp => ?_
          have hp : Hp Z ρ (L) w := hp
          refine k_if hE rfl (fun hc4 => ?_) (fun hc4 => ?_)
          · replace hl1 := (it hc4).symm.trans hl1
            refine k_seq ?_
            refine k_region ?_
            refine s_val (wk0 rfl) rfl rfl hE hp (v := (.bool false)) (ex_asn rfl hE rfl) ?_
            intro a hE
            refine s_nil ?_
            refine k_ret ?_
            refine ⟨_, (Option.some.inj hl1).symm, fun hb => ?_⟩
            subst hb
            obtain rfl := Option.some.inj hm
            exact ret1 hE rfl rfl ⟨_, rfl, rfl, hp⟩
          · replace hl1 := (ie hc4).symm.trans hl1
            refine k_skip ?_
            refine k_region ?_
            obtain ⟨x3, ex3, hl1⟩ := bnd hl1
            refine s_val (wk0 rfl) rfl rfl hE hp (v := (.int .i64 x3)) (ex_add rfl hE rfl rfl (inK_some ex3)) ?_
            intro a hE
            refine s_val (wk0 rfl) rfl rfl hE hp (v := (.int .i64 x3)) (ex_move rfl hE rfl) ?_
            intro a hE
            refine s_nil ?_
            exact ⟨_, (Option.some.inj hl1).symm, hE.cut ⟨rfl, rfl, rfl, rfl, trivial⟩, hp⟩
        · replace hl1 := (ie hc3).symm.trans hl1
          refine k_exit ?_
          refine ⟨_, (Option.some.inj hl1).symm, fun hbb => ?_⟩
          exact ⟨_, hbb.symm, hE.cut trivial, hp⟩
    · rintro a w ⟨b1s, rfl, hE, hp⟩
      dsimp only at hm
      refine k_seq ?_
      refine k_region ?_
      refine s_val (wk0 rfl) rfl rfl hE hp (v := (.bool true)) (ex_asn rfl hE rfl) ?_
      intro a hE
      refine s_nil ?_
      refine k_ret ?_
      obtain rfl := Option.some.inj hm
      exact ret1 hE rfl rfl ⟨_, rfl, rfl, hp⟩
end Go.Proofs.YtelioaepnpnojaaGreatDoor
