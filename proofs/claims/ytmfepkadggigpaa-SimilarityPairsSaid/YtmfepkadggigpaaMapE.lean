/-
  m[k] op= v: an entry is looked for, and stored to. Plain theorems over any program.
-/
import Derived.Test.YtmfepkadggigpaaMap
set_option linter.unusedVariables false
set_option linter.unusedSimpArgs false
namespace Go.Proofs.Ytmfepkadggigpaa
open Vl (vl)
open Go.RowKit
open Go.ChangeMaps (setBlock)
section
variable {κ β : Type} [Vl κ] [Vl β]
/-- An owned map, of which the entry of k has been marked. -/
def MapS (b : Nat) (l : List (κ × β)) (k : κ) (st : Int) : Atom := fun m => ∃ es clock, Pt b (.map es clock) m ∧ EntOk es clock l ∧ ∃ (j : Nat) (en : MapEntry), es.toList[j]? = some en ∧ (l.map (·.1))[j]? = some k ∧ (en.born : Int) = st
variable {P : Program} {ops : Array Oper} {Q : Exit → Act → World → Prop} {rest : List Oper} {o : Oper} {a : Act} {w : World} {N : Nat} {E : Ent} {d : Nat} {Z : World} {ρ : PH} {L : List Atom}
theorem Hp.maps {b : Nat} {l : List (κ × β)} {k : κ} {st : Int} (h : Hp Z ρ (MapS b l k st :: L) w) : ∃ es clock, Hp Z ρ (Pt b (.map es clock) :: L) w ∧ EntOk es clock l ∧ ∃ (j : Nat) (en : MapEntry), es.toList[j]? = some en ∧ (l.map (·.1))[j]? = some k ∧ (en.born : Int) = st := by
  obtain ⟨m, ⟨es, clock, hm, r⟩, d, s⟩ := h.sep
  exact ⟨es, clock, ⟨h.os, h.tape, h.output, m, hm, d, s⟩, r⟩
theorem MapS.toA {b : Nat} {l : List (κ × β)} {k : κ} {st : Int} (h : Hp Z ρ (MapS b l k st :: L) w) : Hp Z ρ (MapA b l :: L) w := by
  obtain ⟨es, clock, hp, e, _⟩ := h.maps
  exact hp.mapShut e
theorem mget_entry {κ β : Type} [DecidableEq κ] (l : List (κ × β)) (k : κ) (z : β) : (mget (mput l k ((mget l k).getD z)) k).getD z = (mget l k).getD z := by
  have : ∀ (l : List (κ × β)) (v : β), mget (mput l k v) k = some v := by
    intro l v
    induction l with
    | nil => simp [mput, mget]
    | cons p l ih =>
      unfold mput
      split
      · simp [mget]
      · rename_i h
        unfold mget at ih ⊢
        rw [List.find?_cons_of_neg (by simpa using h)]
        exact ih
  rw [this]; rfl
variable [DecidableEq κ]
theorem mod_toList {es : Array MapEntry} {j : Nat} {en : MapEntry} (hj : es.toList[j]? = some en) (f g : MapEntry → MapEntry) (h : f en = g en) : es.modify j f = es.modify j g := by
  apply Array.ext_getElem?
  intro i
  rw [Array.getElem?_modify, Array.getElem?_modify]
  split
  · rename_i e
    subst e
    rw [← Array.getElem?_toList, hj]
    simp [h]
  · rfl
theorem s_mentry {kt et T : TypeId} (K : KT P kt κ) (hT : P.underlying T = some (.map kt et)) {zd : β} (hz : ∀ w, (zeroValue et).run P w = .ok (vl zd) w) (wk : Region.wanted o (yielded ops a.tmps) = true) (hd : o.dst = some d) (hN : Nat.blt d N = true) (hE : Env N E a) (hp : Hp Z ρ L w) {x y : Operand} (ho : o.op = .mapEntry T x y) (i : Nat) {b : Nat} {l : List (κ × β)} {k : κ} (hx : evo E x = some (.map (some b))) (hy : evo E y = some (vl k)) (hi : L[i]? = some (MapA b l))
    (C : ∀ a w st, Env N ((d, .tuple #[vl ((mget l k).getD zd), .int .i64 st]) :: E) a → Hp Z ρ (L.set i (MapS b (mput l k ((mget l k).getD zd)) k st)) w → wpList P ops Q rest a w) : wpList P ops Q (o :: rest) a w := by
  obtain ⟨es, clock, hpt, e⟩ := (hp.get i hi).map
  have hb := hpt.look 0 rfl
  have hlt := (set_get (A := MapA b l) (_B := MapA b l) hi).2
  rcases K.find w k (l.map (·.1)) es.toList e.keysEq with ⟨h1, h2⟩ | ⟨j, en, h1, h2, h3⟩
  · have hg : mget l k = none := mget_none h2
    have hs := MapKept.heap_set (o' := .map (es.push { key := vl k, val := vl zd, born := clock }) (clock + 1)) hb
    have e' := e.put k zd h2
    refine s_run wk hd hN hE (v := .tuple #[vl ((mget l k).getD zd), .int .i64 clock]) (w' := setBlock w b (.map (es.push { key := vl k, val := vl zd, born := clock }) (clock + 1))) ?_ fun a' hE' => C a' _ _ hE' (Hp.put i hlt ?_)
    · simp [execOp, ho, hE.eval hx, hE.eval hy, Instr.mapEntry, run_underlying hT, MapKept.run_getObj_map hb, K.check, h1, hz, MapKept.run_setObj_map _ hb, setBlock, hg, goInt]
    · rw [hg]
      refine (Hp.set (w' := setBlock w b _) hpt rfl rfl rfl hs.1 hs.2).imp fun m hm => ⟨_, _, hm, e', es.size, { key := vl k, val := vl zd, born := clock }, by simp, ?_, rfl⟩
      rw [show (none : Option β).getD zd = zd from rfl, mput_new h2, e.size]
      simp
  · obtain ⟨p, hp1, ek, ev⟩ := e.at h2
    have hk : p.1 = k := by rw [List.getElem?_map, hp1] at h3; simpa using h3
    have hg : mget l k = some p.2 := by rw [← hk]; exact mget_at e.keys hp1
    have hes : es[j]? = some en := by rw [← Array.getElem?_toList]; exact h2
    have hkey : ((es[j]?).map (·.key)).getD (vl k) = vl k := by rw [hes]; simp [ek, hk]
    have hmod : es.modify j (fun e => { e with key := vl k }) = es.modify j (fun e => { e with key := vl k, val := vl p.2 }) := mod_toList h2 _ _ (by rw [← ev])
    have hs := MapKept.heap_set (o' := .map (es.modify j fun e => { e with key := vl k, val := vl p.2 }) clock) hb
    have e' := e.turn k p.2 h2 h3
    refine s_run wk hd hN hE (v := .tuple #[vl ((mget l k).getD zd), .int .i64 en.born]) (w' := setBlock w b (.map (es.modify j fun e => { e with key := vl k, val := vl p.2 }) clock)) ?_ fun a' hE' => C a' _ _ hE' (Hp.put i hlt ?_)
    · simp [execOp, ho, hE.eval hx, hE.eval hy, Instr.mapEntry, run_underlying hT, MapKept.run_getObj_map hb, K.check, h1, hkey, K.stays, show en.key = vl k from by rw [ek, hk], hmod, MapKept.run_setObj_map _ hb, setBlock, hg, goInt, hes, ev]
    · rw [hg]
      refine (Hp.set (w' := setBlock w b _) hpt rfl rfl rfl hs.1 hs.2).imp fun m hm => ⟨_, _, hm, e', j, { en with key := vl k, val := vl p.2 }, ?_, ?_, rfl⟩
      · rw [Array.toList_modify, List.getElem?_modify]; simp [h2]
      · rw [mput_keys, if_pos (List.mem_of_getElem? h3)]; exact h3
theorem s_mestore {T : TypeId} (wk : Region.wanted o (yielded ops a.tmps) = true) (hd : o.dst = none) (hE : Env N E a) (hp : Hp Z ρ L w) {x y u : Operand} (ho : o.op = .entryStore T x y u) (i : Nat) {b : Nat} {l : List (κ × β)} {k : κ} {st : Int} {v : β} (hx : evo E x = some (.map (some b))) (hy : evo E y = some (.int .i64 st)) (hu : evo E u = some (vl v)) (hi : L[i]? = some (MapS b l k st))
    (C : ∀ w, Hp Z ρ (L.set i (MapA b (mput l k v))) w → wpList P ops Q rest a w) : wpList P ops Q (o :: rest) a w := by
  obtain ⟨es, clock, hpt, e, j, en, hj, hk, hst⟩ := (hp.get i hi).maps
  have hb := hpt.look 0 rfl
  have hlt := (List.getElem?_eq_some_iff.1 hi).1
  have hes : es[j]? = some en := by rw [← Array.getElem?_toList]; exact hj
  obtain ⟨p, hp1, ek, ev⟩ := e.at hj
  have hpk : p.1 = k := by rw [List.getElem?_map, hp1] at hk; simpa using hk
  have hmod : es.modify j (fun e => { e with val := vl v }) = es.modify j (fun e => { e with key := vl k, val := vl v }) := mod_toList hj _ _ (by rw [← hpk, ← ek])
  have hfind : es.findIdx? (fun e => (e.born : Int) == st) = some j := by
    have hlt2 := (Array.getElem?_eq_some_iff.1 hes).1
    rw [Array.findIdx?_eq_some_iff_getElem]
    refine ⟨hlt2, ?_, fun q hq => ?_⟩
    · have : es[j] = en := (Array.getElem?_eq_some_iff.1 hes).2
      simp [this, hst]
    · simp only [Bool.not_eq_true, beq_eq_false_iff_ne]
      intro h
      have hn := e.nodup
      have h1 : (es.toList.map (·.born))[q]? = (es.toList.map (·.born))[j]? := by
        rw [List.getElem?_map, List.getElem?_map, hj, Array.getElem?_toList, Array.getElem?_eq_getElem (by omega)]
        simp only [Option.map_some, Option.some.injEq]
        omega
      have h2 := (List.getElem?_inj (by simp; omega) hn).1 h1
      omega
  have hs := MapKept.heap_set (o' := .map (es.modify j fun e => { e with key := vl k, val := vl v }) clock) hb
  refine s_unit wk hd hE (w' := setBlock w b (.map (es.modify j fun e => { e with key := vl k, val := vl v }) clock)) ?_ (C _ (Hp.put i hlt ((Hp.set (w' := setBlock w b _) hpt rfl rfl rfl hs.1 hs.2).mapShut (e.turn k v hj hk))))
  simp [execOp, ho, hE.eval hx, hE.eval hy, hE.eval hu, Instr.entryStore, MapKept.run_getObj_map hb, asInt, asIntOf, hfind, hmod, MapKept.run_setObj_map _ hb, setBlock]
end
end Go.Proofs.Ytmfepkadggigpaa
