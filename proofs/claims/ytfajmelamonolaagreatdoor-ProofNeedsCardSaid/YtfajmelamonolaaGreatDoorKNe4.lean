/- Models of: assessor/proof.index, assessor/proof.normal, assessor/proof.valid, assessor/proof.without, assessor/proof.Format, assessor/proof.Parse. (Printed by w -/
import Derived.Test.YtfajmelamonolaaGreatDoorKNe3
import Derived.RangeFuncIn
import Derived.RangeFuncLeaves
import Derived.RangeFuncRecord
import Derived.RangeFuncSeq
import Derived.Test.YtfajmelamonolaaGreatDoorProg
import Derived.Shelf.SlSortCmp.InsertionK
set_option linter.unusedVariables false
set_option linter.unusedSimpArgs false
namespace Go.Proofs.YtfajmelamonolaaGreatDoor
open Go.RowKit
noncomputable def m_proof_index (p0 : Int) : Option Int :=
  if (decide (p0 < 0)) = true then
    (inK .i64 ((-2) * p0)).bind fun x1 =>
    (inK .i64 (x1 + 1)).bind fun x2 =>
    some x2
  else
    (inK .i64 (2 * p0)).bind fun x3 =>
    some x3
noncomputable def m_proof_normal_lp1 (p0 : (List Int)) (p1 : Int) (lp1_0 : Int) (lp1_1 : Int) : Option (Step (Int × Int) (Out Unit Bool)) :=
  if (decide (lp1_1 < (p0.length : Int))) = true then
    (idx p0 lp1_1).bind fun x1 =>
    if (((decide (x1 < (IntKind.wrap .i64 (0 - p1)))) || (decide (p1 < x1))) || (decide ((max x1 (IntKind.wrap .i64 (0 - x1))) ≤ lp1_0))) = true then
      some (.done (.ret false))
    else
      (inK .i64 (lp1_1 + 1)).bind fun x2 =>
      some (.next (max x1 (IntKind.wrap .i64 (0 - x1)), x2))
  else
    some (.done (.brk ()))
noncomputable def m_proof_normal (p0 : (List Int)) (p1 : Int) : Option Bool :=
  (loopM (fun s => m_proof_normal_lp1 p0 p1 s.1 s.2) (0, 0) : Option (Out Unit Bool)).bind fun b1 =>
  match b1 with
  | .brk b1s =>
    some true
  | .ret r => some r
noncomputable def m_proof_valid_lp1 (p0 : (List (List Int))) (p1 : Int) (lp1_0 : Int) (lp1_1 : Int) : Option (Step (Int × Int) (Out Unit Bool)) :=
  if (decide (lp1_1 < (p0.length : Int))) = true then
    (idx p0 lp1_1).bind fun x1 =>
    (inK .i64 (lp1_0 + (x1.length : Int))).bind fun x2 =>
    (m_proof_normal x1 p1).bind fun x3 =>
    if ((!x3) || (decide (1048576 < x2))) = true then
      some (.done (.ret false))
    else
      (inK .i64 (lp1_1 + 1)).bind fun x4 =>
      some (.next (x2, x4))
  else
    some (.done (.brk ()))
noncomputable def m_proof_valid (p0 : (List (List Int))) (p1 : Int) : Option Bool :=
  (loopM (fun s => m_proof_valid_lp1 p0 p1 s.1 s.2) (0, 0) : Option (Out Unit Bool)).bind fun b1 =>
  match b1 with
  | .brk b1s =>
    some true
  | .ret r => some r
noncomputable def m_proof_without (p0 : (List (List Int))) (p1 : Int) : Option (List (List Int)) :=
  (sub p0 0 p1).bind fun x1 =>
  (app ([] : List (List Int)) x1).bind fun x2 =>
  (inK .i64 (p1 + 1)).bind fun x3 =>
  (sub p0 x3 (p0.length : Int)).bind fun x4 =>
  (app x2 x4).bind fun x5 =>
  some x5
noncomputable def m_proof_Format_lp2 (x2 : (List Int)) (lp2_0 : Int) (lp2_1 : ByteArray) : Option (Step (Int × ByteArray) ByteArray) :=
  if (decide (lp2_0 < (x2.length : Int))) = true then
    (idx x2 lp2_0).bind fun x3 =>
    (m_itoa x3).bind fun x4 =>
    (catK x4 (ByteArray.mk #[32])).bind fun x5 =>
    (m_WStr lp2_1 x5).bind fun x6 =>
    (inK .i64 (lp2_0 + 1)).bind fun x7 =>
    some (.next (x7, x6))
  else
    some (.done lp2_1)
noncomputable def m_proof_Format_lp1 (p0 : (List (List Int))) (lp1_0 : Int) (lp1_1 : ByteArray) : Option (Step (Int × ByteArray) ByteArray) :=
  if (decide (lp1_0 < (p0.length : Int))) = true then
    (idx p0 lp1_0).bind fun x2 =>
    (loopM (fun s => m_proof_Format_lp2 x2 s.1 s.2) (0, lp1_1) : Option ByteArray).bind fun b4 =>
    (m_WStr b4 (ByteArray.mk #[48, 10])).bind fun x8 =>
    (inK .i64 (lp1_0 + 1)).bind fun x9 =>
    some (.next (x9, x8))
  else
    some (.done lp1_1)
noncomputable def m_proof_Format (p0 : (List (List Int))) : Option ByteArray :=
  (m_proof_valid p0 65536).bind fun x1 =>
  if (!x1) = true then
    some (ByteArray.mk #[])
  else
    (loopM (fun s => m_proof_Format_lp1 p0 s.1 s.2) (0, ByteArray.empty) : Option ByteArray).bind fun b2 =>
    (m_BStr b2).bind fun x10 =>
    some x10
noncomputable def m_proof_Parse_lp2 (x4 : List ByteArray) (lp2_0 : Int) (lp2_1 : (List Int)) : Option (Step (Int × (List Int)) (List Int)) :=
  if (decide (lp2_0 < (x4.length : Int))) = true then
    (idx x4 lp2_0).bind fun x5 =>
    (m_atoi x5).bind fun x6 =>
    (app lp2_1 [x6]).bind fun x7 =>
    (inK .i64 (lp2_0 + 1)).bind fun x8 =>
    some (.next (x8, x7))
  else
    some (.done lp2_1)
noncomputable def m_proof_Parse_lp1 (lp1_0 : ByteArray) (lp1_1 : (List (List Int))) : Option (Step (ByteArray × (List (List Int))) (List (List Int))) :=
  if (!decide (lp1_0 = (ByteArray.mk #[]))) = true then
    (m_cut lp1_0 (ByteArray.mk #[10])).bind fun x1 =>
    (m_split x1.1 (ByteArray.mk #[32])).bind fun x2 =>
    (inK .i64 ((x2.length : Int) - 1)).bind fun x3 =>
    (sub x2 0 x3).bind fun x4 =>
    (loopM (fun s => m_proof_Parse_lp2 x4 s.1 s.2) (0, ([] : List Int)) : Option (List Int)).bind fun b3 =>
    (app lp1_1 [b3]).bind fun x9 =>
    some (.next (x1.2.1, x9))
  else
    some (.done lp1_1)
noncomputable def m_proof_Parse (p0 : ByteArray) : Option ((List (List Int)) × Int) :=
  (loopM (fun s => m_proof_Parse_lp1  s.1 s.2) (p0, []) : Option (List (List Int))).bind fun b1 =>
  (m_proof_Format b1).bind fun x10 =>
  if (!decide (x10 = p0)) = true then
    some ([], 3)
  else
    some (b1, 0)
end Go.Proofs.YtfajmelamonolaaGreatDoor

/- Models of: slices.Equal[[]int,int], slices.Index[[]int,int], slices.Contains[[]int,int]. (Printed by wip/sp/gen.py.) -/
set_option linter.unusedVariables false
set_option linter.unusedSimpArgs false
namespace Go.Proofs.YtfajmelamonolaaGreatDoor
open Go.RowKit
noncomputable def m_slices_Equal_int_int__lp1 (p0 : (List Int)) (p1 : (List Int)) (lp1_0 : Int) : Option (Step Int (Out Unit Bool)) :=
  if (decide (lp1_0 < (p0.length : Int))) = true then
    (idx p0 lp1_0).bind fun x1 =>
    (idx p1 lp1_0).bind fun x2 =>
    if (!decide (x1 = x2)) = true then
      some (.done (.ret false))
    else
      (inK .i64 (lp1_0 + 1)).bind fun x3 =>
      some (.next x3)
  else
    some (.done (.brk ()))
noncomputable def m_slices_Equal_int_int_ (p0 : (List Int)) (p1 : (List Int)) : Option Bool :=
  if (!decide ((p0.length : Int) = (p1.length : Int))) = true then
    some false
  else
    (loopM (fun s => m_slices_Equal_int_int__lp1 p0 p1 s) 0 : Option (Out Unit Bool)).bind fun b1 =>
    match b1 with
    | .brk b1s =>
      some true
    | .ret r => some r
end Go.Proofs.YtfajmelamonolaaGreatDoor

/- A range over a function, whose rounds are told by a step: the iterator is shown once for any step, the round once for any iterator. Plain theorems over any prog -/
set_option linter.unusedVariables false
set_option linter.unusedSimpArgs false
namespace Go.Proofs.YtfajmelamonolaaGreatDoor
open Go.RowKit
def Stars : List Atom → Atom
  | [] => fun k => k = PH.emp
  | A :: l => fun k => ∃ k1 k2, A k1 ∧ Stars l k2 ∧ k1.dj k2 ∧ k = k1.un k2
theorem un_emp (ρ : PH) : ρ.un PH.emp = ρ := by funext b; unfold PH.un PH.emp; cases ρ b <;> rfl
theorem Sep.stars : ∀ (l : List Atom) {L : List Atom} {ρ h : PH}, Sep ρ (Stars l :: L) h ↔ Sep ρ (l ++ L) h
  | [], L, ρ, h => ⟨fun ⟨k, e, _, s⟩ => by
      have e : k = PH.emp := e
      rw [e, un_emp] at s; exact s, fun s => ⟨PH.emp, rfl, PH.dj_emp _, by rw [un_emp]; exact s⟩⟩
  | A :: l, L, ρ, h => ⟨fun ⟨k, ⟨k1, k2, a, b, d, e⟩, d', s⟩ => by
      subst e
      have d1 := PH.dj_un.1 d'.symm
      exact ⟨k1, a, d1.1.symm, (Sep.stars l).1 ⟨k2, b, PH.dj_un.2 ⟨d1.2.symm, d⟩, by rw [PH.un_assoc]; exact s⟩⟩,
    fun ⟨k1, a, d1, s⟩ => by
      obtain ⟨k2, b, d2, s⟩ := (Sep.stars l).2 s
      have d3 := PH.dj_un.1 d2
      exact ⟨k1.un k2, ⟨k1, k2, a, b, d3.2, rfl⟩, (PH.dj_un.2 ⟨d1.symm, d3.1.symm⟩).symm, by rw [← PH.un_assoc]; exact s⟩⟩
section
variable {Z : World} {ρ : PH} {L : List Atom} {w : World}
theorem Hp.stars {l : List Atom} (h : Hp Z ρ (l ++ L) w) : Hp Z ρ (Stars l :: L) w := h.to (Sep.stars l).2
theorem Hp.unstar {l : List Atom} (h : Hp Z ρ (Stars l :: L) w) : Hp Z ρ (l ++ L) w := h.to (Sep.stars l).1
end
def Step.more {σ ε : Type} : Step σ ε → Bool
  | .next _ => true
  | .done _ => false
def yieldM {α σ ε : Type} (f : α → σ → Option (Step σ ε)) (x : α) : Step σ ε → Option (Step σ ε)
  | .next s => f x s
  | .done _ => none
theorem yieldM_some {α σ ε : Type} {f : α → σ → Option (Step σ ε)} {x : α} {S t : Step σ ε} (h : yieldM f x S = some t) : ∃ s, S = .next s ∧ f x s = some t := by
  cases S with
  | next s => exact ⟨s, rfl, h⟩
  | done r => cases h
abbrev YieldOk {α σ ε : Type} (P : Program) (Z : World) (ρ : PH) (l : Nat) (vs : α → List Value) (f : α → σ → Option (Step σ ε)) (Y : Step σ ε → Atom) : Prop :=
  ∀ (x : α) (s : σ) (st : Step σ ε) (L : List Atom) (W : World), f x s = some st → Hp Z ρ (Y (.next s) :: L) W → YieldAt Fence.wide 0 P l (vs x).toArray W (Ret fun v W' => v = .bool st.more ∧ Hp Z ρ (Y st :: L) W')
theorem YieldOk.at {α σ ε : Type} {P : Program} {Z : World} {ρ : PH} {l : Nat} {vs : α → List Value} {f : α → σ → Option (Step σ ε)} {Y : Step σ ε → Atom} (h : YieldOk P Z ρ l vs f Y) {x : α} {S t : Step σ ε} (hy : yieldM f x S = some t) {L : List Atom} {W : World} (hp : Hp Z ρ (Y S :: L) W) :
    YieldAt Fence.wide 0 P l (vs x).toArray W (Ret fun v W' => v = .bool t.more ∧ Hp Z ρ (Y t :: L) W') := by
  obtain ⟨s, rfl, hf⟩ := yieldM_some hy
  exact h x s t L W hf hp
section
variable {R : Option Nat} {P : Program} {ops : Array Oper} {Q : Exit → Act → World → Prop} {rest : List Oper} {o : Oper} {a : Act} {w : World} {Df : List Deferred} {N : Nat} {E : Ent} {d : Nat} {cs : List Code}
theorem k_regionY {id : Nat} {l : List Oper} (h : wpListIn (fR R) 0 P l.toArray (fun e a w => match e with | .normal => wpK R P Q cs a w | e => Q e a w) l a w) : wpK R P Q (.region id l.toArray false :: cs) a w := by
  have e : (fun e a w => match e with | .normal => wpK R P Q cs a w | e => Q e a w) = Exit.then (wpK R P Q cs) Q := by
    funext e a w; cases e <;> rfl
  rw [e] at h
  exact wpIn_region_lit h
theorem y_val {C : World → Prop} (wk : Region.wanted o (yielded ops a.tmps) = true) (hd : o.dst = some d) (hN : Nat.blt d N = true) (hE : EnvD Df N E a) (hC : C w) {v : Value} (hx : Ex P C a o v) (K : ∀ a, EnvD Df N ((d, v) :: E) a → wpListIn (fR R) 0 P ops Q rest a w) : wpListIn (fR R) 0 P ops Q (o :: rest) a w := by
  unfold wpListIn
  rw [if_pos wk]
  refine ⟨fun f _ => fR_fn R f, ?_⟩
  rw [Oper.semAt_eq _ _ _ (nd_of (hx w hC) (fun d h => by cases h)), hx w hC]
  show wpListIn _ _ _ _ _ _ (a.put o.dst v) _
  rw [hd]
  exact K _ (hE.put hN v)
theorem y_skip (wk : Region.wanted o (yielded ops a.tmps) = false) (hd : o.dst = some d) (hN : Nat.blt d N = true) (hE : EnvD Df N E a) (K : ∀ a, EnvD Df N ((d, undef) :: E) a → wpListIn (fR R) 0 P ops Q rest a w) : wpListIn (fR R) 0 P ops Q (o :: rest) a w := by
  unfold wpListIn
  rw [if_neg (by rw [wk]; decide)]
  exact ⟨fun f _ => fR_fn R f, by rw [hd]; exact K _ (hE.put hN undef)⟩
theorem y_nil (h : Q .normal a w) : wpListIn (fR R) 0 P ops Q [] a w := h
theorem yieldAt_in {l n : Nat} {args : Array Value} {W : World} {T : Ending → World → Prop} (h : YieldAt Fence.wide n P l args W T) : ∃ fn tmps assign body, (Instr.yield l args).run P W = .ok (.round l fn tmps assign body) W ∧ RoundIn (fR R) n P l fn tmps assign body W T := by
  obtain ⟨fn, tmps, assign, body, h1, h2⟩ := h
  refine ⟨fn, tmps, assign, body, h1, ?_⟩
  cases R <;> exact h2
theorem y_yield {l : Nat} (wk : Region.wanted o (yielded ops a.tmps) = true) (hd : o.dst = some d) (hN : Nat.blt d N = true) (hE : EnvD Df N E a) {x : Operand} {xs : List Operand} {ts : Array TypeId} (ho : o.op = .call { callee := .value x, args := xs.toArray, argTypes := ts })
    (hf : evo E x = some (.func (.yield l) #[] #[])) (vs : List Value) (hx : evA E xs vs) {T : Value → World → Prop} (hY : YieldAt Fence.wide 0 P l vs.toArray w (Ret T)) (K : ∀ v a w, T v w → EnvD Df N ((d, v) :: E) a → wpListIn (fR R) 0 P ops Q rest a w) : wpListIn (fR R) 0 P ops Q (o :: rest) a w := by
  obtain ⟨fn, tmps, assign, body, hy, hR⟩ := yieldAt_in (R := R) hY
  have hxs : xs.toArray.map a.eval = vs.toArray := by rw [List.map_toArray, evA_map hE hx]
  have hex : (execOp a.eval o).run P w = .ok (.round l fn tmps assign body) w := by
    simp only [execOp, ho, resolve, hE.eval hf, hxs, Deferred.ofValue, invoke, Sem.run_bind, Sem.run_pure, Result.andThen_ok]
    simp [hy]
  unfold wpListIn
  rw [if_pos wk]
  refine ⟨fun f _ => fR_fn R f, ?_⟩
  rw [Oper.semAt_eq _ _ _ (nd_of hex (fun d h => by cases h)), hex, Oper.uponIn_round]
  refine ⟨fR_depth R, hR.mono fun e w' he => ?_⟩
  obtain ⟨v, rfl, hr⟩ := he
  rw [hd]
  exact K v _ w' hr (hE.put hN v)
end
def putAll : Ent → List (Nat × Value) → Ent
  | E, [] => E
  | E, p :: r => putAll (p :: E) r
theorem env_round {N : Nat} {Df : List Deferred} : ∀ (l : List (Nat × Value)) {E : Ent} {t : Array Value}, (∀ p ∈ l, Nat.blt p.1 N = true) → EnvD Df N E ⟨t, Df⟩ → EnvD Df N (putAll E l) ⟨l.foldl (fun t p => t.setIfInBounds p.1 p.2) t, Df⟩
  | [], E, t, _, h => h
  | p :: r, E, t, hb, h => by
    have := h.put (hb p (List.mem_cons_self ..)) p.2
    exact env_round r (E := p :: E) (t := t.setIfInBounds p.1 p.2) (fun q hq => hb q (List.mem_cons_of_mem _ hq)) this
def markOf (dd : Nat) : Deferred := { target := .collected dd, args := #[] }
section
variable {P : Program} {Q : Exit → Act → World → Prop} {a : Act} {w : World} {N : Nat} {E : Ent} {cs : List Code} {Z : World} {ρ : PH} {L : List Atom}
theorem enterM {f : FuncId} {fn : Func} {c : Code} {args : Array Value} {R : Ending → World → Prop} (hf : P.funcs[f]? = some fn) (hb : fn.body = some c) (hN : fn.ntmps = N) (E : Ent) (h1 : Nat.ble args.size N = true) (hE : ∀ p ∈ E, args[p.1]? = some p.2)
    (h : ∀ a, Env N E a → wpK none P (bodyPostM Fence.wide 0 P fn R) [c] a w) : Calls P f args w R :=
  (callsIn_wide (n := 0)).1 (callsIn_of_wp_marks hf hb trivial (by rw [hN]; exact k_one (h _ (Env.start N args E (by simpa using h1) hE))) rfl)
theorem retM0 {fn : Func} {R : Ending → World → Prop} {e : Exit} (he : e = .ret ∨ e = .normal) (hE : Env N E a) (hp : Hp Z ρ L w) (h : ∀ a w, Env N E a → Hp Z ρ L w → bodyPost P fn R .ret a w) : bodyPostM Fence.wide 0 P fn R e a w := by
  obtain ⟨v, hv⟩ := (h a w hE hp).2
  rcases he with rfl | rfl <;>
  · show LeavesInM _ _ _ _ _ _ _ _ _
    rw [hE.defers]
    exact ⟨v, hv⟩
theorem retM {fn : Func} {R : Ending → World → Prop} {e : Exit} (he : e = .ret ∨ e = .normal) {dd : Nat} (hE : EnvD [markOf dd] N E a) (hp : Hp Z ρ (Pt dd (.deferred (some [])) :: L) w) (h : ∀ a w, Env N E a → Hp Z ρ L w → bodyPost P fn R .ret a w) : bodyPostM Fence.wide 0 P fn R e a w := by
  have hl := hp.look 0 rfl
  have hlt := (Array.getElem?_eq_some_iff.1 hl).1
  have hq := Hp.set (w' := World.putObj w dd (.deferred none)) hp rfl rfl rfl (World.putObj_heap_same hlt) (fun k hk => World.putObj_heap_other hk)
  have hE' : Env N E ⟨a.tmps, []⟩ := ⟨hE.size, rfl, hE.val⟩
  obtain ⟨v, hv⟩ := (h _ _ hE' hq.drop).2
  rcases he with rfl | rfl <;>
  · show LeavesInM _ _ _ _ _ _ _ _ _
    rw [hE.defers]
    refine ⟨by simp, .inl ⟨dd, _, rfl, run_takeDeferred hl, ?_⟩⟩
    exact ⟨v, hv⟩
def recOf (fn dd : Nat) (tmps : Array Value) (ps : Array Tmp) (assign body : Code) : Loop := { state := .ready, pending := none, fn := fn, tmps := tmps, params := ps, assign := assign, body := body, defers := dd }
def LoopAt {σ ε : Type} (J : σ → Atom) (K : ε → Atom) (l dd : Nat) (rec : Loop) : Step σ ε → Atom
  | .next s => Stars [J s, Pt l (.loop rec), Pt dd (.deferred (some []))]
  | .done r => Stars [K r, Pt l (.loop { rec with state := .done, pending := some .ret }), Pt dd (.deferred (some []))]
theorem round_of {σ ε α : Type} {J : σ → Atom} {K : ε → Atom} {l dd fn : Nat} {t0 : Array Value} {ps : Array Tmp} {assign body : Code} {E2 : α → Ent} (hE : Env N E ⟨t0, []⟩) (vs : α → List Value) {f : α → σ → Option (Step σ ε)}
    (hps : ∀ x, (vs x).length = ps.size) (hpN : ∀ p ∈ ps, Nat.blt p N = true)
    (ha : ∀ (x : α) (a : Act) (L : List Atom) (w : World), Env N (putAll E (ps.toList.zip (vs x))) a → Hp Z ρ L w → wpK (some l) P (fun e a w => match e with | .normal => Env N (E2 x ++ putAll E (ps.toList.zip (vs x))) a ∧ Hp Z ρ L w | _ => False) [assign] a w)
    (hb : ∀ (x : α) (s : σ) (st : Step σ ε) (a : Act) (L : List Atom) (w : World), f x s = some st → Env N (E2 x ++ putAll E (ps.toList.zip (vs x))) a → Hp Z ρ (J s :: L) w → wpK (some l) P (fun e a w => match e with | .normal => ∃ s', st = .next s' ∧ Hp Z ρ (J s' :: L) w | .ret => ∃ r, st = .done r ∧ Hp Z ρ (K r :: L) w | _ => False) [body] a w)
    (x : α) (s : σ) (st : Step σ ε) (L : List Atom) (W : World) (hs : f x s = some st) (hp : Hp Z ρ (LoopAt J K l dd (recOf fn dd t0 ps assign body) (.next s) :: L) W) :
    YieldAt Fence.wide 0 P l (vs x).toArray W (Ret fun v W' => v = .bool st.more ∧ Hp Z ρ (LoopAt J K l dd (recOf fn dd t0 ps assign body) st :: L) W') := by
  have hp1 : Hp Z ρ (J s :: Pt l (.loop (recOf fn dd t0 ps assign body)) :: Pt dd (.deferred (some [])) :: L) W := hp.unstar
  have hl := hp1.look 1 rfl
  have hy := run_yield (P := P) (args := (vs x).toArray) hl (by simpa [recOf] using hps x)
  refine ⟨fn, _, _, _, hy, roundIn_of_wpIn trivial ?_⟩
  have hE1 := env_round (ps.toList.zip (vs x)) (fun p hp => hpN p.1 (by simpa using (List.of_mem_zip hp).1)) hE
  have e1 : (ps.toList.zip (vs x)).foldl (fun t p => t.setIfInBounds p.1 p.2) t0 = (ps.zip (vs x).toArray).foldl (fun tmps (p : Tmp × Value) => tmps.setIfInBounds p.1 p.2) t0 := by
    obtain ⟨q⟩ := ps
    simp
  rw [e1] at hE1
  have h1 := k_one (ha x _ _ _ hE1 hp1)
  refine wpIn_mono h1 fun e a2 w2 q => ?_
  cases e with
  | normal =>
    obtain ⟨hE2, hp2⟩ := q
    have hl2 := hp2.look 1 rfl
    have hlt := (Array.getElem?_eq_some_iff.1 hl2).1
    refine ⟨_, run_beginRound hl2 rfl, ?_⟩
    have hp3 : Hp Z ρ (Pt l (.loop { recOf fn dd t0 ps assign body with state := .busy }) :: J s :: Pt dd (.deferred (some [])) :: L) (w2.putObj l (.loop { recOf fn dd t0 ps assign body with state := .busy })) :=
      Hp.set (w' := World.putObj _ _ _) (hp2.get 1 rfl) rfl rfl rfl (World.putObj_heap_same hlt) (fun k hk => World.putObj_heap_other hk)
    have hp3 := hp3.get 1 rfl
    refine wpIn_mono (k_one (hb x s st a2 _ _ hs hE2 hp3)) fun e a4 w4 q => ?_
    cases e with
    | normal =>
      obtain ⟨s', rfl, hq⟩ := q
      have hl4 := hq.look 1 rfl
      have hlt4 := (Array.getElem?_eq_some_iff.1 hl4).1
      have h5 := Hp.set (w' := World.putObj w4 l (.loop (recOf fn dd t0 ps assign body))) (hq.get 1 rfl) rfl rfl rfl (World.putObj_heap_same hlt4) (fun k hk => World.putObj_heap_other hk)
      exact ⟨_, _, run_endRound none hl4, _, rfl, rfl, Hp.stars (l := [J s', _, _]) (h5.get 1 rfl)⟩
    | ret =>
      obtain ⟨r, rfl, hq⟩ := q
      have hl4 := hq.look 1 rfl
      have hlt4 := (Array.getElem?_eq_some_iff.1 hl4).1
      have h5 := Hp.set (w' := World.putObj w4 l (.loop { recOf fn dd t0 ps assign body with state := .done, pending := some .ret })) (hq.get 1 rfl) rfl rfl rfl (World.putObj_heap_same hlt4) (fun k hk => World.putObj_heap_other hk)
      exact ⟨_, _, run_endRound (some .ret) hl4, _, rfl, rfl, Hp.stars (l := [K r, _, _]) (h5.get 1 rfl)⟩
    | exit i => exact q.elim
    | goto t => exact q.elim
    | panic c => exact q.elim
    | outgrown => exact q.elim
  | exit i => exact q.elim
  | goto t => exact q.elim
  | ret => exact q.elim
  | panic c => exact q.elim
  | outgrown => exact q.elim
theorem k_rangeF {σ ε α : Type} {g : Operand} {ps : Array Tmp} {assign body : Code} {gf : FuncId} {lb : List Value} {s0 : σ} {b : Step σ ε} {L L' : List Atom} {E2 : α → Ent} (J : σ → Atom) (K : ε → Atom) (vs : α → List Value) (f : α → σ → Option (Step σ ε))
    (hE : Env N E a) (hg : evo E g = some (.func (.func gf) #[] lb.toArray)) (eg : ∀ args w, (callFunc gf args).run P w = .ok (.enter gf args) w) (hp : Hp Z ρ (J s0 :: L) w)
    (hps : ∀ x, (vs x).length = ps.size) (hpN : ∀ p ∈ ps, Nat.blt p N = true)
    (hc : ∀ (l : Nat) (Y : Step σ ε → Atom) (w : World), YieldOk P Z ρ l vs f Y →
      Hp Z ρ (Y (.next s0) :: L) w → Calls P gf (#[.func (.yield l) #[] #[]] ++ lb.toArray) w (Ret fun _ W' => Hp Z ρ (Y b :: L') W'))
    (ha : ∀ (l : Nat) (x : α) (a : Act) (L : List Atom) (w : World), Env N (putAll E (ps.toList.zip (vs x))) a → Hp Z ρ L w → wpK (some l) P (fun e a w => match e with | .normal => Env N (E2 x ++ putAll E (ps.toList.zip (vs x))) a ∧ Hp Z ρ L w | _ => False) [assign] a w)
    (hb : ∀ (l : Nat) (x : α) (s : σ) (st : Step σ ε) (a : Act) (L : List Atom) (w : World), f x s = some st → Env N (E2 x ++ putAll E (ps.toList.zip (vs x))) a → Hp Z ρ (J s :: L) w → wpK (some l) P (fun e a w => match e with | .normal => ∃ s', st = .next s' ∧ Hp Z ρ (J s' :: L) w | .ret => ∃ r, st = .done r ∧ Hp Z ρ (K r :: L) w | _ => False) [body] a w)
    (hn : ∀ s, b = .next s → ∀ dd a w, EnvD [markOf dd] N E a → Hp Z ρ (J s :: Pt dd (.deferred (some [])) :: L') w → wpK none P Q cs a w)
    (hr : ∀ r, b = .done r → ∀ dd a w, EnvD [markOf dd] N E a → Hp Z ρ (K r :: Pt dd (.deferred (some [])) :: L') w → Q .ret a w) : wpK none P Q (.rangeFunc g ps assign body :: cs) a w := by
  show (Code.rangeFunc g ps assign body).wpIn Fence.wide 0 P (Exit.then (wpK none P Q cs) Q) a w
  refine wpIn_rangeFunc fun fn _ => ?_
  obtain ⟨rec, hrec⟩ : ∃ rec : Loop, rec = recOf fn w.heap.size a.tmps ps assign body := ⟨_, rfl⟩
  obtain ⟨W1, hW1⟩ : ∃ W1, (w.alloc (.deferred (some []))).alloc (.loop rec) = W1 := ⟨_, rfl⟩
  have hp1 : Hp Z ρ (Pt (w.heap.size + 1) (.loop rec) :: Pt w.heap.size (.deferred (some [])) :: J s0 :: L) W1 := by
    have := (hp.alloc (.deferred (some []))).alloc (.loop rec)
    rwa [World.size_alloc, hW1] at this
  have hE0 : Env N E ⟨a.tmps, []⟩ := ⟨hE.size, rfl, hE.val⟩
  have hp2 : Hp Z ρ (LoopAt (ε := ε) J K (w.heap.size + 1) w.heap.size rec (.next s0) :: L) W1 := Hp.stars (l := [J s0, _, _]) (hp1.get 2 rfl)
  refine ⟨w.heap.size + 1, [{ target := .collected w.heap.size, args := #[] }], W1, { target := .fn (.func gf) lb.toArray, args := #[.func (.yield (w.heap.size + 1)) #[] #[]] }, W1, gf, #[.func (.yield (w.heap.size + 1)) #[] #[]] ++ lb.toArray, W1, ?_, ?_, ?_, ?_, ?_, ?_⟩
  · rw [← hW1, hrec]; exact run_enterLoop_outer _ _ _ _ _
  · simp only [resolve, hE.eval hg]
    simp [go_sem]
  · exact fun _ _ => trivial
  · simp [invoke, go_sem, eg]
  · intro h; simp [Fence.wide] at h
  · refine callsIn_wide.2 (Calls.mono (hc (w.heap.size + 1) (LoopAt J K (w.heap.size + 1) w.heap.size rec) W1 (fun x s st L W hs h => by
      rw [hrec] at h ⊢
      exact round_of hE0 vs hps hpN (ha _) (hb _) x s st L W hs h) hp2) fun e W' he => ?_)
    obtain ⟨v, rfl, hp'⟩ := he
    have hE' : EnvD [markOf w.heap.size] N E { a with defers := [{ target := .collected w.heap.size, args := #[] }] ++ a.defers } := ⟨hE.size, by simp [hE.defers, markOf], hE.val⟩
    cases b with
    | next s =>
      have hp' : Hp Z ρ (J s :: Pt (w.heap.size + 1) (.loop rec) :: Pt w.heap.size (.deferred (some [])) :: L') W' := hp'.unstar
      have hl := hp'.look 1 rfl
      have hlt := (Array.getElem?_eq_some_iff.1 hl).1
      have hrun := run_endLoop (P := P) hl (by rw [hrec]; simp [recOf])
      rw [show rec.pending = none by rw [hrec]; rfl] at hrun
      refine ⟨none, _, hrun, ?_⟩
      exact hn s rfl _ _ _ hE' (Hp.set (w' := World.putObj _ _ _) (hp'.get 1 rfl) rfl rfl rfl (World.putObj_heap_same hlt) (fun k hk => World.putObj_heap_other hk)).drop
    | done r =>
      have hp' : Hp Z ρ (K r :: Pt (w.heap.size + 1) (.loop { rec with state := .done, pending := some .ret }) :: Pt w.heap.size (.deferred (some [])) :: L') W' := hp'.unstar
      have hl := hp'.look 1 rfl
      have hlt := (Array.getElem?_eq_some_iff.1 hl).1
      have hrun := run_endLoop (P := P) hl (by simp)
      refine ⟨some .ret, _, hrun, ?_⟩
      exact wpIn_ret (hr r rfl _ _ _ hE' (Hp.set (w' := World.putObj _ _ _) (hp'.get 1 rfl) rfl rfl rfl (World.putObj_heap_same hlt) (fun k hk => World.putObj_heap_other hk)).drop)
end
end Go.Proofs.YtfajmelamonolaaGreatDoor

/- Models of: (*assessor/proof.engine).of, (*assessor/proof.engine).hold, (*assessor/proof.engine).propagate, (*assessor/proof.engine).add, (*assessor/proof.engine -/
set_option linter.unusedVariables false
set_option linter.unusedSimpArgs false
namespace Go.Proofs.YtfajmelamonolaaGreatDoor
open Go.RowKit
noncomputable def m_proof_engine_of (p0 : PEng) (p1 : Int) : Option Int :=
  (inK .i64 (0 - p1)).bind fun x1 =>
  (idx p0.value (max p1 x1)).bind fun x2 =>
  if (decide (x2 = 0)) = true then
    some 0
  else
    if (decide (x2 = p1)) = true then
      some 1
    else
      some (-1)
noncomputable def m_proof_engine_hold (p0 : PEng) (p1 : Int) : Option PEng :=
  (inK .i64 (0 - p1)).bind fun x1 =>
  (idx p0.value (max p1 x1)).bind fun x2 =>
  (app p0.trail [p1]).bind fun x3 =>
  some (PEng.mk (p0.value.set (max p1 x1).toNat p1) x3 p0.head p0.watches p0.fails)
noncomputable def m_proof_engine_propagate_lp3 (lp2_2 : (List (List Nat) × List (List Int))) (lp2_3 : Int) (lp2_4 : Bool) (lp2_5 : (List Int)) (lp2_6 : (List Int)) (j1 : (List Int)) (lp3_0 : Int) : Option (Step Int Int) :=
  ((if (decide (lp3_0 < (j1.length : Int))) = true then
    (idx j1 lp3_0).bind fun x13 =>
    (m_proof_engine_of (PEng.mk lp2_5 lp2_6 lp2_3 lp2_2 lp2_4) x13).bind fun x14 =>
    some (decide (x14 < 0))
  else
    some false) : Option Bool).bind fun m1 =>
  if m1 = true then
    (inK .i64 (lp3_0 + 1)).bind fun x15 =>
    some (.next x15)
  else
    some (.done lp3_0)
noncomputable def m_proof_engine_propagate_lp2 (x2 : Int) (x4 : Int) (x5 : List Nat) (lp2_0 : Int) (lp2_1 : (List Nat)) (lp2_2 : (List (List Nat) × List (List Int))) (lp2_3 : Int) (lp2_4 : Bool) (lp2_5 : (List Int)) (lp2_6 : (List Int)) : Option (Step (Int × (List Nat) × (List (List Nat) × List (List Int)) × Int × Bool × (List Int) × (List Int)) (Out ((List Nat) × (List (List Nat) × List (List Int)) × Int × Bool × (List Int) × (List Int)) (Bool × PEng))) :=
  if (decide (lp2_0 < (x5.length : Int))) = true then
    (idx x5 lp2_0).bind fun x6 =>
    (lp2_2.2[x6]?).bind fun x7 =>
    (idx x7 0).bind fun x8 =>
    ((if (decide (x8 = x2)) = true then
      (idx x7 1).bind fun x9 =>
      (idx x7 0).bind fun x10 =>
      (idx x7 0).bind fun x11 =>
      (idx (x7.set (0 : Int).toNat x9) 1).bind fun x12 =>
      some ((x7.set (0 : Int).toNat x9).set (1 : Int).toNat x10)
    else
      some x7) : Option (List Int)).bind fun j1 =>
    (loopM (fun s => m_proof_engine_propagate_lp3 lp2_2 lp2_3 lp2_4 lp2_5 lp2_6 j1 s) 2 : Option Int).bind fun b16 =>
    (idx j1 0).bind fun x16 =>
    (m_proof_engine_of (PEng.mk lp2_5 lp2_6 lp2_3 lp2_2 lp2_4) x16).bind fun x17 =>
    if (decide (0 < x17)) = true then
      (app lp2_1 [x6]).bind fun x18 =>
      (inK .i64 (lp2_0 + 1)).bind fun x19 =>
      some (.next (x19, x18, (lp2_2.1, lp2_2.2.set x6 j1), lp2_3, lp2_4, lp2_5, lp2_6))
    else
      if (decide (b16 < (j1.length : Int))) = true then
        (idx j1 b16).bind fun x20 =>
        (idx j1 1).bind fun x21 =>
        (idx j1 1).bind fun x22 =>
        (idx (j1.set (1 : Int).toNat x20) b16).bind fun x23 =>
        (idx ((j1.set (1 : Int).toNat x20).set b16.toNat x21) 1).bind fun x24 =>
        (m_proof_index x24).bind fun x25 =>
        (idx ((j1.set (1 : Int).toNat x20).set b16.toNat x21) 1).bind fun x26 =>
        (m_proof_index x26).bind fun x27 =>
        (idx lp2_2.1 x27).bind fun x28 =>
        (guardNe x27 x4).bind fun x29 =>
        (app x28 [x6]).bind fun x30 =>
        (guardEq x25 x27).bind fun x31 =>
        (inK .i64 (lp2_0 + 1)).bind fun x32 =>
        some (.next (x32, lp2_1, ((lp2_2.1.set x27.toNat x30, lp2_2.2).1, (lp2_2.1.set x27.toNat x30, lp2_2.2).2.set x6 ((j1.set (1 : Int).toNat x20).set b16.toNat x21)), lp2_3, lp2_4, lp2_5, lp2_6))
      else
        (idx j1 0).bind fun x33 =>
        (m_proof_engine_of (PEng.mk lp2_5 lp2_6 lp2_3 lp2_2 lp2_4) x33).bind fun x34 =>
        if (decide (x34 < 0)) = true then
          (m_proof_index x2).bind fun x35 =>
          (sub x5 lp2_0 (x5.length : Int)).bind fun x36 =>
          (app lp2_1 x36).bind fun x37 =>
          (idx lp2_2.1 x35).bind fun x38 =>
          (guardEq x35 x4).bind fun x39 =>
          some (.done (.ret (false, (PEng.mk lp2_5 lp2_6 lp2_3 ((lp2_2.1.set x4.toNat x37, lp2_2.2).1, (lp2_2.1.set x4.toNat x37, lp2_2.2).2.set x6 j1) lp2_4))))
        else
          (app lp2_1 [x6]).bind fun x40 =>
          (idx j1 0).bind fun x41 =>
          (m_proof_engine_hold (PEng.mk lp2_5 lp2_6 lp2_3 lp2_2 lp2_4) x41).bind fun x42 =>
          (inK .i64 (lp2_0 + 1)).bind fun x43 =>
          some (.next (x43, x40, (lp2_2.1, lp2_2.2.set x6 j1), x42.head, x42.fails, x42.value, x42.trail))
  else
    some (.done (.brk (lp2_1, lp2_2, lp2_3, lp2_4, lp2_5, lp2_6)))
noncomputable def m_proof_engine_propagate_lp1 (lp1_0 : Int) (lp1_1 : Bool) (lp1_2 : (List Int)) (lp1_3 : (List Int)) (lp1_4 : (List (List Nat) × List (List Int))) : Option (Step (Int × Bool × (List Int) × (List Int) × (List (List Nat) × List (List Int))) (Out (Int × Bool × (List Int) × (List Int) × (List (List Nat) × List (List Int))) (Bool × PEng))) :=
  if (decide (lp1_0 < (lp1_3.length : Int))) = true then
    (idx lp1_3 lp1_0).bind fun x1 =>
    (inK .i64 (0 - x1)).bind fun x2 =>
    (inK .i64 (lp1_0 + 1)).bind fun x3 =>
    (m_proof_index x2).bind fun x4 =>
    (idx lp1_4.1 x4).bind fun x5 =>
    (loopM (fun s => m_proof_engine_propagate_lp2 x2 x4 x5 s.1 s.2.1 s.2.2.1 s.2.2.2.1 s.2.2.2.2.1 s.2.2.2.2.2.1 s.2.2.2.2.2.2) (0, [], lp1_4, x3, lp1_1, lp1_2, lp1_3) : Option (Out ((List Nat) × (List (List Nat) × List (List Int)) × Int × Bool × (List Int) × (List Int)) (Bool × PEng))).bind fun b4 =>
    match b4 with
    | .brk b4s =>
      (m_proof_index x2).bind fun x44 =>
      (idx b4s.2.1.1 x44).bind fun x45 =>
      (guardEq x44 x4).bind fun x46 =>
      some (.next (b4s.2.2.1, b4s.2.2.2.1, b4s.2.2.2.2.1, b4s.2.2.2.2.2, (b4s.2.1.1.set x4.toNat b4s.1, b4s.2.1.2)))
    | .ret r => some (.done (.ret r))
  else
    some (.done (.brk (lp1_0, lp1_1, lp1_2, lp1_3, lp1_4)))
noncomputable def m_proof_engine_propagate (p0 : PEng) : Option (Bool × PEng) :=
  (loopM (fun s => m_proof_engine_propagate_lp1  s.1 s.2.1 s.2.2.1 s.2.2.2.1 s.2.2.2.2) (p0.head, p0.fails, p0.value, p0.trail, p0.watches) : Option (Out (Int × Bool × (List Int) × (List Int) × (List (List Nat) × List (List Int))) (Bool × PEng))).bind fun b1 =>
  match b1 with
  | .brk b1s =>
    some (true, (PEng.mk b1s.2.2.1 b1s.2.2.2.1 b1s.1 b1s.2.2.2.2 b1s.2.1))
  | .ret r => some r
noncomputable def m_proof_engine_add_lp1 (p0 : PEng) (p1 : (List Int)) (lp1_0 : Int) (lp1_1 : (List Int)) : Option (Step (Int × (List Int)) (Out (List Int) PEng)) :=
  if (decide (lp1_0 < (p1.length : Int))) = true then
    (idx p1 lp1_0).bind fun x1 =>
    (m_proof_engine_of p0 x1).bind fun x2 =>
    if (decide (x2 = 1)) = true then
      some (.done (.ret p0))
    else
      if (decide (x2 = 0)) = true then
        (app lp1_1 [x1]).bind fun x3 =>
        (inK .i64 (lp1_0 + 1)).bind fun x4 =>
        some (.next (x4, x3))
      else
        (inK .i64 (lp1_0 + 1)).bind fun x5 =>
        some (.next (x5, lp1_1))
  else
    some (.done (.brk lp1_1))
noncomputable def m_proof_engine_add_lp2 (p0 : PEng) (x10 : List Int) (lp2_0 : Int) (lp2_1 : (List (List Nat) × List (List Int))) : Option (Step (Int × (List (List Nat) × List (List Int))) (List (List Nat) × List (List Int))) :=
  if (decide (lp2_0 < (x10.length : Int))) = true then
    (idx x10 lp2_0).bind fun x11 =>
    (m_proof_index x11).bind fun x12 =>
    (m_proof_index x11).bind fun x13 =>
    (idx lp2_1.1 x13).bind fun x14 =>
    (app x14 [(p0.watches).2.length]).bind fun x15 =>
    (guardEq x12 x13).bind fun x16 =>
    (inK .i64 (lp2_0 + 1)).bind fun x17 =>
    some (.next (x17, (lp2_1.1.set x13.toNat x15, lp2_1.2)))
  else
    some (.done lp2_1)
noncomputable def m_proof_engine_add (p0 : PEng) (p1 : (List Int)) : Option PEng :=
  if p0.fails = true then
    some p0
  else
    (loopM (fun s => m_proof_engine_add_lp1 p0 p1 s.1 s.2) (0, []) : Option (Out (List Int) PEng)).bind fun b1 =>
    match b1 with
    | .brk b1s =>
      if (decide ((b1s.length : Int) = 0)) = true then
        some (PEng.mk p0.value p0.trail p0.head p0.watches true)
      else
        if (decide ((b1s.length : Int) = 1)) = true then
          (idx b1s 0).bind fun x6 =>
          (m_proof_engine_hold p0 x6).bind fun x7 =>
          (m_proof_engine_propagate (PEng.mk x7.value x7.trail x7.head p0.watches x7.fails)).bind fun x8 =>
          some (PEng.mk x8.2.value x8.2.trail x8.2.head x8.2.watches (!x8.1))
        else
          (arPut p0.watches.2 p0.watches.1 b1s).bind fun x9 =>
          (sub b1s 0 2).bind fun x10 =>
          (loopM (fun s => m_proof_engine_add_lp2 p0 x10 s.1 s.2) (0, (p0.watches.1, x9)) : Option (List (List Nat) × List (List Int))).bind fun b5 =>
          some (PEng.mk p0.value p0.trail p0.head (b5.1, b5.2.set ((p0.watches).2.length) b1s) p0.fails)
    | .ret r => some r
noncomputable def m_proof_engine_follows_lp1 (p0 : PEng) (p1 : (List Int)) (lp1_0 : Bool) (lp1_1 : Int) (lp1_2 : Int) (lp1_3 : Bool) (lp1_4 : (List Int)) (lp1_5 : (List Int)) : Option (Step (Bool × Int × Int × Bool × (List Int) × (List Int)) (Bool × Int × Bool × (List Int) × (List Int))) :=
  if (decide (lp1_1 < (p1.length : Int))) = true then
    (idx p1 lp1_1).bind fun x1 =>
    (m_proof_engine_of (PEng.mk lp1_4 lp1_5 lp1_2 p0.watches lp1_3) x1).bind fun x2 =>
    if (decide (0 < x2)) = true then
      some (.done (false, lp1_2, lp1_3, lp1_4, lp1_5))
    else
      (m_proof_engine_of (PEng.mk lp1_4 lp1_5 lp1_2 p0.watches lp1_3) x1).bind fun x3 =>
      if (decide (x3 = 0)) = true then
        (inK .i64 (0 - x1)).bind fun x4 =>
        (m_proof_engine_hold (PEng.mk lp1_4 lp1_5 lp1_2 p0.watches lp1_3) x4).bind fun x5 =>
        (inK .i64 (lp1_1 + 1)).bind fun x6 =>
        some (.next (lp1_0, x6, x5.head, x5.fails, x5.value, x5.trail))
      else
        (inK .i64 (lp1_1 + 1)).bind fun x7 =>
        some (.next (lp1_0, x7, lp1_2, lp1_3, lp1_4, lp1_5))
  else
    some (.done (lp1_0, lp1_2, lp1_3, lp1_4, lp1_5))
noncomputable def m_proof_engine_follows_lp2 (x9 : List Int) (lp2_0 : Int) (lp2_1 : (List Int)) : Option (Step (Int × (List Int)) (List Int)) :=
  if (decide (lp2_0 < (x9.length : Int))) = true then
    (idx x9 lp2_0).bind fun x10 =>
    (inK .i64 (0 - x10)).bind fun x11 =>
    (idx lp2_1 (max x10 x11)).bind fun x12 =>
    (inK .i64 (lp2_0 + 1)).bind fun x13 =>
    some (.next (x13, lp2_1.set (max x10 x11).toNat 0))
  else
    some (.done lp2_1)
noncomputable def m_proof_engine_follows (p0 : PEng) (p1 : (List Int)) : Option (Bool × PEng) :=
  if p0.fails = true then
    some (true, p0)
  else
    (loopM (fun s => m_proof_engine_follows_lp1 p0 p1 s.1 s.2.1 s.2.2.1 s.2.2.2.1 s.2.2.2.2.1 s.2.2.2.2.2) (true, 0, p0.head, p0.fails, p0.value, p0.trail) : Option (Bool × Int × Bool × (List Int) × (List Int))).bind fun b1 =>
    ((if b1.1 = true then
      (m_proof_engine_propagate (PEng.mk b1.2.2.2.1 b1.2.2.2.2 b1.2.1 p0.watches b1.2.2.1)).bind fun x8 =>
      some (x8.1, x8.2.head, x8.2.fails, x8.2.value, x8.2.trail, x8.2.watches)
    else
      some (false, b1.2.1, b1.2.2.1, b1.2.2.2.1, b1.2.2.2.2, p0.watches)) : Option (Bool × Int × Bool × (List Int) × (List Int) × (List (List Nat) × List (List Int)))).bind fun m1 =>
    (sub m1.2.2.2.2.1 (p0.trail.length : Int) (m1.2.2.2.2.1.length : Int)).bind fun x9 =>
    (loopM (fun s => m_proof_engine_follows_lp2 x9 s.1 s.2) (0, m1.2.2.2.1) : Option (List Int)).bind fun b3 =>
    (sub m1.2.2.2.2.1 0 (p0.trail.length : Int)).bind fun x14 =>
    some (!m1.1, (PEng.mk b3 x14 (p0.trail.length : Int) m1.2.2.2.2.2 m1.2.2.1))
noncomputable def m_proof_newEngine_lp1 (p0 : Formula) (lp1_0 : Int) (lp1_1 : (List Int)) (lp1_2 : Int) (lp1_3 : Bool) (lp1_4 : (List (List Nat) × List (List Int))) (lp1_5 : (List Int)) : Option (Step (Int × (List Int) × Int × Bool × (List (List Nat) × List (List Int)) × (List Int)) ((List Int) × Int × Bool × (List (List Nat) × List (List Int)) × (List Int))) :=
  if (decide (lp1_0 < (p0.clauses.length : Int))) = true then
    (idx p0.clauses lp1_0).bind fun x6 =>
    (m_proof_engine_add (PEng.mk lp1_5 lp1_1 lp1_2 lp1_4 lp1_3) x6).bind fun x7 =>
    (inK .i64 (lp1_0 + 1)).bind fun x8 =>
    some (.next (x8, x7.trail, x7.head, x7.fails, x7.watches, x7.value))
  else
    some (.done (lp1_1, lp1_2, lp1_3, lp1_4, lp1_5))
noncomputable def m_proof_newEngine (p0 : Formula) : Option PEng :=
  (inK .i64 (p0.vars + 1)).bind fun x1 =>
  (mkc x1 x1 (0 : Int)).bind fun x2 =>
  (inK .i64 (2 * p0.vars)).bind fun x3 =>
  (inK .i64 (x3 + 2)).bind fun x4 =>
  (mkc x4 x4 ([] : List Nat)).bind fun x5 =>
  (loopM (fun s => m_proof_newEngine_lp1 p0 s.1 s.2.1 s.2.2.1 s.2.2.2.1 s.2.2.2.2.1 s.2.2.2.2.2) (0, [], 0, false, (x5, []), x2) : Option ((List Int) × Int × Bool × (List (List Nat) × List (List Int)) × (List Int))).bind fun b5 =>
  some (PEng.mk b5.2.2.2.2 b5.1 b5.2.1 b5.2.2.2.1 b5.2.2.1)
noncomputable def m_proof_steps_1_yield_lp1 {σ ε : Type} (yf : (Int × Bool) → σ → Option (Step σ ε)) (cp1 : (List (List Int))) (lp1_0 : Int) (lp1_1 : Int) (lp1_2 : Bool) (lp1_3 : (List Int)) (lp1_4 : (List Int)) (lp1_5 : (List (List Nat) × List (List Int))) (lp1_6 : (Step σ ε)) : Option (Step (Int × Int × Bool × (List Int) × (List Int) × (List (List Nat) × List (List Int)) × (Step σ ε)) (Out (Int × Bool × (List Int) × (List Int) × (List (List Nat) × List (List Int)) × (Step σ ε)) (Step σ ε))) :=
  if (decide (lp1_0 < (cp1.length : Int))) = true then
    (idx cp1 lp1_0).bind fun x2 =>
    (m_proof_engine_follows (PEng.mk lp1_3 lp1_4 lp1_1 lp1_5 lp1_2) x2).bind fun x3 =>
    (yieldM yf (lp1_0, x3.1) lp1_6).bind fun x4 =>
    if ((!x4.more) || (!x3.1)) = true then
      some (.done (.ret x4))
    else
      (m_proof_engine_add x3.2 x2).bind fun x15 =>
      (inK .i64 (lp1_0 + 1)).bind fun x16 =>
      some (.next (x16, x15.head, x15.fails, x15.value, x15.trail, x15.watches, x4))
  else
    some (.done (.brk (lp1_1, lp1_2, lp1_3, lp1_4, lp1_5, lp1_6)))
noncomputable def m_proof_steps_1_yield {σ ε : Type} (yf : (Int × Bool) → σ → Option (Step σ ε)) (ys : Step σ ε) (cp0 : Formula) (cp1 : (List (List Int))) : Option (Step σ ε) :=
  (m_proof_newEngine cp0).bind fun x1 =>
  (loopM (fun s => m_proof_steps_1_yield_lp1 yf cp1 s.1 s.2.1 s.2.2.1 s.2.2.2.1 s.2.2.2.2.1 s.2.2.2.2.2.1 s.2.2.2.2.2.2) (0, x1.head, x1.fails, x1.value, x1.trail, x1.watches, ys) : Option (Out (Int × Bool × (List Int) × (List Int) × (List (List Nat) × List (List Int)) × (Step σ ε)) (Step σ ε))).bind fun b1 =>
  match b1 with
  | .brk b1s =>
    some b1s.2.2.2.2.2
  | .ret r => some r
noncomputable def m_proof_steps (p0 : Formula) (p1 : (List (List Int))) : Option Unit :=
  some ()
noncomputable def m_proof_accepted_lp1 (x : (Int × Bool)) : Option (Step Unit Bool) :=
  if (!x.2) = true then
    some (.done false)
  else
    some (.next ())
noncomputable def m_proof_accepted (p0 : Formula) (p1 : (List (List Int))) : Option Bool :=
  ((if (decide ((p1.length : Int) = 0)) = true then
    some true
  else
    (inK .i64 ((p1.length : Int) - 1)).bind fun x1 =>
    (idx p1 x1).bind fun x2 =>
    some (decide (0 < (x2.length : Int)))) : Option Bool).bind fun m1 =>
  if m1 = true then
    some false
  else
    (m_proof_steps p0 p1).bind fun x3 =>
    (m_proof_steps_1_yield (fun x _ => m_proof_accepted_lp1  x ) (.next ()) p0 p1).bind fun b6 =>
    match b6 with
    | .next lp1n =>
      some true
    | .done r => some r
noncomputable def m_proof_Follows (p0 : Formula) (p1 : (List Int)) : Option (Bool × Int) :=
  (m_cnf_Valid p0).bind fun x1 =>
  ((if (!x1) = true then
    some true
  else
    (m_proof_normal p1 p0.vars).bind fun x2 =>
    some (!x2)) : Option Bool).bind fun m1 =>
  if m1 = true then
    some (false, 1)
  else
    (m_proof_newEngine p0).bind fun x3 =>
    (m_proof_engine_follows x3 p1).bind fun x4 =>
    some (x4.1, 0)
noncomputable def m_proof_Check (p0 : Formula) (p1 : (List (List Int))) : Option Bool :=
  (m_cnf_Valid p0).bind fun x1 =>
  ((if x1 = true then
    (m_proof_valid p1 p0.vars).bind fun x2 =>
    some x2
  else
    some false) : Option Bool).bind fun m1 =>
  ((if m1 = true then
    (m_proof_accepted p0 p1).bind fun x3 =>
    some x3
  else
    some false) : Option Bool).bind fun m2 =>
  some m2
noncomputable def m_proof_Trim_lp1 (p0 : Formula) (lp1_0 : (List (List Int))) (lp1_1 : Int) : Option (Step ((List (List Int)) × Int) (List (List Int))) :=
  if (decide (0 ≤ lp1_1)) = true then
    (m_proof_without lp1_0 lp1_1).bind fun x3 =>
    (m_proof_accepted p0 x3).bind fun x4 =>
    if x4 = true then
      (inK .i64 (lp1_1 - 1)).bind fun x5 =>
      some (.next (x3, x5))
    else
      (inK .i64 (lp1_1 - 1)).bind fun x6 =>
      some (.next (lp1_0, x6))
  else
    some (.done lp1_0)
noncomputable def m_proof_Trim_lp2 (b2 : (List (List Int))) (lp2_0 : Int) (lp2_1 : (List (List Int))) : Option (Step (Int × (List (List Int))) (List (List Int))) :=
  if (decide (lp2_0 < (b2.length : Int))) = true then
    (idx b2 lp2_0).bind fun x7 =>
    (m_cloneI x7).bind fun x8 =>
    (app lp2_1 [x8]).bind fun x9 =>
    (inK .i64 (lp2_0 + 1)).bind fun x10 =>
    some (.next (x10, x9))
  else
    some (.done lp2_1)
noncomputable def m_proof_Trim (p0 : Formula) (p1 : (List (List Int))) : Option ((List (List Int)) × Int) :=
  (m_proof_Check p0 p1).bind fun x1 =>
  if (!x1) = true then
    some ([], 1)
  else
    (inK .i64 ((p1.length : Int) - 2)).bind fun x2 =>
    (loopM (fun s => m_proof_Trim_lp1 p0 s.1 s.2) (p1, x2) : Option (List (List Int))).bind fun b2 =>
    (loopM (fun s => m_proof_Trim_lp2 b2 s.1 s.2) (0, []) : Option (List (List Int))).bind fun b3 =>
    some (b3, 0)
noncomputable def m_proof_Core_lp1 (p0 : Formula) (p1 : (List (List Int))) (lp1_0 : Int) (lp1_1 : (List Int)) (lp1_2 : (List (List Int))) : Option (Step (Int × (List Int) × (List (List Int))) ((List Int) × (List (List Int)))) :=
  if (decide (0 ≤ lp1_0)) = true then
    (m_proof_without lp1_2 lp1_0).bind fun x3 =>
    (m_proof_accepted (Formula.mk p0.vars x3) p1).bind fun x4 =>
    if x4 = true then
      (inK .i64 (lp1_0 - 1)).bind fun x5 =>
      some (.next (x5, lp1_1, x3))
    else
      (app lp1_1 [lp1_0]).bind fun x6 =>
      (inK .i64 (lp1_0 - 1)).bind fun x7 =>
      some (.next (x7, x6, lp1_2))
  else
    some (.done (lp1_1, lp1_2))
noncomputable def m_proof_Core (p0 : Formula) (p1 : (List (List Int))) : Option ((List Int) × Int) :=
  (m_proof_Check p0 p1).bind fun x1 =>
  if (!x1) = true then
    some ([], 1)
  else
    (inK .i64 ((p0.clauses.length : Int) - 1)).bind fun x2 =>
    (loopM (fun s => m_proof_Core_lp1 p0 p1 s.1 s.2.1 s.2.2) (x2, [], p0.clauses) : Option ((List Int) × (List (List Int)))).bind fun b2 =>
    (m_revI b2.1).bind fun x8 =>
    some (x8, 0)
end Go.Proofs.YtfajmelamonolaaGreatDoor

/- Models of: assessor/assessorref26.Variable, assessor/assessorref26.IsClause, assessor/assessorref26.Clauses, assessor/assessorref26.Small. (Printed by wip/sp/ge -/
set_option linter.unusedVariables false
set_option linter.unusedSimpArgs false
namespace Go.Proofs.YtfajmelamonolaaGreatDoor
open Go.RowKit
noncomputable def m_assessorref26_Variable (p0 : Int) : Option Int :=
  if (decide (p0 < 0)) = true then
    (inK .i64 (0 - p0)).bind fun x1 =>
    some x1
  else
    some p0
noncomputable def m_assessorref26_IsClause_lp1 (p0 : (List Int)) (p1 : Int) (lp1_0 : Int) : Option (Step Int (Out Unit Bool)) :=
  if (decide (lp1_0 < (p0.length : Int))) = true then
    (idx p0 lp1_0).bind fun x1 =>
    ((if (decide (x1 = 0)) = true then
      some true
    else
      (idx p0 lp1_0).bind fun x2 =>
      (inK .i64 (0 - p1)).bind fun x3 =>
      some (decide (x2 < x3))) : Option Bool).bind fun m1 =>
    ((if m1 = true then
      some true
    else
      (idx p0 lp1_0).bind fun x4 =>
      some (decide (p1 < x4))) : Option Bool).bind fun m2 =>
    ((if m2 = true then
      some true
    else
      ((if (decide (0 < lp1_0)) = true then
        (idx p0 lp1_0).bind fun x5 =>
        (m_assessorref26_Variable x5).bind fun x6 =>
        (inK .i64 (lp1_0 - 1)).bind fun x7 =>
        (idx p0 x7).bind fun x8 =>
        (m_assessorref26_Variable x8).bind fun x9 =>
        some (decide (x6 ≤ x9))
      else
        some false) : Option Bool).bind fun m4 =>
      some m4) : Option Bool).bind fun m3 =>
    if m3 = true then
      some (.done (.ret false))
    else
      (inK .i64 (lp1_0 + 1)).bind fun x10 =>
      some (.next x10)
  else
    some (.done (.brk ()))
noncomputable def m_assessorref26_IsClause (p0 : (List Int)) (p1 : Int) : Option Bool :=
  (loopM (fun s => m_assessorref26_IsClause_lp1 p0 p1 s) 0 : Option (Out Unit Bool)).bind fun b1 =>
  match b1 with
  | .brk b1s =>
    some true
  | .ret r => some r
noncomputable def m_assessorref26_Clauses_lp2 (p0 : (List (List Int))) (p1 : (List (List Int))) (lp1_0 : Int) (lp2_0 : Int) : Option (Step Int (Out Unit Bool)) :=
  (idx p0 lp1_0).bind fun x3 =>
  if (decide (lp2_0 < (x3.length : Int))) = true then
    (idx p0 lp1_0).bind fun x4 =>
    (idx x4 lp2_0).bind fun x5 =>
    (idx p1 lp1_0).bind fun x6 =>
    (idx x6 lp2_0).bind fun x7 =>
    if (!decide (x5 = x7)) = true then
      some (.done (.ret false))
    else
      (inK .i64 (lp2_0 + 1)).bind fun x8 =>
      some (.next x8)
  else
    some (.done (.brk ()))
noncomputable def m_assessorref26_Clauses_lp1 (p0 : (List (List Int))) (p1 : (List (List Int))) (lp1_0 : Int) : Option (Step Int (Out Unit Bool)) :=
  if (decide (lp1_0 < (p0.length : Int))) = true then
    (idx p0 lp1_0).bind fun x1 =>
    (idx p1 lp1_0).bind fun x2 =>
    if (!decide ((x1.length : Int) = (x2.length : Int))) = true then
      some (.done (.ret false))
    else
      (loopM (fun s => m_assessorref26_Clauses_lp2 p0 p1 lp1_0 s) 0 : Option (Out Unit Bool)).bind fun b4 =>
      match b4 with
      | .brk b4s =>
        (inK .i64 (lp1_0 + 1)).bind fun x9 =>
        some (.next x9)
      | .ret r => some (.done (.ret r))
  else
    some (.done (.brk ()))
noncomputable def m_assessorref26_Clauses (p0 : (List (List Int))) (p1 : (List (List Int))) : Option Bool :=
  if (!decide ((p0.length : Int) = (p1.length : Int))) = true then
    some false
  else
    (loopM (fun s => m_assessorref26_Clauses_lp1 p0 p1 s) 0 : Option (Out Unit Bool)).bind fun b1 =>
    match b1 with
    | .brk b1s =>
      some true
    | .ret r => some r
noncomputable def m_assessorref26_Small_lp1 (p0 : Formula) (lp1_0 : Int) : Option (Step Int (Out Unit Bool)) :=
  if (decide (lp1_0 < (p0.clauses.length : Int))) = true then
    (idx p0.clauses lp1_0).bind fun x1 =>
    if (decide (30 < (x1.length : Int))) = true then
      some (.done (.ret false))
    else
      (inK .i64 (lp1_0 + 1)).bind fun x2 =>
      some (.next x2)
  else
    some (.done (.brk ()))
noncomputable def m_assessorref26_Small (p0 : Formula) (p1 : Int) (p2 : Int) : Option Bool :=
  (loopM (fun s => m_assessorref26_Small_lp1 p0 s) 0 : Option (Out Unit Bool)).bind fun b2 =>
  match b2 with
  | .brk b2s =>
    some ((decide (p0.vars ≤ p1)) && (decide ((p0.clauses.length : Int) ≤ p2)))
  | .ret r => some r
end Go.Proofs.YtfajmelamonolaaGreatDoor

/- Models of: assessor/assessorref27.With, assessor/assessorref27.Model. (Printed by wip/sp/gen.py.) -/
set_option linter.unusedVariables false
set_option linter.unusedSimpArgs false
namespace Go.Proofs.YtfajmelamonolaaGreatDoor
open Go.RowKit
noncomputable def m_assessorref27_With (p0 : Formula) (p1 : (List Int)) : Option Formula :=
  (app p0.clauses [p1]).bind fun x1 =>
  some (Formula.mk p0.vars x1)
end Go.Proofs.YtfajmelamonolaaGreatDoor

/- Models of: assessor/assessorlaw27.awake, assessor/assessorlaw27.small. (Printed by wip/sp/gen.py.) -/
set_option linter.unusedVariables false
set_option linter.unusedSimpArgs false
namespace Go.Proofs.YtfajmelamonolaaGreatDoor
open Go.RowKit
noncomputable def m_assessorlaw27_awake  : Option Bool :=
  (m_proof_Trim (Formula.mk 2 ([([1, 2] : List Int), ([1, (-2)] : List Int), ([(-1), 2] : List Int), ([(-1), (-2)] : List Int)])) ([([1] : List Int), ([] : List Int)] : List (List Int))).bind fun x1 =>
  (m_proof_Core (Formula.mk 2 ([([1, 2] : List Int), ([1, (-2)] : List Int), ([(-1), 2] : List Int), ([(-1), (-2)] : List Int)])) ([([1] : List Int), ([] : List Int)] : List (List Int))).bind fun x2 =>
  (m_proof_Follows (Formula.mk 2 ([([1, 2] : List Int), ([1, (-2)] : List Int), ([(-1), 2] : List Int), ([(-1), (-2)] : List Int)])) ([1] : List Int)).bind fun x3 =>
  (m_proof_Parse (ByteArray.mk #[49, 32, 48, 10, 48, 10])).bind fun x4 =>
  (m_proof_Check (Formula.mk 2 ([([1, 2] : List Int), ([1, (-2)] : List Int), ([(-1), 2] : List Int), ([(-1), (-2)] : List Int)])) ([([1] : List Int), ([] : List Int)] : List (List Int))).bind fun x5 =>
  ((if x5 = true then
    (sub ([([1] : List Int), ([] : List Int)] : List (List Int)) 1 (([([1] : List Int), ([] : List Int)] : List (List Int)).length : Int)).bind fun x6 =>
    (m_proof_Check (Formula.mk 2 ([([1, 2] : List Int), ([1, (-2)] : List Int), ([(-1), 2] : List Int), ([(-1), (-2)] : List Int)])) x6).bind fun x7 =>
    some (!x7)
  else
    some false) : Option Bool).bind fun m1 =>
  ((if (m1 && (decide (x1.2 = 0))) = true then
    (m_assessorref26_Clauses x1.1 ([([1] : List Int), ([] : List Int)] : List (List Int))).bind fun x8 =>
    some x8
  else
    some false) : Option Bool).bind fun m2 =>
  ((if (m2 && (decide (x2.2 = 0))) = true then
    (m_slices_Equal_int_int_ x2.1 ([0, 1, 2, 3] : List Int)).bind fun x9 =>
    some x9
  else
    some false) : Option Bool).bind fun m3 =>
  ((if (((m3 && x3.1) && (decide (x3.2 = 0))) && (decide (x4.2 = 0))) = true then
    (m_assessorref26_Clauses ([([1] : List Int), ([] : List Int)] : List (List Int)) x4.1).bind fun x10 =>
    some x10
  else
    some false) : Option Bool).bind fun m4 =>
  ((if m4 = true then
    (m_proof_Format ([([1] : List Int), ([] : List Int)] : List (List Int))).bind fun x11 =>
    some (decide (x11 = (ByteArray.mk #[49, 32, 48, 10, 48, 10])))
  else
    some false) : Option Bool).bind fun m5 =>
  some m5
noncomputable def m_assessorlaw27_small (p0 : (List (List Int))) (p1 : Int) : Option Bool :=
  (m_assessorref26_Small (Formula.mk 0 p0) 0 p1).bind fun x1 =>
  some x1
end Go.Proofs.YtfajmelamonolaaGreatDoor

/- Models of: assessor/assessorlaw27.ProofNeeds. (Printed by wip/sp/gen.py.) -/
set_option linter.unusedVariables false
set_option linter.unusedSimpArgs false
namespace Go.Proofs.YtfajmelamonolaaGreatDoor
open Go.RowKit
noncomputable def m_assessorlaw27_ProofNeeds_lp2 (p1 : (List (List Int))) (x10 : (List Int)) (lp2_0 : Int) : Option (Step Int Int) :=
  ((if (decide (lp2_0 < (p1.length : Int))) = true then
    (idx p1 lp2_0).bind fun x11 =>
    (m_slices_Equal_int_int_ x11 x10).bind fun x12 =>
    some (!x12)
  else
    some false) : Option Bool).bind fun m5 =>
  if m5 = true then
    (inK .i64 (lp2_0 + 1)).bind fun x13 =>
    some (.next x13)
  else
    some (.done lp2_0)
noncomputable def m_assessorlaw27_ProofNeeds_lp1 (p1 : (List (List Int))) (x5 : ((List (List Int)) × Int)) (lp1_0 : Int) (lp1_1 : Int) : Option (Step (Int × Int) (Out Unit Bool)) :=
  if (decide (lp1_1 < (x5.1.length : Int))) = true then
    (idx x5.1 lp1_1).bind fun x10 =>
    (loopM (fun s => m_assessorlaw27_ProofNeeds_lp2 p1 x10 s) lp1_0 : Option Int).bind fun b4 =>
    if (decide (b4 = (p1.length : Int))) = true then
      some (.done (.ret false))
    else
      (inK .i64 (b4 + 1)).bind fun x14 =>
      (inK .i64 (lp1_1 + 1)).bind fun x15 =>
      some (.next (x14, x15))
  else
    some (.done (.brk ()))
noncomputable def m_assessorlaw27_ProofNeeds_lp3 (p0 : Formula) (x7 : ((List Int) × Int)) (lp3_0 : Int) (lp3_1 : (List (List Int))) : Option (Step (Int × (List (List Int))) (Out (List (List Int)) Bool)) :=
  if (decide (lp3_0 < (x7.1.length : Int))) = true then
    (idx x7.1 lp3_0).bind fun x16 =>
    if ((decide (x16 < 0)) || (decide ((p0.clauses.length : Int) ≤ x16))) = true then
      some (.done (.ret false))
    else
      (idx p0.clauses x16).bind fun x17 =>
      (app lp3_1 [x17]).bind fun x18 =>
      (inK .i64 (lp3_0 + 1)).bind fun x19 =>
      some (.next (x19, x18))
  else
    some (.done (.brk lp3_1))
noncomputable def m_assessorlaw27_ProofNeeds_lp4 (p0 : Formula) (p1 : (List (List Int))) (b7s : (List (List Int))) (lp4_0 : Int) : Option (Step Int (Out Unit Bool)) :=
  if (decide (lp4_0 < (b7s.length : Int))) = true then
    (app [] b7s).bind fun x21 =>
    (inK .i64 (lp4_0 + 1)).bind fun x22 =>
    (m_delR x21 lp4_0 x22).bind fun x23 =>
    (m_proof_Check (Formula.mk p0.vars x23) p1).bind fun x24 =>
    if x24 = true then
      some (.done (.ret false))
    else
      (inK .i64 (lp4_0 + 1)).bind fun x25 =>
      some (.next x25)
  else
    some (.done (.brk ()))
noncomputable def m_assessorlaw27_ProofNeeds_lp5 (p0 : Formula) (x5 : ((List (List Int)) × Int)) (x26 : Int) (lp5_0 : Int) : Option (Step Int (Out Unit Bool)) :=
  if (decide (lp5_0 < x26)) = true then
    (app [] x5.1).bind fun x27 =>
    (inK .i64 (lp5_0 + 1)).bind fun x28 =>
    (m_delR x27 lp5_0 x28).bind fun x29 =>
    (m_proof_Check p0 x29).bind fun x30 =>
    if x30 = true then
      some (.done (.ret false))
    else
      (inK .i64 (lp5_0 + 1)).bind fun x31 =>
      some (.next x31)
  else
    some (.done (.brk ()))
noncomputable def m_assessorlaw27_ProofNeeds (p0 : Formula) (p1 : (List (List Int))) (p2 : (List Int)) : Option Bool :=
  (m_assessorlaw27_awake ).bind fun x1 =>
  if (!x1) = true then
    some false
  else
    (m_assessorref26_Small p0 20 20).bind fun x2 =>
    ((if (!x2) = true then
      some true
    else
      (m_assessorlaw27_small p1 20).bind fun x3 =>
      some (!x3)) : Option Bool).bind fun m1 =>
    ((if m1 = true then
      some true
    else
      (m_proof_Check p0 p1).bind fun x4 =>
      some (!x4)) : Option Bool).bind fun m2 =>
    if m2 = true then
      some true
    else
      (m_proof_Trim p0 p1).bind fun x5 =>
      (m_proof_Trim p0 x5.1).bind fun x6 =>
      (m_proof_Core p0 p1).bind fun x7 =>
      ((if (((!decide (x5.2 = 0)) || (!decide (x6.2 = 0))) || (!decide (x7.2 = 0))) = true then
        some true
      else
        (m_proof_Check p0 x5.1).bind fun x8 =>
        some (!x8)) : Option Bool).bind fun m3 =>
      ((if m3 = true then
        some true
      else
        (m_assessorref26_Clauses x5.1 x6.1).bind fun x9 =>
        some (!x9)) : Option Bool).bind fun m4 =>
      if (m4 || (decide ((p1.length : Int) < (x5.1.length : Int)))) = true then
        some false
      else
        (loopM (fun s => m_assessorlaw27_ProofNeeds_lp1 p1 x5 s.1 s.2) (0, 0) : Option (Out Unit Bool)).bind fun b2 =>
        match b2 with
        | .brk b2s =>
          (loopM (fun s => m_assessorlaw27_ProofNeeds_lp3 p0 x7 s.1 s.2) (0, []) : Option (Out (List (List Int)) Bool)).bind fun b7 =>
          match b7 with
          | .brk b7s =>
            (m_proof_Check (Formula.mk p0.vars b7s) p1).bind fun x20 =>
            if (!x20) = true then
              some false
            else
              (loopM (fun s => m_assessorlaw27_ProofNeeds_lp4 p0 p1 b7s s) 0 : Option (Out Unit Bool)).bind fun b13 =>
              match b13 with
              | .brk b13s =>
                (inK .i64 ((x5.1.length : Int) - 1)).bind fun x26 =>
                (loopM (fun s => m_assessorlaw27_ProofNeeds_lp5 p0 x5 x26 s) 0 : Option (Out Unit Bool)).bind fun b18 =>
                match b18 with
                | .brk b18s =>
                  (m_cnf_Normal p2).bind fun x32 =>
                  ((if (!x32.2) = true then
                    some true
                  else
                    (m_assessorref26_IsClause x32.1 p0.vars).bind fun x33 =>
                    some (!x33)) : Option Bool).bind fun m6 =>
                  if m6 = true then
                    some true
                  else
                    (m_assessorref27_With p0 x32.1).bind fun x34 =>
                    (m_proof_Check x34 p1).bind fun x35 =>
                    some x35
                | .ret r => some r
              | .ret r => some r
          | .ret r => some r
        | .ret r => some r
end Go.Proofs.YtfajmelamonolaaGreatDoor

/- Small facts on the types and functions of this seat. (Printed by wip/sp/gen.py.) -/
set_option linter.unusedVariables false
set_option linter.unusedSimpArgs false
namespace Go.Proofs.YtfajmelamonolaaGreatDoor
open Go.RowKit
theorem slty25 : SlTy Tryz.prog 25 3 1 8 := SlTy.of (z := .int .i64 0) (by kernel_rfl) (by kernel_rfl) rfl
theorem varty3 : VarTy Tryz.prog 3 false 1 := ⟨fun w => by simp [isAgg, go_sem], fun w => by simp [sizeOf, go_sem] <;> rfl⟩
theorem ent36 : ∀ args w, (callFunc 36 args).run Tryz.prog w = .ok (.enter 36 args) w := enters Tryz.func36 (by kernel_rfl) rfl
theorem fldty24_0 : FldTy Tryz.prog 24 0 0 := fun b o w => by simp [Instr.fieldAt, go_sem]
theorem fldty24_1 : FldTy Tryz.prog 24 1 1 := fun b o w => by simp [Instr.fieldAt, go_sem]
theorem varty22 : VarTy Tryz.prog 22 false 1 := ⟨fun w => by simp [isAgg, go_sem], fun w => by simp [sizeOf, go_sem] <;> rfl⟩
theorem slty22 : SlTy Tryz.prog 22 25 1 24 := SlTy.of (z := .slice none 0 0) (by kernel_rfl) (by kernel_rfl) rfl
theorem varty25 : VarTy Tryz.prog 25 false 1 := ⟨fun w => by simp [isAgg, go_sem], fun w => by simp [sizeOf, go_sem] <;> rfl⟩
theorem ent39 : ∀ args w, (callFunc 39 args).run Tryz.prog w = .ok (.enter 39 args) w := enters Tryz.func39 (by kernel_rfl) rfl
theorem varty24 : VarTy Tryz.prog 24 true 2 := ⟨fun w => by simp [isAgg, go_sem], fun w => by simp [sizeOf, go_sem] <;> rfl⟩
theorem ent18 : ∀ args w, (callFunc 18 args).run Tryz.prog w = .ok (.enter 18 args) w := enters Tryz.func18 (by kernel_rfl) rfl
theorem ent25 : ∀ args w, (callFunc 25 args).run Tryz.prog w = .ok (.enter 25 args) w := enters Tryz.func25 (by kernel_rfl) rfl
theorem ent32 : ∀ args w, (callFunc 32 args).run Tryz.prog w = .ok (.enter 32 args) w := enters Tryz.func32 (by kernel_rfl) rfl
theorem ent37 : ∀ args w, (callFunc 37 args).run Tryz.prog w = .ok (.enter 37 args) w := enters Tryz.func37 (by kernel_rfl) rfl
theorem ent38 : ∀ args w, (callFunc 38 args).run Tryz.prog w = .ok (.enter 38 args) w := enters Tryz.func38 (by kernel_rfl) rfl
theorem ent40 : ∀ args w, (callFunc 40 args).run Tryz.prog w = .ok (.enter 40 args) w := enters Tryz.func40 (by kernel_rfl) rfl
theorem ent28 : ∀ args w, (callFunc 28 args).run Tryz.prog w = .ok (.enter 28 args) w := enters Tryz.func28 (by kernel_rfl) rfl
theorem ent50 : ∀ args w, (callFunc 50 args).run Tryz.prog w = .ok (.enter 50 args) w := enters Tryz.func50 (by kernel_rfl) rfl
theorem ent49 : ∀ args w, (callFunc 49 args).run Tryz.prog w = .ok (.enter 49 args) w := enters Tryz.func49 (by kernel_rfl) rfl
theorem ent51 : ∀ args w, (callFunc 51 args).run Tryz.prog w = .ok (.enter 51 args) w := enters Tryz.func51 (by kernel_rfl) rfl
theorem ent46 : ∀ args w, (callFunc 46 args).run Tryz.prog w = .ok (.enter 46 args) w := enters Tryz.func46 (by kernel_rfl) rfl
theorem ent47 : ∀ args w, (callFunc 47 args).run Tryz.prog w = .ok (.enter 47 args) w := enters Tryz.func47 (by kernel_rfl) rfl
theorem slty68 : SlTy Tryz.prog 68 9 1 16 := SlTy.of (z := .string ByteArray.empty) (by kernel_rfl) (by kernel_rfl) rfl
theorem varty9 : VarTy Tryz.prog 9 false 1 := ⟨fun w => by simp [isAgg, go_sem], fun w => by simp [sizeOf, go_sem] <;> rfl⟩
theorem ent48 : ∀ args w, (callFunc 48 args).run Tryz.prog w = .ok (.enter 48 args) w := enters Tryz.func48 (by kernel_rfl) rfl
theorem ent27 : ∀ args w, (callFunc 27 args).run Tryz.prog w = .ok (.enter 27 args) w := enters Tryz.func27 (by kernel_rfl) rfl
theorem fldty87_0 : FldTy Tryz.prog 87 0 0 := fun b o w => by simp [Instr.fieldAt, go_sem]
theorem fldty87_1 : FldTy Tryz.prog 87 1 1 := fun b o w => by simp [Instr.fieldAt, go_sem]
theorem fldty87_2 : FldTy Tryz.prog 87 2 2 := fun b o w => by simp [Instr.fieldAt, go_sem]
theorem fldty87_3 : FldTy Tryz.prog 87 3 3 := fun b o w => by simp [Instr.fieldAt, go_sem]
theorem varty85 : VarTy Tryz.prog 85 false 1 := ⟨fun w => by simp [isAgg, go_sem], fun w => by simp [sizeOf, go_sem] <;> rfl⟩
theorem ent77 : ∀ args w, (callFunc 77 args).run Tryz.prog w = .ok (.enter 77 args) w := enters Tryz.func77 (by kernel_rfl) rfl
theorem slty85 : SlTy Tryz.prog 85 105 1 24 := SlTy.of (z := .slice none 0 0) (by kernel_rfl) (by kernel_rfl) rfl
theorem varty105 : VarTy Tryz.prog 105 false 1 := ⟨fun w => by simp [isAgg, go_sem], fun w => by simp [sizeOf, go_sem] <;> rfl⟩
theorem slty105 : SlTy Tryz.prog 105 107 1 24 := SlTy.of (z := .agg #[.slice none 0 0]) (by kernel_rfl) (by kernel_rfl) rfl
theorem varty107 : VarTy Tryz.prog 107 true 1 := ⟨fun w => by simp [isAgg, go_sem], fun w => by simp [sizeOf, go_sem] <;> rfl⟩
theorem fldty107_0 : FldTy Tryz.prog 107 0 0 := fun b o w => by simp [Instr.fieldAt, go_sem]
theorem ent57 : ∀ args w, (callFunc 57 args).run Tryz.prog w = .ok (.enter 57 args) w := enters Tryz.func57 (by kernel_rfl) rfl
theorem ent58 : ∀ args w, (callFunc 58 args).run Tryz.prog w = .ok (.enter 58 args) w := enters Tryz.func58 (by kernel_rfl) rfl
theorem fldty87_4 : FldTy Tryz.prog 87 4 4 := fun b o w => by simp [Instr.fieldAt, go_sem]
theorem varty4 : VarTy Tryz.prog 4 false 1 := ⟨fun w => by simp [isAgg, go_sem], fun w => by simp [sizeOf, go_sem] <;> rfl⟩
theorem ent59 : ∀ args w, (callFunc 59 args).run Tryz.prog w = .ok (.enter 59 args) w := enters Tryz.func59 (by kernel_rfl) rfl
theorem ent56 : ∀ args w, (callFunc 56 args).run Tryz.prog w = .ok (.enter 56 args) w := enters Tryz.func56 (by kernel_rfl) rfl
theorem ent41 : ∀ args w, (callFunc 41 args).run Tryz.prog w = .ok (.enter 41 args) w := enters Tryz.func41 (by kernel_rfl) rfl
theorem ent42 : ∀ args w, (callFunc 42 args).run Tryz.prog w = .ok (.enter 42 args) w := enters Tryz.func42 (by kernel_rfl) rfl
theorem ent52 : ∀ args w, (callFunc 52 args).run Tryz.prog w = .ok (.enter 52 args) w := enters Tryz.func52 (by kernel_rfl) rfl
theorem ent66 : ∀ args w, (callFunc 66 args).run Tryz.prog w = .ok (.enter 66 args) w := enters Tryz.func66 (by kernel_rfl) rfl
theorem ent29 : ∀ args w, (callFunc 29 args).run Tryz.prog w = .ok (.enter 29 args) w := enters Tryz.func29 (by kernel_rfl) rfl
theorem ent8 : ∀ args w, (callFunc 8 args).run Tryz.prog w = .ok (.enter 8 args) w := enters Tryz.func8 (by kernel_rfl) rfl
theorem ent30 : ∀ args w, (callFunc 30 args).run Tryz.prog w = .ok (.enter 30 args) w := enters Tryz.func30 (by kernel_rfl) rfl
theorem ent31 : ∀ args w, (callFunc 31 args).run Tryz.prog w = .ok (.enter 31 args) w := enters Tryz.func31 (by kernel_rfl) rfl
theorem ent9 : ∀ args w, (callFunc 9 args).run Tryz.prog w = .ok (.enter 9 args) w := enters Tryz.func9 (by kernel_rfl) rfl
theorem ent10 : ∀ args w, (callFunc 10 args).run Tryz.prog w = .ok (.enter 10 args) w := enters Tryz.func10 (by kernel_rfl) rfl
theorem ent19 : ∀ args w, (callFunc 19 args).run Tryz.prog w = .ok (.enter 19 args) w := enters Tryz.func19 (by kernel_rfl) rfl
theorem ent26 : ∀ args w, (callFunc 26 args).run Tryz.prog w = .ok (.enter 26 args) w := enters Tryz.func26 (by kernel_rfl) rfl
theorem ent11 : ∀ args w, (callFunc 11 args).run Tryz.prog w = .ok (.enter 11 args) w := enters Tryz.func11 (by kernel_rfl) rfl
theorem ent12 : ∀ args w, (callFunc 12 args).run Tryz.prog w = .ok (.enter 12 args) w := enters Tryz.func12 (by kernel_rfl) rfl
theorem ent6 : ∀ args w, (callFunc 6 args).run Tryz.prog w = .ok (.enter 6 args) w := enters Tryz.func6 (by kernel_rfl) rfl
theorem ent5 : ∀ args w, (callFunc 5 args).run Tryz.prog w = .ok (.enter 5 args) w := enters Tryz.func5 (by kernel_rfl) rfl
theorem ent15 : ∀ args w, (callFunc 15 args).run Tryz.prog w = .ok (.enter 15 args) w := enters Tryz.func15 (by kernel_rfl) rfl
theorem ent7 : ∀ args w, (callFunc 7 args).run Tryz.prog w = .ok (.enter 7 args) w := enters Tryz.func7 (by kernel_rfl) rfl
theorem ent14 : ∀ args w, (callFunc 14 args).run Tryz.prog w = .ok (.enter 14 args) w := enters Tryz.func14 (by kernel_rfl) rfl
theorem ent13 : ∀ args w, (callFunc 13 args).run Tryz.prog w = .ok (.enter 13 args) w := enters Tryz.func13 (by kernel_rfl) rfl
theorem ent16 : ∀ args w, (callFunc 16 args).run Tryz.prog w = .ok (.enter 16 args) w := enters Tryz.func16 (by kernel_rfl) rfl
theorem ent17 : ∀ args w, (callFunc 17 args).run Tryz.prog w = .ok (.enter 17 args) w := enters Tryz.func17 (by kernel_rfl) rfl
end Go.Proofs.YtfajmelamonolaaGreatDoor

/- The shelf's words for a row that is sorted in place, brought to owned slices at any place of their block. Plain theorems. -/
set_option linter.unusedVariables false
set_option linter.unusedSimpArgs false
namespace Go.Proofs.YtfajmelamonolaaGreatDoor
open Go.RowKit Go.Sort
section
variable {β : Type} [Inhabited β] {Z : World} {ρ : PH} {L : List Atom} {w : World} {T : TypeId} {sz g off cap n : Nat} {xs xs' : List Value}
theorem putCells_seg (enc : β → Value) (off : Nat) (d : Array β) (cur : Array Value) (h : off + d.size ≤ cur.size) : ((putCells enc off d cur).toList.drop off).take d.size = d.toList.map enc := by
  apply List.ext_getElem?
  intro q
  rw [List.getElem?_take]
  by_cases hq : q < d.size
  · rw [if_pos hq, List.getElem?_drop, Array.getElem?_toList]
    unfold putCells
    rw [Array.getElem?_mapIdx, Array.getElem?_eq_getElem (by omega)]
    simp [hq]
  · rw [if_neg hq, List.getElem?_eq_none (by simpa using hq)]
theorem Hp.holdsO (enc : β → Value) {d : Array β} (h : Hp Z ρ (Row T sz (.slice (some ⟨g, off, none⟩) n cap) n xs :: L) w) (hn : 0 < n) (hd : d.toList.map enc = xs) : Holds enc w g off d ∧ g < w.heap.size := by
  obtain ⟨hxl, hr⟩ := h.row
  rcases hr with ⟨A, _, hn0⟩ | ⟨g', off', cap', cur, e, hpt, h1, h2, h3, h4⟩
  · omega
  · simp only [Value.slice.injEq, Option.some.injEq, Addr.mk.injEq, and_true, true_and] at e
    obtain ⟨⟨rfl, rfl⟩, rfl⟩ := e
    have hg := hpt.look 0 rfl
    refine ⟨fun j hj => ?_, (Array.getElem?_eq_some_iff.1 hg).1⟩
    have e1 : xs[j]? = some (enc d[j]!) := by
      rw [← hd, List.getElem?_map, Array.getElem?_toList, Array.getElem?_eq_getElem hj]
      simp [hj]
    have hjx : j < n * sz := by rw [← hxl]; exact (List.getElem?_eq_some_iff.1 e1).1
    rw [← h4, List.getElem?_take, if_pos hjx, List.getElem?_drop, Array.getElem?_toList] at e1
    refine ⟨?_, by simp [World.frozen?, hg]⟩
    rw [cell_of_row w g _ cur T (0, 0) hg]
    exact e1
theorem Hp.putO (enc : β → Value) {m : Nat} {d : Array β} {os : Array Obj} (h : Hp Z ρ (Row T sz (.slice (some ⟨g, off, none⟩) n cap) n xs :: L) w) (hn : 0 < n) (hd : d.toList.map enc = xs') (hl : xs'.length = n * sz) : Hp Z ρ (Row T sz (.slice (some ⟨g, off, none⟩) n cap) n xs' :: L) (grow (putRow enc (Sort.ahead w m) g off d) os) := by
  rcases h.row.2 with ⟨A, _, hn0⟩ | ⟨g', off', cap', cur, e, hpt, h1, h2, h3, h4⟩
  · omega
  · simp only [Value.slice.injEq, Option.some.injEq, Addr.mk.injEq, and_true, true_and] at e
    obtain ⟨⟨rfl, rfl⟩, rfl⟩ := e
    have hg := hpt.look 0 rfl
    have hds : d.size = n * sz := by rw [← hl, ← hd]; simp
    have hle : n * sz ≤ cap * sz := Nat.mul_le_mul_right _ h1
    have hnew : (putRow enc (Sort.ahead w m) g off d).heap[g]? = some (.cells (putCells enc off d cur) T (0, 0)) := by
      unfold putRow mapBlock
      simp only [Array.getElem?_modify, if_true, heap_ahead, hg, Option.map_some]
      rfl
    have b := (Hp.set (w' := putRow enc (Sort.ahead w m) g off d) hpt rfl rfl rfl hnew (fun k hk => by
      unfold putRow mapBlock
      simp only [Array.getElem?_modify, heap_ahead]
      rw [if_neg (fun e => hk e.symm)])).shutO (off := off) (n := n) (cap := cap) (sz := sz) (xs := xs') h1 h2 (by simp [putCells, h3]) (by
        rw [← hds, putCells_seg enc off d cur (by omega), hd])
    refine b.with_ (w' := grow (putRow enc (Sort.ahead w m) g off d) os) rfl rfl rfl (b.sep.mono fun c o e => ?_)
    have hlt : c < (putRow enc (Sort.ahead w m) g off d).heap.size := (Array.getElem?_eq_some_iff.1 e).1
    show (grow (putRow enc (Sort.ahead w m) g off d) os).heap[c]? = some o
    rw [heap_grow_old _ _ hlt]; exact e
end
section
variable {α : Type} [Inhabited α] [Enc α] {Z : World} {ρ : PH} {L : List Atom} {w : World}
end
end Go.Proofs.YtfajmelamonolaaGreatDoor
