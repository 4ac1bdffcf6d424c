/-
  How overlaps and pairs are compared: the closures that are handed to slices.SortFunc, in whatever world.
-/
import Derived.Test.YtmfepkadggigpaaLibP
import Derived.Test.YtmfepkadggigpaaLibG
import Derived.Test.YtmfepkadggigpaaShelf
import Derived.Test.YtmfepkadggigpaaClr
import Derived.Test.YtmfepkadggigpaaFct
set_option linter.unusedVariables false
set_option linter.unusedSimpArgs false
namespace Go.Proofs.Ytmfepkadggigpaa
open Go.RowKit Go.Sort
theorem lit3 (W : World) (g : Nat) (hg : g = W.heap.size) (v1 v2 v3 : Value) (t : TypeId) : ((W.alloc (.cells #[v1, v2, v3] t)).drew).cell? ⟨g, 0, none⟩ = some v1 ∧ ((W.alloc (.cells #[v1, v2, v3] t)).drew).cell? ⟨g, 1, none⟩ = some v2 ∧ ((W.alloc (.cells #[v1, v2, v3] t)).drew).cell? ⟨g, 2, none⟩ = some v3 := by
  subst hg
  have h : ((W.alloc (.cells #[v1, v2, v3] t)).drew).heap[W.heap.size]? = some (.cells #[v1, v2, v3] t (0, 0)) := Array.getElem?_push_size
  refine ⟨?_, ?_, ?_⟩ <;> (unfold World.cell?; simp only [h]; rfl)
theorem size2 (W : World) (a b : Obj) : W.heap.size + 1 + 1 = ((W.alloc a).alloc b).heap.size := by simp
def or3 (a b c : Int) : Int := if a ≠ 0 then a else if b ≠ 0 then b else c
set_option maxHeartbeats 2000000 in
theorem or_any (c1 c2 c3 : Int) (g : Nat) (W : World) (h1 : W.cell? ⟨g, 0, none⟩ = some (.int .i64 c1)) (h2 : W.cell? ⟨g, 1, none⟩ = some (.int .i64 c2)) (h3 : W.cell? ⟨g, 2, none⟩ = some (.int .i64 c3)) :
    Calls Try.prog 45 #[.slice (some ⟨g, 0, none⟩) 3 3] W fun e w' => e = .returned (.int .i64 (or3 c1 c2 c3)) ∧ w' = W := by
  unfold or3
  go_enter Try.func45, Try.ntmps45
  go_wp2_with fail
  refine wp_loop_rounds 4 ?_
  rw [rounds_succ]
  go_wp2_with fail
  all_goals try (rw [rounds_succ]; go_wp2_with fail)
  all_goals try (rw [rounds_succ]; go_wp2_with fail)
  all_goals try (rw [rounds_succ]; go_wp2_with fail)
  all_goals try (go_ret; simp_all)
/-- The world has only grown. -/
def Tr (W w : World) : Prop := ∃ q os, w = grow (W.drewN q) os
theorem Tr.refl (W : World) : Tr W W := ⟨0, #[], by simp [grow, World.drewN]⟩
theorem Tr.drew {W w : World} (h : Tr W w) : Tr W w.drew := by
  obtain ⟨q, os, rfl⟩ := h
  exact ⟨q + 1, os, rfl⟩
theorem Tr.alloc {W w : World} (h : Tr W w) (o : Obj) : Tr W (w.alloc o) := by
  obtain ⟨q, os, rfl⟩ := h
  exact ⟨q, os ++ #[o], by rw [alloc_eq_grow, grow_grow]⟩
section
variable {Z : World} {ρ : PH} {L : List Atom} {w W : World}
theorem c_cmpIT (a b : Int) (hp : Hp Z ρ L w) (hT : Tr W w) : Calls Try.prog 46 #[.int .i64 a, .int .i64 b] w (Ret fun v w' => v = .int .i64 (Lib.compareInt a b) ∧ Hp Z ρ L w' ∧ Tr W w') := by
  refine (Try.cmp_Compare_int a b w).mono ?_
  rintro e w' ⟨rfl, rfl⟩
  exact ⟨_, rfl, rfl, hp, hT⟩
theorem c_orT (c1 c2 c3 : Int) (b : Nat) (hp : Hp Z ρ (Pt b (.cells #[.int .i64 c1, .int .i64 c2, .int .i64 c3] 3 (0, 0)) :: L) w) (hT : Tr W w) : Calls Try.prog 45 #[.slice (some ⟨b, 0, none⟩) 3 3] w (Ret fun v w' => v = .int .i64 (or3 c1 c2 c3) ∧ Hp Z ρ (Pt b (.cells #[.int .i64 c1, .int .i64 c2, .int .i64 c3] 3 (0, 0)) :: L) w' ∧ Tr W w') := by
  have h := hp.look 0 rfl
  refine (or_any c1 c2 c3 b w (by simp [World.cell?, h]) (by simp [World.cell?, h]) (by simp [World.cell?, h])).mono ?_
  rintro e w' ⟨rfl, rfl⟩
  exact ⟨_, rfl, rfl, hp, hT⟩
end
section
variable {P : Program} {ops : Array Oper} {Q : Exit → Act → World → Prop} {rest : List Oper} {o : Oper} {a : Act} {w W : World} {N : Nat} {E : Ent} {d : Nat} {Z : World} {ρ : PH} {L : List Atom}
theorem s_boxT (hT : Tr W w) (wk : Region.wanted o (yielded ops a.tmps) = true) (hd : o.dst = some d) (hN : Nat.blt d N = true) (hE : Env N E a) (hp : Hp Z ρ L w) {T : TypeId} {x : Operand} (ho : o.op = .box T x) {v : Value} (hx : evo E x = some v)
    (K : ∀ a w b, Env N ((d, .pointer (some ⟨b, 0, none⟩)) :: E) a → Hp Z ρ (Pt b (.cells v.cells T) :: L) w → Tr W w → wpList P ops Q rest a w) : wpList P ops Q (o :: rest) a w :=
  s_run wk hd hN hE (v := .pointer (some ⟨w.heap.size, 0, none⟩)) (w' := w.alloc (.cells v.cells T)) (by simp [execOp, ho, hE.eval hx, Instr.box, run_new]) fun a' hE' => K a' _ _ hE' (hp.alloc _) (hT.alloc _)
theorem s_litT (hT : Tr W w) (wk : Region.wanted o (yielded ops a.tmps) = true) (hd : o.dst = some d) (hN : Nat.blt d N = true) (hE : Env N E a) (hp : Hp Z ρ L w) {T : TypeId} {n : Nat} {ps : List (Nat × Operand)} (ho : o.op = .buildSlice T n ps.toArray) (vs : List (Nat × Value)) (hx : evP E ps vs)
    (cs : List Value) (El : TypeId) (hr : ∀ w, (Instr.buildSlice T n vs.toArray).run P w = .ok (.slice (some ⟨w.heap.size, 0, none⟩) n n) (w.alloc (.cells cs.toArray El)))
    (K : ∀ a w b, Env N ((d, .slice (some ⟨b, 0, none⟩) n n) :: E) a → Hp Z ρ (Pt b (.cells cs.toArray El (0, 0)) :: L) w → Tr W w → wpList P ops Q rest a w) : wpList P ops Q (o :: rest) a w := by
  have hps : ps.toArray.map (fun p => (p.1, a.eval p.2)) = vs.toArray := by rw [List.map_toArray, evP_map hE hx]
  refine s_run wk hd hN hE (v := .slice (some ⟨w.heap.size, 0, none⟩) n n) (w' := w.alloc (.cells cs.toArray El)) ?_ fun a' hE' => K a' _ _ hE' (hp.alloc _) (hT.alloc _)
  simp only [execOp, ho, hps, Sem.run_bind, hr w]
  rfl
end
set_option maxRecDepth 100000 in
set_option maxHeartbeats 4000000 in
theorem closureO_ {Z : World} {ρ : PH} {L : List Atom} {w W : World} (p0 p1 : Overlap)  (hp : Hp Z ρ (L) w) (hT : Tr W w) :
    Calls Try.prog 54 #[(.agg #[(.int .i64 p0.a), (.int .i64 p0.b), (.int .i64 p0.len)]), (.agg #[(.int .i64 p1.a), (.int .i64 p1.b), (.int .i64 p1.len)])] w (Ret fun v w' => v = .int .i64 (or3 (Lib.compareInt p1.len p0.len) (Lib.compareInt p0.a p1.a) (Lib.compareInt p0.b p1.b)) ∧ Tr W w') := by

  refine enter (N := 22) Try.func54 rfl rfl [(0, (.agg #[(.int .i64 p0.a), (.int .i64 p0.b), (.int .i64 p0.len)])), (1, (.agg #[(.int .i64 p1.a), (.int .i64 p1.b), (.int .i64 p1.len)]))] rfl (argsIn_mem ⟨rfl, rfl, trivial⟩) fun a hE => ?_
  refine k_seq ?_
  refine k_region ?_
  refine s_boxT hT (wk0 rfl) rfl rfl hE hp rfl (v := (.agg #[(.int .i64 p0.a), (.int .i64 p0.b), (.int .i64 p0.len)])) rfl ?_
  intro a w b1 hE hp hT
  have hp : Hp Z ρ (Pt b1 (.cells #[(.int .i64 p0.a), (.int .i64 p0.b), (.int .i64 p0.len)] 63 (0, 0)) :: L) w := hp
  refine s_boxT hT (wk0 rfl) rfl rfl hE hp rfl (v := (.agg #[(.int .i64 p1.a), (.int .i64 p1.b), (.int .i64 p1.len)])) rfl ?_
  intro a w b2 hE hp hT
  have hp : Hp Z ρ (Pt b2 (.cells #[(.int .i64 p1.a), (.int .i64 p1.b), (.int .i64 p1.len)] 63 (0, 0)) :: _ :: L) w := hp
  refine s_val (wk0 rfl) rfl rfl hE hp (v := (.int .i64 0)) (ex_asn rfl hE rfl) ?_
  intro a hE
  refine s_nil ?_
  refine k_seq ?_
  have hT := hT.drew
  have hp := hp.drew
  refine k_heldV ([([], At0 Z ρ), ([], At1 Z ρ (Pt b2 (.cells #[(.int .i64 p1.a), (.int .i64 p1.b), (.int .i64 p1.len)] 63 (0, 0)))), ([], At1 Z ρ (Pt b1 (.cells #[(.int .i64 p0.a), (.int .i64 p0.b), (.int .i64 p0.len)] 63 (0, 0))))] : Facts) (fun a w => (∃ y3 : Nat, Env 22 [(4, (.int .i64 (or3 (Lib.compareInt p1.len p0.len) (Lib.compareInt p0.a p1.a) (Lib.compareInt p0.b p1.b))))] a ∧ Hp Z ρ (OwnSl 3 (.slice (some ⟨y3, 0, none⟩) 3 3) ([Lib.compareInt p1.len p0.len, Lib.compareInt p0.a p1.a, Lib.compareInt p0.b p1.b] : List Int) :: Pt b2 (.cells #[(.int .i64 p1.a), (.int .i64 p1.b), (.int .i64 p1.len)] 63 (0, 0)) :: Pt b1 (.cells #[(.int .i64 p0.a), (.int .i64 p0.b), (.int .i64 p0.len)] 63 (0, 0)) :: L) w) ∧ Tr W w) (by kernel_rfl) ⟨fun _ => ⟨_, hp⟩, fun _ => ⟨_, (hp.get 0 rfl)⟩, fun _ => ⟨_, (hp.get 1 rfl)⟩, trivial⟩ (fun hS => ?_) ?_
  ·
    generalize w.drew = w at hS hp hT ⊢
    refine v_take0 0 (wk0 rfl) rfl rfl rfl hE (by kernel_rfl) (by kernel_rfl) (by kernel_rfl) rfl (by kernel_rfl) hS (v := (.pointer (some ⟨b2, 2, none⟩))) (fun _ => ex_field rfl hE rfl (fldty63_2 _ _)) ?_
    intro a hE hS
    refine v_take1 1 1 (wk0 rfl) rfl rfl rfl hE (by kernel_rfl) (by kernel_rfl) (by kernel_rfl) rfl (by kernel_rfl) hS (v := (.int .i64 p1.len)) (fun _ => ex_load rfl hE rfl (fun w hw => run_ld1 varty3 (Hp.c 0 rfl 2 rfl w hw))) ?_
    intro a hE hS
    refine v_take0 2 (wk0 rfl) rfl rfl rfl hE (by kernel_rfl) (by kernel_rfl) (by kernel_rfl) rfl (by kernel_rfl) hS (v := (.pointer (some ⟨b1, 2, none⟩))) (fun _ => ex_field rfl hE rfl (fldty63_2 _ _)) ?_
    intro a hE hS
    refine v_take1 3 2 (wk0 rfl) rfl rfl rfl hE (by kernel_rfl) (by kernel_rfl) (by kernel_rfl) rfl (by kernel_rfl) hS (v := (.int .i64 p0.len)) (fun _ => ex_load rfl hE rfl (fun w hw => run_ld1 varty3 (Hp.c 0 rfl 2 rfl w hw))) ?_
    intro a hE hS
    refine v_take0 5 (wk0 rfl) rfl rfl rfl hE (by kernel_rfl) (by kernel_rfl) (by kernel_rfl) rfl (by kernel_rfl) hS (v := (.pointer (some ⟨b1, 0, none⟩))) (fun _ => ex_field rfl hE rfl (fldty63_0 _ _)) ?_
    intro a hE hS
    refine v_take1 6 2 (wk0 rfl) rfl rfl rfl hE (by kernel_rfl) (by kernel_rfl) (by kernel_rfl) rfl (by kernel_rfl) hS (v := (.int .i64 p0.a)) (fun _ => ex_load rfl hE rfl (fun w hw => run_ld1 varty3 (Hp.c 0 rfl 0 rfl w hw))) ?_
    intro a hE hS
    refine v_take0 7 (wk0 rfl) rfl rfl rfl hE (by kernel_rfl) (by kernel_rfl) (by kernel_rfl) rfl (by kernel_rfl) hS (v := (.pointer (some ⟨b2, 0, none⟩))) (fun _ => ex_field rfl hE rfl (fldty63_0 _ _)) ?_
    intro a hE hS
    refine v_take1 8 1 (wk0 rfl) rfl rfl rfl hE (by kernel_rfl) (by kernel_rfl) (by kernel_rfl) rfl (by kernel_rfl) hS (v := (.int .i64 p1.a)) (fun _ => ex_load rfl hE rfl (fun w hw => run_ld1 varty3 (Hp.c 0 rfl 0 rfl w hw))) ?_
    intro a hE hS
    refine v_take0 10 (wk0 rfl) rfl rfl rfl hE (by kernel_rfl) (by kernel_rfl) (by kernel_rfl) rfl (by kernel_rfl) hS (v := (.pointer (some ⟨b1, 1, none⟩))) (fun _ => ex_field rfl hE rfl (fldty63_1 _ _)) ?_
    intro a hE hS
    refine v_take1 11 2 (wk0 rfl) rfl rfl rfl hE (by kernel_rfl) (by kernel_rfl) (by kernel_rfl) rfl (by kernel_rfl) hS (v := (.int .i64 p0.b)) (fun _ => ex_load rfl hE rfl (fun w hw => run_ld1 varty3 (Hp.c 0 rfl 1 rfl w hw))) ?_
    intro a hE hS
    refine v_take0 12 (wk0 rfl) rfl rfl rfl hE (by kernel_rfl) (by kernel_rfl) (by kernel_rfl) rfl (by kernel_rfl) hS (v := (.pointer (some ⟨b2, 1, none⟩))) (fun _ => ex_field rfl hE rfl (fldty63_1 _ _)) ?_
    intro a hE hS
    refine v_take1 13 1 (wk0 rfl) rfl rfl rfl hE (by kernel_rfl) (by kernel_rfl) (by kernel_rfl) rfl (by kernel_rfl) hS (v := (.int .i64 p1.b)) (fun _ => ex_load rfl hE rfl (fun w hw => run_ld1 varty3 (Hp.c 0 rfl 1 rfl w hw))) ?_
    intro a hE hS
    refine v_all [4] (by kernel_rfl) rfl ?_
    refine List.forall_mem_cons.2 ⟨?_, fun _ h => absurd h (by simp)⟩
    ·
      refine h_op rfl ?_
      refine s_call (wk0 rfl) rfl rfl hE rfl [(.int .i64 p1.len), (.int .i64 p0.len)] ⟨rfl, rfl, trivial⟩ ent46 (c_cmpIT p1.len p0.len hp hT) Ret.ret ?_
      intro v a w hR hE
      obtain ⟨rfl, hp, hT⟩ := Ret.of hR
      have hp : Hp Z ρ (_ :: _ :: L) w := hp
      refine s_nil (and_with ⟨fun _ => ⟨_, hp⟩, fun _ => ⟨_, (hp.get 0 rfl)⟩, fun _ => ⟨_, (hp.get 1 rfl)⟩, trivial⟩ fun hS => ?_)
      refine v_all [9] (by kernel_rfl) rfl ?_
      refine List.forall_mem_cons.2 ⟨?_, fun _ h => absurd h (by simp)⟩
      ·
        refine h_op rfl ?_
        refine s_call (wk0 rfl) rfl rfl hE rfl [(.int .i64 p0.a), (.int .i64 p1.a)] ⟨rfl, rfl, trivial⟩ ent46 (c_cmpIT p0.a p1.a hp hT) Ret.ret ?_
        intro v a w hR hE
        obtain ⟨rfl, hp, hT⟩ := Ret.of hR
        have hp : Hp Z ρ (_ :: _ :: L) w := hp
        refine s_nil (and_with ⟨fun _ => ⟨_, hp⟩, fun _ => ⟨_, (hp.get 0 rfl)⟩, fun _ => ⟨_, (hp.get 1 rfl)⟩, trivial⟩ fun hS => ?_)
        refine v_all [14] (by kernel_rfl) rfl ?_
        refine List.forall_mem_cons.2 ⟨?_, fun _ h => absurd h (by simp)⟩
        ·
          refine h_op rfl ?_
          refine s_call (wk0 rfl) rfl rfl hE rfl [(.int .i64 p0.b), (.int .i64 p1.b)] ⟨rfl, rfl, trivial⟩ ent46 (c_cmpIT p0.b p1.b hp hT) Ret.ret ?_
          intro v a w hR hE
          obtain ⟨rfl, hp, hT⟩ := Ret.of hR
          have hp : Hp Z ρ (_ :: _ :: L) w := hp
          refine s_nil (and_with ⟨fun _ => ⟨_, hp⟩, fun _ => ⟨_, (hp.get 0 rfl)⟩, fun _ => ⟨_, (hp.get 1 rfl)⟩, trivial⟩ fun hS => ?_)
          refine v_all [15] (by kernel_rfl) rfl ?_
          refine List.forall_mem_cons.2 ⟨?_, fun _ h => absurd h (by simp)⟩
          ·
            refine h_op rfl ?_
            refine s_litT hT (wk0 rfl) rfl rfl hE hp rfl [(0, (.int .i64 (Lib.compareInt p1.len p0.len))), (1, (.int .i64 (Lib.compareInt p0.a p1.a))), (2, (.int .i64 (Lib.compareInt p0.b p1.b)))] ⟨⟨rfl, rfl⟩, ⟨rfl, rfl⟩, ⟨rfl, rfl⟩, trivial⟩ [(.int .i64 (Lib.compareInt p1.len p0.len)), (.int .i64 (Lib.compareInt p0.a p1.a)), (.int .i64 (Lib.compareInt p0.b p1.b))] 3 (fun w => by simp [Instr.buildSlice, Instr.fill, Value.cells, go_sem]) ?_
            intro a w b4 hE hp hT
            have hp : Hp Z ρ (Pt b4 (.cells #[(.int .i64 (Lib.compareInt p1.len p0.len)), (.int .i64 (Lib.compareInt p0.a p1.a)), (.int .i64 (Lib.compareInt p0.b p1.b))] 3 (0, 0)) :: _ :: _ :: L) w := hp
            refine s_nil (and_with ⟨fun _ => ⟨_, hp⟩, fun _ => ⟨_, (hp.get 1 rfl)⟩, fun _ => ⟨_, (hp.get 2 rfl)⟩, trivial⟩ fun hS => ?_)
            refine v_all [16] (by kernel_rfl) rfl ?_
            refine List.forall_mem_cons.2 ⟨?_, fun _ h => absurd h (by simp)⟩
            ·
              refine h_op rfl ?_
              refine s_call (wk0 rfl) rfl rfl hE rfl [(.slice (some ⟨b4, 0, none⟩) 3 3)] ⟨rfl, trivial⟩ ent45 (c_orT (Lib.compareInt p1.len p0.len) (Lib.compareInt p0.a p1.a) (Lib.compareInt p0.b p1.b) b4 hp hT) Ret.ret ?_
              intro v a w hR hE
              obtain ⟨rfl, hp, hT⟩ := Ret.of hR
              have hp := (hp.get 0 rfl).imp (own_of_pt (l := (([Lib.compareInt p1.len p0.len, Lib.compareInt p0.a p1.a, Lib.compareInt p0.b p1.b] : List Int) : List Int)) (n := 3) rfl (by decide) rfl)
              have hp : Hp Z ρ (_ :: _ :: _ :: L) w := hp
              refine s_nil (and_with ⟨fun _ => ⟨_, hp⟩, fun _ => ⟨_, (hp.get 1 rfl)⟩, fun _ => ⟨_, (hp.get 2 rfl)⟩, trivial⟩ fun hS => ?_)
              refine v_take0 17 (wk0 rfl) rfl rfl rfl hE (by kernel_rfl) (by kernel_rfl) (by kernel_rfl) rfl (by kernel_rfl) hS (v := (.int .i64 (or3 (Lib.compareInt p1.len p0.len) (Lib.compareInt p0.a p1.a) (Lib.compareInt p0.b p1.b)))) (fun _ => ex_asn rfl hE rfl) ?_
              intro a hE hS
              exact v_done (by kernel_rfl) ⟨⟨_, hE.cut ⟨rfl, trivial⟩, hp⟩, hT⟩
  · rintro a w ⟨⟨y3, hE, hp⟩, hT⟩
    refine k_ret ?_
    exact ret1 hE rfl rfl ⟨_, rfl, rfl, hT⟩
set_option maxRecDepth 100000 in
set_option maxHeartbeats 4000000 in
theorem closureP_ {Z : World} {ρ : PH} {L : List Atom} {w W : World} (p0 p1 : Pair) {x1 x2 : Int} (ex1 : inK .i64 (p1.shared * p0.total) = some x1) (ex2 : inK .i64 (p0.shared * p1.total) = some x2) (hp : Hp Z ρ (L) w) (hT : Tr W w) :
    Calls Try.prog 44 #[(.agg #[(.int .i64 p0.a), (.int .i64 p0.b), (.int .i64 p0.shared), (.int .i64 p0.total)]), (.agg #[(.int .i64 p1.a), (.int .i64 p1.b), (.int .i64 p1.shared), (.int .i64 p1.total)])] w (Ret fun v w' => v = .int .i64 (or3 (Lib.compareInt x1 x2) (Lib.compareInt p0.a p1.a) (Lib.compareInt p0.b p1.b)) ∧ Tr W w') := by

  refine enter (N := 28) Try.func44 rfl rfl [(0, (.agg #[(.int .i64 p0.a), (.int .i64 p0.b), (.int .i64 p0.shared), (.int .i64 p0.total)])), (1, (.agg #[(.int .i64 p1.a), (.int .i64 p1.b), (.int .i64 p1.shared), (.int .i64 p1.total)]))] rfl (argsIn_mem ⟨rfl, rfl, trivial⟩) fun a hE => ?_
  refine k_seq ?_
  refine k_region ?_
  refine s_boxT hT (wk0 rfl) rfl rfl hE hp rfl (v := (.agg #[(.int .i64 p0.a), (.int .i64 p0.b), (.int .i64 p0.shared), (.int .i64 p0.total)])) rfl ?_
  intro a w b1 hE hp hT
  have hp : Hp Z ρ (Pt b1 (.cells #[(.int .i64 p0.a), (.int .i64 p0.b), (.int .i64 p0.shared), (.int .i64 p0.total)] 52 (0, 0)) :: L) w := hp
  refine s_boxT hT (wk0 rfl) rfl rfl hE hp rfl (v := (.agg #[(.int .i64 p1.a), (.int .i64 p1.b), (.int .i64 p1.shared), (.int .i64 p1.total)])) rfl ?_
  intro a w b2 hE hp hT
  have hp : Hp Z ρ (Pt b2 (.cells #[(.int .i64 p1.a), (.int .i64 p1.b), (.int .i64 p1.shared), (.int .i64 p1.total)] 52 (0, 0)) :: _ :: L) w := hp
  refine s_val (wk0 rfl) rfl rfl hE hp (v := (.int .i64 0)) (ex_asn rfl hE rfl) ?_
  intro a hE
  refine s_nil ?_
  refine k_seq ?_
  have hT := hT.drew
  have hp := hp.drew
  refine k_heldV ([([], At0 Z ρ), ([], At1 Z ρ (Pt b2 (.cells #[(.int .i64 p1.a), (.int .i64 p1.b), (.int .i64 p1.shared), (.int .i64 p1.total)] 52 (0, 0)))), ([], At1 Z ρ (Pt b1 (.cells #[(.int .i64 p0.a), (.int .i64 p0.b), (.int .i64 p0.shared), (.int .i64 p0.total)] 52 (0, 0))))] : Facts) (fun a w => (∃ y3 : Nat, Env 28 [(4, (.int .i64 (or3 (Lib.compareInt x1 x2) (Lib.compareInt p0.a p1.a) (Lib.compareInt p0.b p1.b))))] a ∧ Hp Z ρ (OwnSl 3 (.slice (some ⟨y3, 0, none⟩) 3 3) ([Lib.compareInt x1 x2, Lib.compareInt p0.a p1.a, Lib.compareInt p0.b p1.b] : List Int) :: Pt b2 (.cells #[(.int .i64 p1.a), (.int .i64 p1.b), (.int .i64 p1.shared), (.int .i64 p1.total)] 52 (0, 0)) :: Pt b1 (.cells #[(.int .i64 p0.a), (.int .i64 p0.b), (.int .i64 p0.shared), (.int .i64 p0.total)] 52 (0, 0)) :: L) w) ∧ Tr W w) (by kernel_rfl) ⟨fun _ => ⟨_, hp⟩, fun _ => ⟨_, (hp.get 0 rfl)⟩, fun _ => ⟨_, (hp.get 1 rfl)⟩, trivial⟩ (fun hS => ?_) ?_
  ·
    generalize w.drew = w at hS hp hT ⊢
    refine v_take0 0 (wk0 rfl) rfl rfl rfl hE (by kernel_rfl) (by kernel_rfl) (by kernel_rfl) rfl (by kernel_rfl) hS (v := (.pointer (some ⟨b2, 2, none⟩))) (fun _ => ex_field rfl hE rfl (fldty52_2 _ _)) ?_
    intro a hE hS
    refine v_take1 1 1 (wk0 rfl) rfl rfl rfl hE (by kernel_rfl) (by kernel_rfl) (by kernel_rfl) rfl (by kernel_rfl) hS (v := (.int .i64 p1.shared)) (fun _ => ex_load rfl hE rfl (fun w hw => run_ld1 varty3 (Hp.c 0 rfl 2 rfl w hw))) ?_
    intro a hE hS
    refine v_take0 2 (wk0 rfl) rfl rfl rfl hE (by kernel_rfl) (by kernel_rfl) (by kernel_rfl) rfl (by kernel_rfl) hS (v := (.pointer (some ⟨b1, 3, none⟩))) (fun _ => ex_field rfl hE rfl (fldty52_3 _ _)) ?_
    intro a hE hS
    refine v_take1 3 2 (wk0 rfl) rfl rfl rfl hE (by kernel_rfl) (by kernel_rfl) (by kernel_rfl) rfl (by kernel_rfl) hS (v := (.int .i64 p0.total)) (fun _ => ex_load rfl hE rfl (fun w hw => run_ld1 varty3 (Hp.c 0 rfl 3 rfl w hw))) ?_
    intro a hE hS
    refine v_take0 4 (wk0 rfl) rfl rfl rfl hE (by kernel_rfl) (by kernel_rfl) (by kernel_rfl) rfl (by kernel_rfl) hS (v := (.int .i64 x1)) (fun _ => ex_mul rfl hE rfl rfl (inK_some ex1)) ?_
    intro a hE hS
    refine v_take0 5 (wk0 rfl) rfl rfl rfl hE (by kernel_rfl) (by kernel_rfl) (by kernel_rfl) rfl (by kernel_rfl) hS (v := (.pointer (some ⟨b1, 2, none⟩))) (fun _ => ex_field rfl hE rfl (fldty52_2 _ _)) ?_
    intro a hE hS
    refine v_take1 6 2 (wk0 rfl) rfl rfl rfl hE (by kernel_rfl) (by kernel_rfl) (by kernel_rfl) rfl (by kernel_rfl) hS (v := (.int .i64 p0.shared)) (fun _ => ex_load rfl hE rfl (fun w hw => run_ld1 varty3 (Hp.c 0 rfl 2 rfl w hw))) ?_
    intro a hE hS
    refine v_take0 7 (wk0 rfl) rfl rfl rfl hE (by kernel_rfl) (by kernel_rfl) (by kernel_rfl) rfl (by kernel_rfl) hS (v := (.pointer (some ⟨b2, 3, none⟩))) (fun _ => ex_field rfl hE rfl (fldty52_3 _ _)) ?_
    intro a hE hS
    refine v_take1 8 1 (wk0 rfl) rfl rfl rfl hE (by kernel_rfl) (by kernel_rfl) (by kernel_rfl) rfl (by kernel_rfl) hS (v := (.int .i64 p1.total)) (fun _ => ex_load rfl hE rfl (fun w hw => run_ld1 varty3 (Hp.c 0 rfl 3 rfl w hw))) ?_
    intro a hE hS
    refine v_take0 9 (wk0 rfl) rfl rfl rfl hE (by kernel_rfl) (by kernel_rfl) (by kernel_rfl) rfl (by kernel_rfl) hS (v := (.int .i64 x2)) (fun _ => ex_mul rfl hE rfl rfl (inK_some ex2)) ?_
    intro a hE hS
    refine v_take0 11 (wk0 rfl) rfl rfl rfl hE (by kernel_rfl) (by kernel_rfl) (by kernel_rfl) rfl (by kernel_rfl) hS (v := (.pointer (some ⟨b1, 0, none⟩))) (fun _ => ex_field rfl hE rfl (fldty52_0 _ _)) ?_
    intro a hE hS
    refine v_take1 12 2 (wk0 rfl) rfl rfl rfl hE (by kernel_rfl) (by kernel_rfl) (by kernel_rfl) rfl (by kernel_rfl) hS (v := (.int .i64 p0.a)) (fun _ => ex_load rfl hE rfl (fun w hw => run_ld1 varty3 (Hp.c 0 rfl 0 rfl w hw))) ?_
    intro a hE hS
    refine v_take0 13 (wk0 rfl) rfl rfl rfl hE (by kernel_rfl) (by kernel_rfl) (by kernel_rfl) rfl (by kernel_rfl) hS (v := (.pointer (some ⟨b2, 0, none⟩))) (fun _ => ex_field rfl hE rfl (fldty52_0 _ _)) ?_
    intro a hE hS
    refine v_take1 14 1 (wk0 rfl) rfl rfl rfl hE (by kernel_rfl) (by kernel_rfl) (by kernel_rfl) rfl (by kernel_rfl) hS (v := (.int .i64 p1.a)) (fun _ => ex_load rfl hE rfl (fun w hw => run_ld1 varty3 (Hp.c 0 rfl 0 rfl w hw))) ?_
    intro a hE hS
    refine v_take0 16 (wk0 rfl) rfl rfl rfl hE (by kernel_rfl) (by kernel_rfl) (by kernel_rfl) rfl (by kernel_rfl) hS (v := (.pointer (some ⟨b1, 1, none⟩))) (fun _ => ex_field rfl hE rfl (fldty52_1 _ _)) ?_
    intro a hE hS
    refine v_take1 17 2 (wk0 rfl) rfl rfl rfl hE (by kernel_rfl) (by kernel_rfl) (by kernel_rfl) rfl (by kernel_rfl) hS (v := (.int .i64 p0.b)) (fun _ => ex_load rfl hE rfl (fun w hw => run_ld1 varty3 (Hp.c 0 rfl 1 rfl w hw))) ?_
    intro a hE hS
    refine v_take0 18 (wk0 rfl) rfl rfl rfl hE (by kernel_rfl) (by kernel_rfl) (by kernel_rfl) rfl (by kernel_rfl) hS (v := (.pointer (some ⟨b2, 1, none⟩))) (fun _ => ex_field rfl hE rfl (fldty52_1 _ _)) ?_
    intro a hE hS
    refine v_take1 19 1 (wk0 rfl) rfl rfl rfl hE (by kernel_rfl) (by kernel_rfl) (by kernel_rfl) rfl (by kernel_rfl) hS (v := (.int .i64 p1.b)) (fun _ => ex_load rfl hE rfl (fun w hw => run_ld1 varty3 (Hp.c 0 rfl 1 rfl w hw))) ?_
    intro a hE hS
    refine v_all [10] (by kernel_rfl) rfl ?_
    refine List.forall_mem_cons.2 ⟨?_, fun _ h => absurd h (by simp)⟩
    ·
      refine h_op rfl ?_
      refine s_call (wk0 rfl) rfl rfl hE rfl [(.int .i64 x1), (.int .i64 x2)] ⟨rfl, rfl, trivial⟩ ent46 (c_cmpIT x1 x2 hp hT) Ret.ret ?_
      intro v a w hR hE
      obtain ⟨rfl, hp, hT⟩ := Ret.of hR
      have hp : Hp Z ρ (_ :: _ :: L) w := hp
      refine s_nil (and_with ⟨fun _ => ⟨_, hp⟩, fun _ => ⟨_, (hp.get 0 rfl)⟩, fun _ => ⟨_, (hp.get 1 rfl)⟩, trivial⟩ fun hS => ?_)
      refine v_all [15] (by kernel_rfl) rfl ?_
      refine List.forall_mem_cons.2 ⟨?_, fun _ h => absurd h (by simp)⟩
      ·
        refine h_op rfl ?_
        refine s_call (wk0 rfl) rfl rfl hE rfl [(.int .i64 p0.a), (.int .i64 p1.a)] ⟨rfl, rfl, trivial⟩ ent46 (c_cmpIT p0.a p1.a hp hT) Ret.ret ?_
        intro v a w hR hE
        obtain ⟨rfl, hp, hT⟩ := Ret.of hR
        have hp : Hp Z ρ (_ :: _ :: L) w := hp
        refine s_nil (and_with ⟨fun _ => ⟨_, hp⟩, fun _ => ⟨_, (hp.get 0 rfl)⟩, fun _ => ⟨_, (hp.get 1 rfl)⟩, trivial⟩ fun hS => ?_)
        refine v_all [20] (by kernel_rfl) rfl ?_
        refine List.forall_mem_cons.2 ⟨?_, fun _ h => absurd h (by simp)⟩
        ·
          refine h_op rfl ?_
          refine s_call (wk0 rfl) rfl rfl hE rfl [(.int .i64 p0.b), (.int .i64 p1.b)] ⟨rfl, rfl, trivial⟩ ent46 (c_cmpIT p0.b p1.b hp hT) Ret.ret ?_
          intro v a w hR hE
          obtain ⟨rfl, hp, hT⟩ := Ret.of hR
          have hp : Hp Z ρ (_ :: _ :: L) w := hp
          refine s_nil (and_with ⟨fun _ => ⟨_, hp⟩, fun _ => ⟨_, (hp.get 0 rfl)⟩, fun _ => ⟨_, (hp.get 1 rfl)⟩, trivial⟩ fun hS => ?_)
          refine v_all [21] (by kernel_rfl) rfl ?_
          refine List.forall_mem_cons.2 ⟨?_, fun _ h => absurd h (by simp)⟩
          ·
            refine h_op rfl ?_
            refine s_litT hT (wk0 rfl) rfl rfl hE hp rfl [(0, (.int .i64 (Lib.compareInt x1 x2))), (1, (.int .i64 (Lib.compareInt p0.a p1.a))), (2, (.int .i64 (Lib.compareInt p0.b p1.b)))] ⟨⟨rfl, rfl⟩, ⟨rfl, rfl⟩, ⟨rfl, rfl⟩, trivial⟩ [(.int .i64 (Lib.compareInt x1 x2)), (.int .i64 (Lib.compareInt p0.a p1.a)), (.int .i64 (Lib.compareInt p0.b p1.b))] 3 (fun w => by simp [Instr.buildSlice, Instr.fill, Value.cells, go_sem]) ?_
            intro a w b4 hE hp hT
            have hp : Hp Z ρ (Pt b4 (.cells #[(.int .i64 (Lib.compareInt x1 x2)), (.int .i64 (Lib.compareInt p0.a p1.a)), (.int .i64 (Lib.compareInt p0.b p1.b))] 3 (0, 0)) :: _ :: _ :: L) w := hp
            refine s_nil (and_with ⟨fun _ => ⟨_, hp⟩, fun _ => ⟨_, (hp.get 1 rfl)⟩, fun _ => ⟨_, (hp.get 2 rfl)⟩, trivial⟩ fun hS => ?_)
            refine v_all [22] (by kernel_rfl) rfl ?_
            refine List.forall_mem_cons.2 ⟨?_, fun _ h => absurd h (by simp)⟩
            ·
              refine h_op rfl ?_
              refine s_call (wk0 rfl) rfl rfl hE rfl [(.slice (some ⟨b4, 0, none⟩) 3 3)] ⟨rfl, trivial⟩ ent45 (c_orT (Lib.compareInt x1 x2) (Lib.compareInt p0.a p1.a) (Lib.compareInt p0.b p1.b) b4 hp hT) Ret.ret ?_
              intro v a w hR hE
              obtain ⟨rfl, hp, hT⟩ := Ret.of hR
              have hp := (hp.get 0 rfl).imp (own_of_pt (l := (([Lib.compareInt x1 x2, Lib.compareInt p0.a p1.a, Lib.compareInt p0.b p1.b] : List Int) : List Int)) (n := 3) rfl (by decide) rfl)
              have hp : Hp Z ρ (_ :: _ :: _ :: L) w := hp
              refine s_nil (and_with ⟨fun _ => ⟨_, hp⟩, fun _ => ⟨_, (hp.get 1 rfl)⟩, fun _ => ⟨_, (hp.get 2 rfl)⟩, trivial⟩ fun hS => ?_)
              refine v_take0 23 (wk0 rfl) rfl rfl rfl hE (by kernel_rfl) (by kernel_rfl) (by kernel_rfl) rfl (by kernel_rfl) hS (v := (.int .i64 (or3 (Lib.compareInt x1 x2) (Lib.compareInt p0.a p1.a) (Lib.compareInt p0.b p1.b)))) (fun _ => ex_asn rfl hE rfl) ?_
              intro a hE hS
              exact v_done (by kernel_rfl) ⟨⟨_, hE.cut ⟨rfl, trivial⟩, hp⟩, hT⟩
  · rintro a w ⟨⟨y3, hE, hp⟩, hT⟩
    refine k_ret ?_
    exact ret1 hE rfl rfl ⟨_, rfl, rfl, hT⟩
end Go.Proofs.Ytmfepkadggigpaa
