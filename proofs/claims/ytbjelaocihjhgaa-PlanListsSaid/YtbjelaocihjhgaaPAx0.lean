-- printed by this workplace: wip/patchprint.py over the kit's print
import Derived.Test.YtbjelaocihjhgaaProg
import Derived.Lib.SlBytesConst
import Derived.Below
import Derived.Deep.Draws
import Derived.Deep.AppendLies
import Derived.Maps.AppendAt
import Derived.OwnWalk
import Derived.Laws.BytesArg
import Derived.Laws.MakeOwn
import Derived.Laws.OwnMore
import Derived.Deep.OwnRows
import Derived.Tactics
import Derived.Lib.ConvBytes
import Derived.Laws.Slices
import Derived.WalkKit
import Derived.KernelRfl
import Derived.RowKit3
import Derived.Deep.LoopGhost
import Derived.Deep.QuietTactic
import Derived.BigQuiet
import Derived.WideLaws
import Derived.Deep.DeepCutAuto
import Derived.Deep.CutBlock
import Derived.Deep.RegionHeld3
import Derived.Laws.Rows
import Derived.Lib.AppendStr
import Derived.ArgAppend
import Derived.Laws.IdiomCopy
import Derived.OrdersHeld
import Derived.Laws.BitsLemmas
import Derived.RowKit
import Derived.Test.YtbjelaocihjhgaaWWords
import Derived.Test.YtbjelaocihjhgaaWLast
import Derived.Test.YtbjelaocihjhgaaWTab
import Derived.Test.YtbjelaocihjhgaaWFour
import Derived.Test.YtbjelaocihjhgaaWQPut
import Derived.Test.YtbjelaocihjhgaaWApart
import Derived.Test.YtbjelaocihjhgaaWArr
import Derived.Test.YtbjelaocihjhgaaWZeros
import Derived.Test.YtbjelaocihjhgaaWFoot
import Derived.Test.YtbjelaocihjhgaaWKept
import Derived.Test.YtbjelaocihjhgaaWShare
import Derived.Test.YtbjelaocihjhgaaWN
import Derived.Test.YtbjelaocihjhgaaWFootNe
import Derived.Test.YtbjelaocihjhgaaWAt
import Derived.Test.YtbjelaocihjhgaaWEqStruct
import Derived.Test.YtbjelaocihjhgaaWRepsOne
import Derived.Test.YtbjelaocihjhgaaWInv
import Derived.Test.YtbjelaocihjhgaaWInvWords
import Derived.Test.YtbjelaocihjhgaaWGuard
import Derived.Test.YtbjelaocihjhgaaWNEv
import Derived.Test.YtbjelaocihjhgaaWMore
namespace Go.Proofs.Ytbjelaocihjhgaa.PA
open Go.RowKit Go.Proofs.YtbjelaocihjhgaaW.PrintWords Go.Proofs.YtbjelaocihjhgaaW.PrintLast Go.Proofs.YtbjelaocihjhgaaW.PrintMore
attribute [local go_sem] max2_int min2_int max_two min_two max_three min_three max_four min_four   -- for this text's walks alone
set_option linter.unusedVariables false
set_option linter.unusedSimpArgs false



def errW : Option Int → Value
  | none => .nilIface
  | some c => .iface 0 (.int .i64 c)
theorem errW_none : errW none = .nilIface := rfl
theorem errW_some (c : Int) : errW (some c) = .iface 0 (.int .i64 c) := rfl

abbrev T : Bool := true
abbrev F : Bool := false
abbrev kN := @blk_drewN
abbrev kD := @blk_drew
abbrev kA := @blk_alloc
abbrev kF := @blk_frozen
abbrev kC := @blk_cell
abbrev kR := @blk_far
abbrev kP := @blk_put
abbrev kS := @below_set
abbrev kM := @pw_below_drewN
abbrev kE := @below_drew1
abbrev kL := @below_alloc
theorem bxc6 {W : World} {g : Nat} {t : TypeId} {c0 c1 c2 c3 c4 c5 : Value} (h : W.heap[g]? = some (.cells #[c0, c1, c2, c3, c4, c5] t (0, 0))) : W.cell? ⟨g, 0, none⟩ = some c0 ∧ W.cell? ⟨g, 1, none⟩ = some c1 ∧ W.cell? ⟨g, 2, none⟩ = some c2 ∧ W.cell? ⟨g, 3, none⟩ = some c3 ∧ W.cell? ⟨g, 4, none⟩ = some c4 ∧ W.cell? ⟨g, 5, none⟩ = some c5 ∧ W.frozen? ⟨g, 0, none⟩ = false ∧ W.frozen? ⟨g, 1, none⟩ = false ∧ W.frozen? ⟨g, 2, none⟩ = false ∧ W.frozen? ⟨g, 3, none⟩ = false ∧ W.frozen? ⟨g, 4, none⟩ = false ∧ W.frozen? ⟨g, 5, none⟩ = false := ⟨(blk_cell h 0).trans rfl, (blk_cell h 1).trans rfl, (blk_cell h 2).trans rfl, (blk_cell h 3).trans rfl, (blk_cell h 4).trans rfl, (blk_cell h 5).trans rfl, blk_frozen h 0, blk_frozen h 1, blk_frozen h 2, blk_frozen h 3, blk_frozen h 4, blk_frozen h 5⟩
theorem bxp6_0 {W : World} {g : Nat} {t : TypeId} {c1 c2 c3 c4 c5 o u : Value} (h : W.heap[g]? = some (.cells #[o, c1, c2, c3, c4, c5] t (0, 0))) : (W.setCell ⟨g, 0, none⟩ u).heap[g]? = some (.cells #[u, c1, c2, c3, c4, c5] t (0, 0)) := blk_put h 0 u rfl
theorem bxp6_1 {W : World} {g : Nat} {t : TypeId} {c0 c2 c3 c4 c5 o u : Value} (h : W.heap[g]? = some (.cells #[c0, o, c2, c3, c4, c5] t (0, 0))) : (W.setCell ⟨g, 1, none⟩ u).heap[g]? = some (.cells #[c0, u, c2, c3, c4, c5] t (0, 0)) := blk_put h 1 u rfl
theorem bxp6_2 {W : World} {g : Nat} {t : TypeId} {c0 c1 c3 c4 c5 o u : Value} (h : W.heap[g]? = some (.cells #[c0, c1, o, c3, c4, c5] t (0, 0))) : (W.setCell ⟨g, 2, none⟩ u).heap[g]? = some (.cells #[c0, c1, u, c3, c4, c5] t (0, 0)) := blk_put h 2 u rfl
theorem bxp6_3 {W : World} {g : Nat} {t : TypeId} {c0 c1 c2 c4 c5 o u : Value} (h : W.heap[g]? = some (.cells #[c0, c1, c2, o, c4, c5] t (0, 0))) : (W.setCell ⟨g, 3, none⟩ u).heap[g]? = some (.cells #[c0, c1, c2, u, c4, c5] t (0, 0)) := blk_put h 3 u rfl
theorem bxp6_4 {W : World} {g : Nat} {t : TypeId} {c0 c1 c2 c3 c5 o u : Value} (h : W.heap[g]? = some (.cells #[c0, c1, c2, c3, o, c5] t (0, 0))) : (W.setCell ⟨g, 4, none⟩ u).heap[g]? = some (.cells #[c0, c1, c2, c3, u, c5] t (0, 0)) := blk_put h 4 u rfl
theorem bxp6_5 {W : World} {g : Nat} {t : TypeId} {c0 c1 c2 c3 c4 o u : Value} (h : W.heap[g]? = some (.cells #[c0, c1, c2, c3, c4, o] t (0, 0))) : (W.setCell ⟨g, 5, none⟩ u).heap[g]? = some (.cells #[c0, c1, c2, c3, c4, u] t (0, 0)) := blk_put h 5 u rfl
theorem bxw6 {W : World} {g : Nat} {t : TypeId} (c0 c1 c2 c3 c4 c5 : Value) {v0 v1 v2 v3 v4 v5 : Value} (h : W.heap[g]? = some (.cells #[c0, c1, c2, c3, c4, c5] t (0, 0))) : ((((((W.setCell ⟨g, 0, none⟩ v0).setCell ⟨g, 1, none⟩ v1).setCell ⟨g, 2, none⟩ v2).setCell ⟨g, 3, none⟩ v3).setCell ⟨g, 4, none⟩ v4).setCell ⟨g, 5, none⟩ v5).heap[g]? = some (.cells #[v0, v1, v2, v3, v4, v5] t (0, 0)) := bxp6_5 (bxp6_4 (bxp6_3 (bxp6_2 (bxp6_1 (bxp6_0 (h))))))
theorem store_run {P : Program} {a : Act} {o : Oper} {W : World} {ty t' : TypeId} {x y : Operand} {b : Nat} {cells : Array Value} (cs : Array Value) (ho : o.op = .store ty x y) (hx : a.eval x = .pointer (some ⟨b, 0, none⟩)) (hy : a.eval y = .agg cells) (hb : W.heap[b]? = some (.cells cs t' (0, 0))) (hs : cells.size ≤ cs.size) (hi : (P.info? ty).map (·.size) = some cells.size) (h1 : cells.all (·.oneCell') = true) : (execOp a.eval o).run P W = .ok .skip (W.setCells b 0 cells.toList) := by
  have hr := run_storeCells_cells (P := P) b 0 cells.toList 0 W (fun j hj => by simp only [Nat.zero_add]; rw [blk_cell hb j, Array.getElem?_eq_getElem (by simp at hj; omega)]; rfl) (fun j hj => by simp only [Nat.zero_add]; exact blk_frozen hb j)
    (fun v hv => (Array.all_eq_true_iff_forall_mem.1 h1) v (by simpa using hv))
  have hv : (storeVar ty ⟨b, 0, none⟩ (.agg cells)).run P W = .ok () (W.setCells b 0 cells.toList) := by
    cases hq : P.info? ty with
    | none => simp [hq] at hi
    | some i =>
      have hz : cells.size = i.size := by simp [hq] at hi; omega
      simp only [Nat.add_zero] at hr
      simp [storeVar, sizeOf, typeInfo, hq, Value.cells, hz, hr]
  unfold execOp
  simp only [ho, hx, hy, Instr.storeAt, Instr.sureAddr, Sem.run_bind, Sem.run_pure, Result.andThen_ok, hv]
theorem rec_event {P : Program} {ops : Array Oper} {o : Oper} {rest : List Oper} {a : Act} {Q : Exit → Act → World → Prop} {W : World} {t t' : TypeId} {p : Tmp} {v : Operand} {g : Nat} (cs cells : Array Value) (hgd : o.guard = none) (ho : o.op = .store t (.tmp p) v) (hN : o.dst = none)
    (hx : a.eval (.tmp p) = .pointer (some ⟨g, 0, none⟩)) (hy : a.eval v = .agg cells) (hb : W.heap[g]? = some (.cells cs t' (0, 0))) (hs : cells.size = cs.size) (hi : (P.info? t).map (·.size) = some cells.size) (h1 : cells.all (·.oneCell') = true)
    (h : ∀ w', w'.heap[g]? = some (.cells cells t' (0, 0)) → (∀ i, i ≠ g → w'.heap[i]? = W.heap[i]?) → (∀ B, B ≤ g → Below B W w') → wpList P ops Q rest a w') : wpList P ops Q (o :: rest) a W := by
  have hrun := store_run cs ho hx hy hb (Nat.le_of_eq hs) hi h1
  have far : ∀ (vs : List Value) (j : Nat) (W' : World), (∀ i, i ≠ g → (W'.setCells g j vs).heap[i]? = W'.heap[i]?) ∧ (∀ B, B ≤ g → Below B W' (W'.setCells g j vs)) := by
    intro vs
    induction vs with
    | nil => intro j W'; exact ⟨fun _ _ => rfl, fun B _ => Below.refl B W'⟩
    | cons u us ih =>
      intro j W'
      obtain ⟨h1, h2⟩ := ih (j + 1) (W'.setCell ⟨g, j, none⟩ u)
      exact ⟨fun i hi => (h1 i hi).trans (Below.heap_setCell W' ⟨g, j, none⟩ u i hi), fun B hB => ((Below.refl B W').setCell hB u).trans (h2 B hB)⟩
  have put : ∀ (us : List Value) (j : Nat) (W' : World) (ds : Array Value), W'.heap[g]? = some (.cells ds t' (0, 0)) → j + us.length = ds.size → ∃ es : Array Value, (W'.setCells g j us).heap[g]? = some (.cells es t' (0, 0)) ∧ es.toList = ds.toList.take j ++ us := by
    intro us
    induction us with
    | nil => intro j W' ds hW hl; exact ⟨ds, hW, by simp at hl ⊢; rw [List.take_of_length_le (by simp; omega)]⟩
    | cons u us ih =>
      intro j W' ds hW hl
      simp only [List.length_cons] at hl
      obtain ⟨es, h1, h2⟩ := ih (j + 1) (W'.setCell ⟨g, j, none⟩ u) (ds.setIfInBounds j u) (blk_put hW j u rfl) (by simp; omega)
      refine ⟨es, h1, ?_⟩
      rw [h2]
      have : (ds.setIfInBounds j u).toList.take (j + 1) = ds.toList.take j ++ [u] := by
        rw [Array.toList_setIfInBounds, List.take_add_one, List.take_set_of_le (Nat.le_refl j), List.getElem?_set_self (by simp; omega)]
        rfl
      rw [this]; simp
  obtain ⟨es, e1, e2⟩ := put cells.toList 0 W cs hb (by simp; omega)
  have e3 : es = cells := by apply Array.toList_inj.1; simpa using e2
  subst e3
  refine wpList_plain hgd fun K hK => ?_
  unfold Oper.wp
  rw [hrun]
  show K (a.put o.dst undef) _
  rw [hN]
  exact hK _ _ (h _ e1 (far _ _ _).1 (far _ _ _).2)
theorem info2 : (Try.prog.info? 2).map (fun i => (i.zero, i.size, i.bytes)) = some (some (.int .i64 0), 1, 8) := by kernel_rfl
theorem info5 : (Try.prog.info? 5).map (fun i => (i.zero, i.size, i.bytes)) = some (some (.int .u8 0), 1, 1) := by kernel_rfl
theorem info23 : (Try.prog.info? 23).map (fun i => (i.zero, i.size, i.bytes)) = some (some (.agg #[(.int .i64 0), (.int .u8 0), (.int .i64 0), (.int .i64 0), (.bool false), (.bool false)]), 6, 40) := by kernel_rfl
-- the values' own types
/-! #### struct type 23 -/
structure S23 where
  f0 : Int
  f1 : Int
  f2 : Int
  f3 : Int
  f4 : Bool
  f5 : Bool
def z23 : S23 := ⟨(0 : Int), (0 : Int), (0 : Int), (0 : Int), false, false⟩
def k23 : Kd S23 := Kd.iso (Kd.pair (Kd.int .i64) (Kd.pair (Kd.int .u8) (Kd.pair (Kd.int .i64) (Kd.pair (Kd.int .i64) (Kd.pair Kd.bool Kd.bool))))) (fun x : S23 => (x.f0, x.f1, x.f2, x.f3, x.f4, x.f5))
theorem k23_open {w : World} {x : S23} {cs : List Value} (h : k23.K w x cs) : cs = [.int .i64 x.f0, .int .u8 x.f1, .int .i64 x.f2, .int .i64 x.f3, .bool x.f4, .bool x.f5] := by
  obtain ⟨_, _, rfl, rfl, ⟨_, _, rfl, rfl, ⟨_, _, rfl, rfl, ⟨_, _, rfl, rfl, ⟨_, _, rfl, rfl, rfl⟩⟩⟩⟩⟩ := h
  exact rfl
theorem k23_openM {w : World} {base : Nat} {ok : Nat → Prop} {x : S23} {cs : List Value} (h : k23.M w base ok x cs) : cs = [.int .i64 x.f0, .int .u8 x.f1, .int .i64 x.f2, .int .i64 x.f3, .bool x.f4, .bool x.f5] := by
  obtain ⟨_, _, rfl, rfl, ⟨_, _, rfl, rfl, ⟨_, _, rfl, rfl, ⟨_, _, rfl, rfl, ⟨_, _, rfl, rfl, rfl⟩⟩⟩⟩⟩ := h
  exact rfl
theorem k23_mk (w : World) (x : S23)  : k23.K w x [.int .i64 x.f0, .int .u8 x.f1, .int .i64 x.f2, .int .i64 x.f3, .bool x.f4, .bool x.f5] := ⟨[.int .i64 x.f0], [.int .u8 x.f1, .int .i64 x.f2, .int .i64 x.f3, .bool x.f4, .bool x.f5], rfl, rfl, ⟨[.int .u8 x.f1], [.int .i64 x.f2, .int .i64 x.f3, .bool x.f4, .bool x.f5], rfl, rfl, ⟨[.int .i64 x.f2], [.int .i64 x.f3, .bool x.f4, .bool x.f5], rfl, rfl, ⟨[.int .i64 x.f3], [.bool x.f4, .bool x.f5], rfl, rfl, ⟨[.bool x.f4], [.bool x.f5], rfl, rfl, rfl⟩⟩⟩⟩⟩
theorem k23_mkM (w : World) (base : Nat) (ok : Nat → Prop) (x : S23)  : k23.M w base ok x [.int .i64 x.f0, .int .u8 x.f1, .int .i64 x.f2, .int .i64 x.f3, .bool x.f4, .bool x.f5] := ⟨[.int .i64 x.f0], [.int .u8 x.f1, .int .i64 x.f2, .int .i64 x.f3, .bool x.f4, .bool x.f5], rfl, rfl, ⟨[.int .u8 x.f1], [.int .i64 x.f2, .int .i64 x.f3, .bool x.f4, .bool x.f5], rfl, rfl, ⟨[.int .i64 x.f2], [.int .i64 x.f3, .bool x.f4, .bool x.f5], rfl, rfl, ⟨[.int .i64 x.f3], [.bool x.f4, .bool x.f5], rfl, rfl, ⟨[.bool x.f4], [.bool x.f5], rfl, rfl, rfl⟩⟩⟩⟩⟩
def rd_T23 (xs : List S23) (i : Int) : S23 := xs.getD i.toNat z23
theorem at_T23 {w : World} {A : Option Addr} {n : Nat} {xs : List S23} (h : Kd.C k23 w A n xs) (i : Int) (h0 : 0 ≤ i) (h1 : i < n) : ∃ ad , A = some ad ∧ w.cell? (ad.add (i.toNat * 6)) = some (.int .i64 (rd_T23 xs i).f0) ∧ w.cell? ⟨(ad.add (i.toNat * 6)).block, (ad.add (i.toNat * 6)).off + 1, none⟩ = some (.int .u8 (rd_T23 xs i).f1) ∧ w.cell? ⟨(ad.add (i.toNat * 6)).block, (ad.add (i.toNat * 6)).off + 2, none⟩ = some (.int .i64 (rd_T23 xs i).f2) ∧ w.cell? ⟨(ad.add (i.toNat * 6)).block, (ad.add (i.toNat * 6)).off + 3, none⟩ = some (.int .i64 (rd_T23 xs i).f3) ∧ w.cell? ⟨(ad.add (i.toNat * 6)).block, (ad.add (i.toNat * 6)).off + 4, none⟩ = some (.bool (rd_T23 xs i).f4) ∧ w.cell? ⟨(ad.add (i.toNat * 6)).block, (ad.add (i.toNat * 6)).off + 5, none⟩ = some (.bool (rd_T23 xs i).f5) := by
  obtain ⟨ad, c, e, _, hK, hc0⟩ := Kd.C_get h z23 i h0 h1
  have hc : ∀ j u, c[j]? = some u → w.cell? (ad.add (i.toNat * 6 + j)) = some u := hc0
  obtain rfl := k23_open hK
  exact ⟨ad, e, hc 0 _ rfl, by rw [← add_field _ _ 1 (by omega)]; exact hc 1 _ rfl, by rw [← add_field _ _ 2 (by omega)]; exact hc 2 _ rfl, by rw [← add_field _ _ 3 (by omega)]; exact hc 3 _ rfl, by rw [← add_field _ _ 4 (by omega)]; exact hc 4 _ rfl, by rw [← add_field _ _ 5 (by omega)]; exact hc 5 _ rfl⟩

end Go.Proofs.Ytbjelaocihjhgaa.PA
