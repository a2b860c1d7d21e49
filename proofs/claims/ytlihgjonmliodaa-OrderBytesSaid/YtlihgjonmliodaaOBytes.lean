/- OrderBytes: an order as bytes, and back; one that may not be has none. -/
import Derived.Test.YtlihgjonmliodaaOrdA
import Derived.Test.YtlihgjonmliodaaPureDec2
import Derived.Test.YtlihgjonmliodaaPAx29
import Derived.Deep.LoopGhost
import Derived.LoopTactic
import Derived.BigQuiet
import Derived.Deep.RegionLaw
import Derived.Laws.Rows
import Derived.Laws.Tables
import Derived.Laws.CopyOwn
namespace Go.Proofs.Ytlihgjonmliodaa
open Go.RowKit Go.Proofs.Ytlihgjonmliodaa.PA Go.Proofs.YtlihgjonmliodaaW.PrintWords Go.Proofs.YtlihgjonmliodaaW.PrintLast Go.Proofs.YtlihgjonmliodaaW.PrintMore
open Go.Proofs.Ytlihgjonmliodaa.Pure (Near Byt packsI packI near_f encode_ev decode_ev decode_any lawright_near rights awake_ev packsI_len packsI_byt byt_of packs_ev)
set_option linter.unusedVariables false
set_option linter.unusedSimpArgs false
theorem row_at0 {w : World} {base : Nat} {ok : Nat → Prop} {v : Value} {r : List Int} (h : Kd.R (Kd.int .u8) 5 w base ok v r) : ∃ A c, v = .slice A r.length c ∧ r.length ≤ c ∧ Kd.C (Kd.int .u8) w A r.length r := Kd.R_reads h
theorem packs_c {l p : List Int} (A : Option Addr) (C : Nat) (w : World) (hr : Kd.C (Kd.int .i64) w A l.length l) (hc : l.length ≤ C) (hi : ∀ x ∈ l, Pure.I64 x) (hl : l.length ≤ 100) (hp : p = packsI l) :
    Calls Try.prog 25 #[.slice A l.length C] w fun e w' => ∃ v, e = .returned v ∧ Kd.R (Kd.int .u8) 5 w' w.heap.size (fun _ => True) v p ∧ Below w.heap.size w w' := by
  subst hp
  obtain ⟨k, hk⟩ := packs_ev hi (by omega)
  exact paybookref05_Packs.calls k A C l _ w hr hc (hk k (Nat.le_refl _))
/-- The numbers of an order that may be, by its kind. -/
theorem near_form {a0 a1 a2 a3 a4 a5 a6 a7 : Int} {a8 a9 : Bool} {b0 b1 b2 b3 b4 b5 : Int} {l : List Int} (h : Near a0 a1 a2 a3 a4 a5 a6 a7 a8 a9 b0 b1 b2 b3 b4 b5 l) :
    wrap64 a0 = a0 ∧ wrap64 a5 = a5 ∧ wrap64 b0 = b0 ∧ wrap64 b5 = b5 ∧ ((a0 = 1 ∧ l = [a0, a4, a5, a6, a7, if a8 then 1 else 0, if a9 then 1 else 0]) ∨ (a0 = 2 ∧ l = [a0, a1, a2]) ∨ (a0 = 3 ∧ l = [a0, a1, a2]) ∨ (((a0 == 1) = false ∧ (a0 == 2) = false ∧ (a0 == 3) = false ∧ (a0 == 9) = false ∧ (a0 == 10) = false) ∧ l = [a0, a1]) ∨ (a0 = 9 ∧ l = [a0, a3]) ∨ (a0 = 10 ∧ l = [a0, b0, b1, b2, b3, b4, b5])) := by
  have w : ∀ x : Int, 0 ≤ x → x ≤ 255 → wrap64 x = x := fun x h1 h2 => by unfold wrap64; omega
  cases h with
  | define g l h => exact ⟨w _ (by omega) (by omega), w _ (by omega) (by omega), w _ (by omega) (by omega), w _ (by omega) (by omega), .inl ⟨rfl, rfl⟩⟩
  | with2 h =>
    refine ⟨w _ (by omega) (by omega), w _ (by omega) (by omega), w _ (by omega) (by omega), w _ (by omega) (by omega), ?_⟩
    rcases h.1 with rfl | rfl
    · exact .inr (.inl ⟨rfl, rfl⟩)
    · exact .inr (.inr (.inl ⟨rfl, rfl⟩))
  | with1 h =>
    refine ⟨w _ (by omega) (by omega), w _ (by omega) (by omega), w _ (by omega) (by omega), w _ (by omega) (by omega), .inr (.inr (.inr (.inl ⟨⟨?_, ?_, ?_, ?_, ?_⟩, rfl⟩)))⟩ <;> (simp; omega)
  | pass h => exact ⟨w _ (by omega) (by omega), w _ (by omega) (by omega), w _ (by omega) (by omega), w _ (by omega) (by omega), .inr (.inr (.inr (.inr (.inl ⟨rfl, rfl⟩))))⟩
  | hear h =>
    have hq := h
    unfold Pure.noticeR at hq
    exact ⟨w _ (by omega) (by omega), w _ (by omega) (by omega), w _ (by omega) (by omega), w _ (by omega) (by omega), .inr (.inr (.inr (.inr (.inr ⟨rfl, rfl⟩))))⟩
theorem info2 : (Try.prog.info? 2).map (fun i => (i.zero, i.size, i.bytes)) = some (some (.int .i64 0), 1, 8) := by kernel_rfl
theorem lit_row (W : World) (base g : Nat) (xs : List Int) (hg : g = W.heap.size) (hb : base ≤ W.heap.size) (hm : xs.length ≤ 100) :
    Kd.R (Kd.int .i64) 2 (W.alloc (.cells (encs (Value.int .i64) xs).toArray 2)) base (fun _ => True) (.slice (some ⟨g, 0, none⟩) xs.length xs.length) xs :=
  Kd.R_of_own (by
    subst hg
    have h := World.ownsRow_lit (base := base) (e := 2) (size := 1) W (encs (Value.int .i64) xs).toArray xs.length hb (by simp [maxLen]; omega) (by simp [encs])
    simpa using h) (fun _ _ => trivial)
theorem blk_drew {w : World} {g : Nat} {o : Obj} (h : w.heap[g]? = some o) : w.drew.heap[g]? = some o := h
theorem ex_row {P : Program} {op : Oper} {a : Act} {w : World} (ty : TypeId) (x : Operand) (ho : op.op = .load ty x) (g : Nat) (hx : a.eval x = .pointer (some ⟨g, 0, none⟩)) (t : TypeId) (cs : Array Value) (fr : Nat × Nat) (d : TypeDesc) (hg : w.heap[g]? = some (.cells cs t fr))
    (hu : P.underlying ty = some d) (hd : (match d with | .struct _ | .array _ _ => true | _ => false) = true) (hi : (P.info? ty).map (·.size) = some cs.size) : (execOp a.eval op).run P w = .ok (.value (.agg cs)) w := by
  unfold execOp
  simp only [ho, hx, Instr.loadAt, Instr.sureAddr, Sem.run_bind, Sem.run_pure, Result.andThen_ok, run_loadVar_row w g t ty cs fr d hg hu hd hi]
theorem blk_row {w : World} {g : Nat} {old cs : Array Value} {t : TypeId} (h : w.heap[g]? = some (.cells old t (0, 0))) : (w.setRow g cs).heap[g]? = some (.cells cs t (0, 0)) := setRow_heap w g old cs t (0, 0) h
def obytes.T24 : Bool × List (List Nat × List Nat) := (true, [([], []), ([0, 0], [0]), ([1], [1]), ([2, 1], [1, 2]), ([1], [1]), ([4, 1, 1], [1, 4]), ([5, 1], [1, 5]), ([3, 6, 1], [1, 3, 6]), ([1, 7], [1, 7]), ([8, 5], [8]), ([9], [9]), ([10, 9], [9, 10]), ([9, 11], [9, 11]), ([12, 9], [12]), ([13], [13]), ([13], [13]), ([14, 15, 13], [13, 14, 15]), ([13, 16], [13, 16]), ([17, 13, 0, 1, 2, 3, 4, 5, 6, 7, 8, 9, 10, 11, 12, 13, 14, 15, 16, 17], [17])])
def obytes.B24 : List Nat := [0, 1, 3, 7, 3, 19, 51, 127, 255, 511, 1023, 2047, 4095, 8191, 16383, 16383, 65535, 131071, 262143]
theorem obytes.tab24 : rtab .any (opsOf Try.f7 24) = obytes.T24 := by kernel_rfl
theorem obytes.bits24 : waitsOk obytes.T24.2 obytes.B24 = true := by kernel_rfl
set_option maxHeartbeats 8000000 in
set_option maxRecDepth 100000 in
theorem obytes_any (n0 n1 n2 n3 n4 n5 n6 n7 : Int) (n8 n9 : Bool) (m0 m1 m2 m3 m4 m5 : Int) (w : World) (hw0 : (Lit.int .u8 n0).wf = true) (hw5 : (Lit.int .u8 n5).wf = true) (hz0 : (Lit.int .u8 m0).wf = true) (hz5 : (Lit.int .u8 m5).wf = true) :
    Calls Try.prog 7 #[.agg #[.int .u8 n0, .int .i64 n1, .int .i64 n2, .int .i64 n3, .int .i64 n4, .int .u8 n5, .int .i64 n6, .int .i64 n7, .bool n8, .bool n9, .int .u8 m0, .int .i64 m1, .int .i64 m2, .int .i64 m3, .int .i64 m4, .int .u8 m5]] w fun e w' => e = .returned (.bool true) ∧ Below w.heap.size w w' := by
  have HW := Aside0.mk (And.intro hw0 (And.intro hw5 (And.intro hz0 hz5)))
  clear hw0 hw5 hz0 hz5
  go_enter Try.func7, Try.ntmps7
  go_upto_region 1 with fail
  obtain ⟨gb, hgb⟩ : ∃ gb, gb = w.heap.size := ⟨_, rfl⟩
  obtain ⟨w0, hw0⟩ : ∃ w0, w0 = w.alloc (.cells #[.int .u8 n0, .int .i64 n1, .int .i64 n2, .int .i64 n3, .int .i64 n4, .int .u8 n5, .int .i64 n6, .int .i64 n7, .bool n8, .bool n9, .int .u8 m0, .int .i64 m1, .int .i64 m2, .int .i64 m3, .int .i64 m4, .int .u8 m5] 27) := ⟨_, rfl⟩
  have HN0 : Aside0 (w0.heap[gb]? = some (.cells #[.int .u8 n0, .int .i64 n1, .int .i64 n2, .int .i64 n3, .int .i64 n4, .int .u8 n5, .int .i64 n6, .int .i64 n7, .bool n8, .bool n9, .int .u8 m0, .int .i64 m1, .int .i64 m2, .int .i64 m3, .int .i64 m4, .int .u8 m5] 27 (0, 0))) := ⟨by rw [hw0, hgb]; exact blk_new w _⟩
  have HB0 : Aside0 (Below w.heap.size w w0) := ⟨by rw [hw0]; exact below_alloc (Below.refl w.heap.size w) _⟩
  rw [← hw0, ← hgb]
  have HG := Aside0.mk hgb
  clear hw0 hgb
  go_cut [17] (fun v17 wc => v17 = .bool false ∧ Aside0 (Below w.heap.size w wc) ∧ Aside0 (wc.heap[gb]? = some (.cells #[.int .u8 n0, .int .i64 n1, .int .i64 n2, .int .i64 n3, .int .i64 n4, .int .u8 n5, .int .i64 n6, .int .i64 n7, .bool n8, .bool n9, .int .u8 m0, .int .i64 m1, .int .i64 m2, .int .i64 m3, .int .i64 m4, .int .u8 m5] 27 (0, 0))))
  case first =>
    go_wp2_with ((with_reducible refine wpList_load_row rfl 27 (.tmp 1) rfl gb rfl 27 #[.int .u8 n0, .int .i64 n1, .int .i64 n2, .int .i64 n3, .int .i64 n4, .int .u8 n5, .int .i64 n6, .int .i64 n7, .bool n8, .bool n9, .int .u8 m0, .int .i64 m1, .int .i64 m2, .int .i64 m3, .int .i64 m4, .int .u8 m5] (0, 0) _ HN0.out Try.underlying27 rfl rfl ?_))
    go_at_call 12
    obtain ⟨r, hr, hc⟩ := right_any n0 n1 n2 n3 n4 n5 n6 n7 n8 n9 m0 m1 m2 m3 m4 m5 w0
    refine hc.mono ?_
    rintro e w1 ⟨rfl, hb⟩
    have HB1 := Aside0.mk (HB0.out.trans (hb.mono HB0.out.size))
    have HN1 := Aside0.mk (blk_below HN0.out hb)
    clear hb hc
    by_cases h0 : r = 0
    · subst h0
      go_wp2_with fail
      go_meet
      case rel => exact ⟨rfl, HB1, HN1⟩
    · have hb1 : (r != 0) = true := by simp [h0]
      have HR := Aside0.mk hr
      have HR0 := Aside0.mk h0
      clear hr h0
      go_wp2_with ((refine gate_guard (by rfl) ?_; dsimp only); (with_reducible refine wpList_load_row rfl 27 (.tmp 1) rfl gb rfl 27 #[.int .u8 n0, .int .i64 n1, .int .i64 n2, .int .i64 n3, .int .i64 n4, .int .u8 n5, .int .i64 n6, .int .i64 n7, .bool n8, .bool n9, .int .u8 m0, .int .i64 m1, .int .i64 m2, .int .i64 m3, .int .i64 m4, .int .u8 m5] (0, 0) _ HN1.out Try.underlying27 rfl rfl ?_))
      go_at_call 15
      refine (encode_none w1 HR.out HR0.out).mono ?_
      rintro e w2 ⟨x, rfl, hx, hb⟩
      obtain ⟨A, c, rfl, _, _⟩ := Kd.R_reads hx
      have HB2 := Aside0.mk (HB1.out.trans (hb.mono HB1.out.size))
      have HN2 := Aside0.mk (blk_below HN1.out hb)
      clear hb hx
      go_wp2_with fail
      go_meet
      case rel => exact ⟨rfl, HB2, HN2⟩
  case rest =>
    obtain ⟨rfl, HB1, HN1⟩ := hcut
    clear HN0 HB0
    clear w0
    go_wp2_with ((with_reducible refine wpList_load_row rfl 27 (.tmp 1) rfl gb rfl 27 #[.int .u8 n0, .int .i64 n1, .int .i64 n2, .int .i64 n3, .int .i64 n4, .int .u8 n5, .int .i64 n6, .int .i64 n7, .bool n8, .bool n9, .int .u8 m0, .int .i64 m1, .int .i64 m2, .int .i64 m3, .int .i64 m4, .int .u8 m5] (0, 0) _ HN1.out Try.underlying27 rfl rfl ?_))
    go_at_call 9
    refine (near_c _ _ _ _ _ _ _ _ _ _ _ _ _ _ _ _ _ HW.out.1 HW.out.2.1 HW.out.2.2.1 HW.out.2.2.2).mono ?_
    rintro r w2 ⟨x0, x1, x2, x3, x4, x5, x6, x7, x8, x9, y0, y1, y2, y3, y4, y5, lst, rfl, hN, hb⟩
    have HN := Aside0.mk hN
    have HB2 := Aside0.mk (HB1.out.trans (hb.mono HB1.out.size))
    have HK2 := Aside0.mk (blk_below HN1.out hb)
    clear hb hN HN1 HB1
    go_wp2_with (first | ((refine wpList_store_row rfl 27 (.tmp 1) (.tmp 19) rfl gb #[.int .u8 x0, .int .i64 x1, .int .i64 x2, .int .i64 x3, .int .i64 x4, .int .u8 x5, .int .i64 x6, .int .i64 x7, .bool x8, .bool x9, .int .u8 y0, .int .i64 y1, .int .i64 y2, .int .i64 y3, .int .i64 y4, .int .u8 y5] rfl rfl 27 _ HK2.out (by kernel_rfl) rfl (by first | kernel_rfl | (simp [Value.oneCell']; done) | (simp; rfl)) ?_); obtain ⟨w3, hw3⟩ : ∃ w3, w3 = w2.setRow gb #[.int .u8 x0, .int .i64 x1, .int .i64 x2, .int .i64 x3, .int .i64 x4, .int .u8 x5, .int .i64 x6, .int .i64 x7, .bool x8, .bool x9, .int .u8 y0, .int .i64 y1, .int .i64 y2, .int .i64 y3, .int .i64 y4, .int .u8 y5] := ⟨_, rfl⟩; have HK3 : Aside0 (w3.heap[gb]? = some (.cells #[.int .u8 x0, .int .i64 x1, .int .i64 x2, .int .i64 x3, .int .i64 x4, .int .u8 x5, .int .i64 x6, .int .i64 x7, .bool x8, .bool x9, .int .u8 y0, .int .i64 y1, .int .i64 y2, .int .i64 y3, .int .i64 y4, .int .u8 y5] 27 (0, 0))) := ⟨by rw [hw3]; exact blk_row HK2.out⟩; have HB3 : Aside0 (Below w.heap.size w w3) := ⟨by rw [hw3]; exact below_setRow HB2.out (Nat.le_of_eq HG.out.symm) _⟩; rw [← hw3]; clear hw3 HK2 HB2) | (with_reducible refine wpList_load_row rfl 27 (.tmp 1) rfl gb rfl 27 #[.int .u8 x0, .int .i64 x1, .int .i64 x2, .int .i64 x3, .int .i64 x4, .int .u8 x5, .int .i64 x6, .int .i64 x7, .bool x8, .bool x9, .int .u8 y0, .int .i64 y1, .int .i64 y2, .int .i64 y3, .int .i64 y4, .int .u8 y5] (0, 0) _ HK3.out Try.underlying27 rfl rfl ?_))
    go_at_call 15
    obtain ⟨s, hs⟩ : ∃ s, s = packsI lst := ⟨_, rfl⟩
    refine (encode_c _ HN.out hs).mono ?_
    rintro r w4 ⟨q, rfl, hq, hb⟩
    obtain ⟨A, c, rfl, hsc, hC⟩ := Kd.R_reads hq
    have HS := Aside0.mk hs
    have HC := Aside0.mk hC
    have HSC := Aside0.mk hsc
    have HB4 := Aside0.mk (HB3.out.trans (hb.mono HB3.out.size))
    have HK4 := Aside0.mk (blk_below HK3.out hb)
    clear hs hq hb hC hsc HK3 HB3
    clear w3 w2
    go_wp2_with fail
    go_at_call 24
    refine (decode_c A c _ HC.out HSC.out (by rw [HS.out]; exact decode_ev HN.out)).mono ?_
    rintro r w5 ⟨rfl, hb⟩
    have HB5 := Aside0.mk (HB4.out.trans (hb.mono HB4.out.size))
    have HK5 := Aside0.mk (blk_below HK4.out hb)
    have HC5 := Aside0.mk (Kd.C_below HC.out hb)
    clear hb HC HB4 HK4
    go_upto_region 6 with fail
    obtain ⟨W, hW⟩ : ∃ W, W = w5.alloc (.cells #[.int .u8 x0, .int .i64 x1, .int .i64 x2, .int .i64 x3, .int .i64 x4, .int .u8 x5, .int .i64 x6, .int .i64 x7, .bool x8, .bool x9, .int .u8 y0, .int .i64 y1, .int .i64 y2, .int .i64 y3, .int .i64 y4, .int .u8 y5] 27) := ⟨_, rfl⟩
    obtain ⟨gd, hgd⟩ : ∃ gd, gd = w5.heap.size := ⟨_, rfl⟩
    have HD : Aside0 (W.heap[gd]? = some (.cells #[.int .u8 x0, .int .i64 x1, .int .i64 x2, .int .i64 x3, .int .i64 x4, .int .u8 x5, .int .i64 x6, .int .i64 x7, .bool x8, .bool x9, .int .u8 y0, .int .i64 y1, .int .i64 y2, .int .i64 y3, .int .i64 y4, .int .u8 y5] 27 (0, 0))) := ⟨by rw [hW, hgd]; exact blk_new _ _⟩
    have HK : Aside0 (W.heap[gb]? = some (.cells #[.int .u8 x0, .int .i64 x1, .int .i64 x2, .int .i64 x3, .int .i64 x4, .int .u8 x5, .int .i64 x6, .int .i64 x7, .bool x8, .bool x9, .int .u8 y0, .int .i64 y1, .int .i64 y2, .int .i64 y3, .int .i64 y4, .int .u8 y5] 27 (0, 0))) := ⟨by rw [hW]; exact blk_below HK5.out (below_alloc (Below.refl _ _) _)⟩
    have HB : Aside0 (Below w.heap.size w W) := ⟨by rw [hW]; exact below_alloc HB5.out _⟩
    have HCW : Aside0 (Kd.C (Kd.int .u8) W A s.length s) := ⟨by rw [hW]; exact Kd.C_alloc HC5.out _⟩
    rw [← hW, ← hgd]
    clear hW hgd HK5 HB5 HC5
    clear w5 w4
    have hgbW : gb < W.heap.size := blk_lt HK.out
    obtain ⟨cz0, cz1, cz2, cz3, cz4, cz5, cz6, cz7, cz8, cz9, cz10, cz11, cz12, cz13, cz14, cz15, fz0, fz1, fz2, fz3, fz4, fz5, fz6, fz7, fz8, fz9, fz10, fz11, fz12, fz13, fz14, fz15⟩ := bxc16 HK.out
    obtain ⟨hx0, hx5, hy0, hy5, hform⟩ := near_form HN.out
    go_upto_block 0 with fail
    go_cut [6] (fun v6 wc => ∃ (A6 : Option Addr) (c6 : Nat), v6 = .slice A6 lst.length c6 ∧ Aside0 (lst.length ≤ c6) ∧ Aside0 (Kd.C (Kd.int .i64) wc A6 lst.length lst) ∧ Aside0 (Below W.heap.size W wc))
    case first =>
      rcases hform with ⟨h1, hl⟩ | ⟨h1, hl⟩ | ⟨h1, hl⟩ | ⟨⟨h1, h2, h3, h9, h10⟩, hl⟩ | ⟨h1, hl⟩ | ⟨h1, hl⟩
      · subst h1
        cases x8 <;> cases x9
        · skip
          go_wp2_with ((at_builtin; refine Kd.R_append_rows (Kd.int .i64) (w0 := W) W.heap.size rfl (.tmp 46) (.tmp 62) 49 2 (.int .i64 0) 8 rfl Try.underlying49 info2 rfl (by decide) (by omega) (.slice (some ⟨W.heap.size, 0, none⟩) 1 1) [1] [x4, x5, x6, x7, 0, 0] _ _ _ (fun _ => True) (fun _ => False) rfl rfl ?aO ?aR (fun _ _ h => h) (fun _ h => h.elim) (fun _ _ => trivial) ?aB ?aS ?aL ?_; (case aO => exact Kd.R_alloc (lit_row W _ _ [1] rfl (Nat.le_refl _) (by simp)) _); (case aR => exact (Kd.R_reads' (lit_row _ 0 _ [x4, x5, x6, x7, 0, 0] (by simp) (Nat.zero_le _) (by simp))).2.2); (case aB => exact below_alloc (below_alloc (Below.refl _ _) _) _); (case aS => exact (below_alloc (below_alloc (Below.refl W.heap.size W) _) _).size); (case aL => simp); intro v6 w7 ho hb hg hat; have HL := Aside0.mk ho; have HB7 := Aside0.mk hb; clear ho hb hg hat))
          go_meet
          case rel =>
            obtain ⟨A6, c6, e6, hc6, hC6⟩ := Kd.R_reads HL.out
            have el : [1] ++ [x4, x5, x6, x7, 0, 0] = lst := by rw [hl]; rfl
            rw [el] at e6 hc6 hC6
            exact ⟨A6, c6, e6, ⟨hc6⟩, ⟨hC6⟩, HB7⟩
        · skip
          go_wp2_with ((at_builtin; refine Kd.R_append_rows (Kd.int .i64) (w0 := W) W.heap.size rfl (.tmp 46) (.tmp 62) 49 2 (.int .i64 0) 8 rfl Try.underlying49 info2 rfl (by decide) (by omega) (.slice (some ⟨W.heap.size, 0, none⟩) 1 1) [1] [x4, x5, x6, x7, 0, 1] _ _ _ (fun _ => True) (fun _ => False) rfl rfl ?aO ?aR (fun _ _ h => h) (fun _ h => h.elim) (fun _ _ => trivial) ?aB ?aS ?aL ?_; (case aO => exact Kd.R_alloc (lit_row W _ _ [1] rfl (Nat.le_refl _) (by simp)) _); (case aR => exact (Kd.R_reads' (lit_row _ 0 _ [x4, x5, x6, x7, 0, 1] (by simp) (Nat.zero_le _) (by simp))).2.2); (case aB => exact below_alloc (below_alloc (Below.refl _ _) _) _); (case aS => exact (below_alloc (below_alloc (Below.refl W.heap.size W) _) _).size); (case aL => simp); intro v6 w7 ho hb hg hat; have HL := Aside0.mk ho; have HB7 := Aside0.mk hb; clear ho hb hg hat))
          go_meet
          case rel =>
            obtain ⟨A6, c6, e6, hc6, hC6⟩ := Kd.R_reads HL.out
            have el : [1] ++ [x4, x5, x6, x7, 0, 1] = lst := by rw [hl]; rfl
            rw [el] at e6 hc6 hC6
            exact ⟨A6, c6, e6, ⟨hc6⟩, ⟨hC6⟩, HB7⟩
        · skip
          go_wp2_with ((at_builtin; refine Kd.R_append_rows (Kd.int .i64) (w0 := W) W.heap.size rfl (.tmp 46) (.tmp 62) 49 2 (.int .i64 0) 8 rfl Try.underlying49 info2 rfl (by decide) (by omega) (.slice (some ⟨W.heap.size, 0, none⟩) 1 1) [1] [x4, x5, x6, x7, 1, 0] _ _ _ (fun _ => True) (fun _ => False) rfl rfl ?aO ?aR (fun _ _ h => h) (fun _ h => h.elim) (fun _ _ => trivial) ?aB ?aS ?aL ?_; (case aO => exact Kd.R_alloc (lit_row W _ _ [1] rfl (Nat.le_refl _) (by simp)) _); (case aR => exact (Kd.R_reads' (lit_row _ 0 _ [x4, x5, x6, x7, 1, 0] (by simp) (Nat.zero_le _) (by simp))).2.2); (case aB => exact below_alloc (below_alloc (Below.refl _ _) _) _); (case aS => exact (below_alloc (below_alloc (Below.refl W.heap.size W) _) _).size); (case aL => simp); intro v6 w7 ho hb hg hat; have HL := Aside0.mk ho; have HB7 := Aside0.mk hb; clear ho hb hg hat))
          go_meet
          case rel =>
            obtain ⟨A6, c6, e6, hc6, hC6⟩ := Kd.R_reads HL.out
            have el : [1] ++ [x4, x5, x6, x7, 1, 0] = lst := by rw [hl]; rfl
            rw [el] at e6 hc6 hC6
            exact ⟨A6, c6, e6, ⟨hc6⟩, ⟨hC6⟩, HB7⟩
        · skip
          go_wp2_with ((at_builtin; refine Kd.R_append_rows (Kd.int .i64) (w0 := W) W.heap.size rfl (.tmp 46) (.tmp 62) 49 2 (.int .i64 0) 8 rfl Try.underlying49 info2 rfl (by decide) (by omega) (.slice (some ⟨W.heap.size, 0, none⟩) 1 1) [1] [x4, x5, x6, x7, 1, 1] _ _ _ (fun _ => True) (fun _ => False) rfl rfl ?aO ?aR (fun _ _ h => h) (fun _ h => h.elim) (fun _ _ => trivial) ?aB ?aS ?aL ?_; (case aO => exact Kd.R_alloc (lit_row W _ _ [1] rfl (Nat.le_refl _) (by simp)) _); (case aR => exact (Kd.R_reads' (lit_row _ 0 _ [x4, x5, x6, x7, 1, 1] (by simp) (Nat.zero_le _) (by simp))).2.2); (case aB => exact below_alloc (below_alloc (Below.refl _ _) _) _); (case aS => exact (below_alloc (below_alloc (Below.refl W.heap.size W) _) _).size); (case aL => simp); intro v6 w7 ho hb hg hat; have HL := Aside0.mk ho; have HB7 := Aside0.mk hb; clear ho hb hg hat))
          go_meet
          case rel =>
            obtain ⟨A6, c6, e6, hc6, hC6⟩ := Kd.R_reads HL.out
            have el : [1] ++ [x4, x5, x6, x7, 1, 1] = lst := by rw [hl]; rfl
            rw [el] at e6 hc6 hC6
            exact ⟨A6, c6, e6, ⟨hc6⟩, ⟨hC6⟩, HB7⟩
      · subst h1
        go_wp2_with ((at_builtin; refine Kd.R_append_rows (Kd.int .i64) (w0 := W) W.heap.size rfl (.tmp 67) (.tmp 72) 49 2 (.int .i64 0) 8 rfl Try.underlying49 info2 rfl (by decide) (by omega) (.slice (some ⟨W.heap.size, 0, none⟩) 1 1) [2] [x1, x2] _ _ _ (fun _ => True) (fun _ => False) rfl rfl ?aO ?aR (fun _ _ h => h) (fun _ h => h.elim) (fun _ _ => trivial) ?aB ?aS ?aL ?_; (case aO => exact Kd.R_alloc (lit_row W _ _ [2] rfl (Nat.le_refl _) (by simp)) _); (case aR => exact (Kd.R_reads' (lit_row _ 0 _ [x1, x2] (by simp) (Nat.zero_le _) (by simp))).2.2); (case aB => exact below_alloc (below_alloc (Below.refl _ _) _) _); (case aS => exact (below_alloc (below_alloc (Below.refl W.heap.size W) _) _).size); (case aL => simp); intro v6 w7 ho hb hg hat; have HL := Aside0.mk ho; have HB7 := Aside0.mk hb; clear ho hb hg hat))
        go_meet
        case rel =>
          obtain ⟨A6, c6, e6, hc6, hC6⟩ := Kd.R_reads HL.out
          have el : [2] ++ [x1, x2] = lst := by rw [hl]; rfl
          rw [el] at e6 hc6 hC6
          exact ⟨A6, c6, e6, ⟨hc6⟩, ⟨hC6⟩, HB7⟩
      · subst h1
        go_wp2_with ((at_builtin; refine Kd.R_append_rows (Kd.int .i64) (w0 := W) W.heap.size rfl (.tmp 67) (.tmp 72) 49 2 (.int .i64 0) 8 rfl Try.underlying49 info2 rfl (by decide) (by omega) (.slice (some ⟨W.heap.size, 0, none⟩) 1 1) [3] [x1, x2] _ _ _ (fun _ => True) (fun _ => False) rfl rfl ?aO ?aR (fun _ _ h => h) (fun _ h => h.elim) (fun _ _ => trivial) ?aB ?aS ?aL ?_; (case aO => exact Kd.R_alloc (lit_row W _ _ [3] rfl (Nat.le_refl _) (by simp)) _); (case aR => exact (Kd.R_reads' (lit_row _ 0 _ [x1, x2] (by simp) (Nat.zero_le _) (by simp))).2.2); (case aB => exact below_alloc (below_alloc (Below.refl _ _) _) _); (case aS => exact (below_alloc (below_alloc (Below.refl W.heap.size W) _) _).size); (case aL => simp); intro v6 w7 ho hb hg hat; have HL := Aside0.mk ho; have HB7 := Aside0.mk hb; clear ho hb hg hat))
        go_meet
        case rel =>
          obtain ⟨A6, c6, e6, hc6, hC6⟩ := Kd.R_reads HL.out
          have el : [3] ++ [x1, x2] = lst := by rw [hl]; rfl
          rw [el] at e6 hc6 hC6
          exact ⟨A6, c6, e6, ⟨hc6⟩, ⟨hC6⟩, HB7⟩
      · skip
        go_wp2_with ((at_builtin; refine Kd.R_append_rows (Kd.int .i64) (w0 := W) W.heap.size rfl (.tmp 33) (.tmp 36) 49 2 (.int .i64 0) 8 rfl Try.underlying49 info2 rfl (by decide) (by omega) (.slice (some ⟨W.heap.size, 0, none⟩) 1 1) [x0] [x1] _ _ _ (fun _ => True) (fun _ => False) rfl rfl ?aO ?aR (fun _ _ h => h) (fun _ h => h.elim) (fun _ _ => trivial) ?aB ?aS ?aL ?_; (case aO => exact Kd.R_alloc (lit_row W _ _ [x0] rfl (Nat.le_refl _) (by simp)) _); (case aR => exact (Kd.R_reads' (lit_row _ 0 _ [x1] (by simp) (Nat.zero_le _) (by simp))).2.2); (case aB => exact below_alloc (below_alloc (Below.refl _ _) _) _); (case aS => exact (below_alloc (below_alloc (Below.refl W.heap.size W) _) _).size); (case aL => simp); intro v6 w7 ho hb hg hat; have HL := Aside0.mk ho; have HB7 := Aside0.mk hb; clear ho hb hg hat))
        go_meet
        case rel =>
          obtain ⟨A6, c6, e6, hc6, hC6⟩ := Kd.R_reads HL.out
          have el : [x0] ++ [x1] = lst := by rw [hl]; rfl
          rw [el] at e6 hc6 hC6
          exact ⟨A6, c6, e6, ⟨hc6⟩, ⟨hC6⟩, HB7⟩
      · subst h1
        go_wp2_with ((at_builtin; refine Kd.R_append_rows (Kd.int .i64) (w0 := W) W.heap.size rfl (.tmp 76) (.tmp 79) 49 2 (.int .i64 0) 8 rfl Try.underlying49 info2 rfl (by decide) (by omega) (.slice (some ⟨W.heap.size, 0, none⟩) 1 1) [9] [x3] _ _ _ (fun _ => True) (fun _ => False) rfl rfl ?aO ?aR (fun _ _ h => h) (fun _ h => h.elim) (fun _ _ => trivial) ?aB ?aS ?aL ?_; (case aO => exact Kd.R_alloc (lit_row W _ _ [9] rfl (Nat.le_refl _) (by simp)) _); (case aR => exact (Kd.R_reads' (lit_row _ 0 _ [x3] (by simp) (Nat.zero_le _) (by simp))).2.2); (case aB => exact below_alloc (below_alloc (Below.refl _ _) _) _); (case aS => exact (below_alloc (below_alloc (Below.refl W.heap.size W) _) _).size); (case aL => simp); intro v6 w7 ho hb hg hat; have HL := Aside0.mk ho; have HB7 := Aside0.mk hb; clear ho hb hg hat))
        go_meet
        case rel =>
          obtain ⟨A6, c6, e6, hc6, hC6⟩ := Kd.R_reads HL.out
          have el : [9] ++ [x3] = lst := by rw [hl]; rfl
          rw [el] at e6 hc6 hC6
          exact ⟨A6, c6, e6, ⟨hc6⟩, ⟨hC6⟩, HB7⟩
      · subst h1
        go_wp2_with ((at_builtin; refine Kd.R_append_rows (Kd.int .i64) (w0 := W) W.heap.size rfl (.tmp 83) (.tmp 104) 49 2 (.int .i64 0) 8 rfl Try.underlying49 info2 rfl (by decide) (by omega) (.slice (some ⟨W.heap.size, 0, none⟩) 1 1) [10] [y0, y1, y2, y3, y4, y5] _ _ _ (fun _ => True) (fun _ => False) rfl rfl ?aO ?aR (fun _ _ h => h) (fun _ h => h.elim) (fun _ _ => trivial) ?aB ?aS ?aL ?_; (case aO => exact Kd.R_alloc (lit_row W _ _ [10] rfl (Nat.le_refl _) (by simp)) _); (case aR => exact (Kd.R_reads' (lit_row _ 0 _ [y0, y1, y2, y3, y4, y5] (by simp) (Nat.zero_le _) (by simp))).2.2); (case aB => exact below_alloc (below_alloc (Below.refl _ _) _) _); (case aS => exact (below_alloc (below_alloc (Below.refl W.heap.size W) _) _).size); (case aL => simp); intro v6 w7 ho hb hg hat; have HL := Aside0.mk ho; have HB7 := Aside0.mk hb; clear ho hb hg hat))
        go_meet
        case rel =>
          obtain ⟨A6, c6, e6, hc6, hC6⟩ := Kd.R_reads HL.out
          have el : [10] ++ [y0, y1, y2, y3, y4, y5] = lst := by rw [hl]; rfl
          rw [el] at e6 hc6 hC6
          exact ⟨A6, c6, e6, ⟨hc6⟩, ⟨hC6⟩, HB7⟩
    case rest =>
      obtain ⟨A6, c6, rfl, HC6, HL6, HBW⟩ := hcut
      have HKc := Aside0.mk (blk_below HK.out HBW.out)
      have HDc := Aside0.mk (blk_below HD.out HBW.out)
      have HCc := Aside0.mk (Kd.C_below HCW.out HBW.out)
      have HBc := Aside0.mk (HB.out.trans (HBW.out.mono HB.out.size))
      have HLc := HL6
      clear hform cz0 cz1 cz2 cz3 cz4 cz5 cz6 cz7 cz8 cz9 cz10 cz11 cz12 cz13 cz14 cz15 fz0 fz1 fz2 fz3 fz4 fz5 fz6 fz7 fz8 fz9 fz10 fz11 fz12 fz13 fz14 fz15 HK HD HCW HBW HB HL6 hgbW hx0 hx5 hy0 hy5 HG
      clear W
      go_wp2_with fail
      have hcpd := Kd.C_string (P := Try.prog) (c := c) Try.underlying34 Try.underlying5 Try.underlying9 (Kd.C_drew HCc.out)
      refine start_ (n := 19) (S := fun w' => w'.heap[gb]? = some (.cells #[.int .u8 x0, .int .i64 x1, .int .i64 x2, .int .i64 x3, .int .i64 x4, .int .u8 x5, .int .i64 x6, .int .i64 x7, .bool x8, .bool x9, .int .u8 y0, .int .i64 y1, .int .i64 y2, .int .i64 y3, .int .i64 y4, .int .u8 y5] 27 (0, 0)) ∧ w'.heap[gd]? = some (.cells #[.int .u8 x0, .int .i64 x1, .int .i64 x2, .int .i64 x3, .int .i64 x4, .int .u8 x5, .int .i64 x6, .int .i64 x7, .bool x8, .bool x9, .int .u8 y0, .int .i64 y1, .int .i64 y2, .int .i64 y3, .int .i64 y4, .int .u8 y5] 27 (0, 0)) ∧ Go.Sem.run Try.prog (Go.convert 34 9 (.slice A s.length c)) w' = .ok (.string (strOfNums s)) w') (ds := []) #[false, false, false, false, false, false, false, false, false, false, false, false, false, false, false, false, false, false, false] (by kernel_rfl) rfl rfl ⟨blk_drew HKc.out, blk_drew HDc.out, hcpd⟩ (fun hHeld => ?_)
      refine with_tabW obytes.tab24 obytes.bits24 (fun HT_ HW_ => ?_)
      refine one_ (i := 0) (N := some 106) #[true, false, false, false, false, false, false, false, false, false, false, false, false, false, false, false, false, false, false] rfl rfl (one_of HT_.out (by kernel_rfl)) (by decide) (fun K hK => ?_)
      refine goes_ Try.func10 (by kernel_rfl) rfl #[] (by rfl) rfl rfl (by first | rfl | (simp only [List.map_toArray, List.map_cons, List.map_nil])) ?_
      with_reducible refine (awake_c _).mono ?_
      rintro r w8 ⟨rfl, hb8⟩
      refine ⟨_, rfl, ?_⟩
      have hk8 := blk_below (blk_drew HKc.out) hb8
      have hd8 := blk_below (blk_drew HDc.out) hb8
      have hv8 := Kd.C_below (Kd.C_drew HCc.out) hb8
      have hc8 := Kd.C_string (P := Try.prog) (c := c) Try.underlying34 Try.underlying5 Try.underlying9 hv8
      have hl8 := Kd.C_below (Kd.C_drew HLc.out) hb8
      have HB8 := Aside0.mk ((below_drew HBc.out).trans (hb8.mono (below_drew HBc.out).size))
      have HV8 := Aside0.mk hv8
      have HL8 := Aside0.mk hl8
      have HK8 := Aside0.mk hk8
      have HD8 := Aside0.mk hd8
      clear hb8 hv8 hl8
      refine hK.out _ _ ⟨hk8, hd8, hc8⟩ (fun hHeld => ?_)
      clear hK K
      refine norm_ (a' := ?_) ?_ ?_
      rotate_left
      · show Act.put _ (some 106) _ = _
        simp only [Act.put, List.setIfInBounds_toArray, List.set_cons_zero, List.set_cons_succ, i64_w, i32_w]
        rfl
      refine pure_ (i := 1) (N := some 107) (v := ?_) (a' := ?_) #[true, true, false, false, false, false, false, false, false, false, false, false, false, false, false, false, false, false, false] rfl rfl (any_of HT_.out (by kernel_rfl)) (fun _ _ _ h => h) (Or.inl ⟨by rfl, ?_⟩) ?_ ?_
      rotate_left
      · intro w'
        go_simp
        with_reducible rfl
      rotate_left
      · simp only [Act.put, List.setIfInBounds_toArray, List.set_cons_zero, List.set_cons_succ, i64_w, i32_w]
        rfl
      refine pure_ (i := 2) (N := some 108) (v := ?_) (a' := ?_) #[true, true, true, false, false, false, false, false, false, false, false, false, false, false, false, false, false, false, false] rfl rfl (any_of HT_.out (by kernel_rfl)) (fun _ _ _ h => h) (Or.inl ⟨by rfl, ?_⟩) ?_ ?_
      rotate_left
      · intro w'
        go_simp
        with_reducible rfl
      rotate_left
      · simp only [Act.put, List.setIfInBounds_toArray, List.set_cons_zero, List.set_cons_succ, i64_w, i32_w]
        rfl
      refine pure_ (i := 4) (N := some 110) (v := ?_) (a' := ?_) #[true, true, true, false, true, false, false, false, false, false, false, false, false, false, false, false, false, false, false] rfl rfl (any_of HT_.out (by kernel_rfl)) (fun _ _ _ h => h) (Or.inl ⟨by rfl, ?_⟩) ?_ ?_
      rotate_left
      · intro w'
        go_simp
        with_reducible rfl
      rotate_left
      · simp only [Act.put, List.setIfInBounds_toArray, List.set_cons_zero, List.set_cons_succ, i64_w, i32_w]
        rfl
      refine take_ (i := 3) (N := some 109) (v := ?_) (a' := ?_) #[true, true, true, true, true, false, false, false, false, false, false, false, false, false, false, false, false, false, false] rfl rfl (take_ofW HT_.out HW_.out (by kernel_rfl)) (fun _ _ _ h => h) (Or.inl ⟨by rfl, ?_⟩) hHeld ?_ ?_
      rotate_left
      · rintro w' ⟨s0, s1, s2⟩
        go_simp
        with_reducible rfl
      rotate_left
      · simp only [Act.put, List.setIfInBounds_toArray, List.set_cons_zero, List.set_cons_succ, i64_w, i32_w]
        rfl
      refine one_ (i := 5) (N := some 111) #[true, true, true, true, true, true, false, false, false, false, false, false, false, false, false, false, false, false, false] rfl rfl (one_of HT_.out (by kernel_rfl)) (by decide) (fun K hK => ?_)
      refine goes_ Try.func25 (by kernel_rfl) rfl #[.slice A6 lst.length c6] (by rfl) rfl rfl (by simp only [List.map_toArray, List.map_cons, List.map_nil]; rfl) ?_
      with_reducible refine (packs_c A6 c6 w8 HL8.out HC6.out HN.out.i64.1 (by have := HN.out.i64.2; omega) HS.out).mono ?_
      rintro r w9 ⟨x, rfl, hx, hb9⟩
      refine ⟨_, rfl, ?_⟩
      have hcx := own_string (P := Try.prog) Try.underlying34 Try.underlying5 Try.underlying9 (Kd.own_of_R hx)
      have hcr := Kd.C_string (P := Try.prog) (c := c) Try.underlying34 Try.underlying5 Try.underlying9 (Kd.C_below HV8.out hb9)
      have hk9 := blk_below HK8.out hb9
      have hd9 := blk_below HD8.out hb9
      have HTE := Aside0.mk (HB8.out.trans (hb9.mono HB8.out.size))
      clear hx hb9
      refine hK.out _ _ ⟨hk9, hd9, hcr⟩ (fun hHeld => ?_)
      clear hK K
      refine norm_ (a' := ?_) ?_ ?_
      rotate_left
      · show Act.put _ (some 111) _ = _
        simp only [Act.put, List.setIfInBounds_toArray, List.set_cons_zero, List.set_cons_succ, i64_w, i32_w]
        rfl
      refine one_ (i := 6) (N := some 112) #[true, true, true, true, true, true, true, false, false, false, false, false, false, false, false, false, false, false, false] rfl rfl (one_of HT_.out (by kernel_rfl)) (by decide) (fun K hK => ?_)
      refine value_ (w1 := ?_) (v := ?_) (by rfl) rfl ?_ ?_
      rotate_left 2
      · go_simp
        constructor
        · rfl
        · rfl
      refine hK.out _ _ ⟨hk9, hd9, hcr⟩ (fun hHeld => ?_)
      clear hK K
      refine norm_ (a' := ?_) ?_ ?_
      rotate_left
      · show Act.put _ (some 112) _ = _
        simp only [Act.put, List.setIfInBounds_toArray, List.set_cons_zero, List.set_cons_succ, i64_w, i32_w]
        rfl
      refine pure_ (i := 7) (N := some 113) (v := ?_) (a' := ?_) #[true, true, true, true, true, true, true, true, false, false, false, false, false, false, false, false, false, false, false] rfl rfl (any_of HT_.out (by kernel_rfl)) (fun _ _ _ h => h) (Or.inl ⟨by rfl, ?_⟩) ?_ ?_
      rotate_left
      · intro w'
        go_simp
        with_reducible rfl
      rotate_left
      · simp only [Act.put, List.setIfInBounds_toArray, List.set_cons_zero, List.set_cons_succ, i64_w, i32_w]
        rfl
      refine pure_ (i := 8) (N := some 114) (v := ?_) (a' := ?_) #[true, true, true, true, true, true, true, true, true, false, false, false, false, false, false, false, false, false, false] rfl rfl (any_of HT_.out (by kernel_rfl)) (fun _ _ _ h => h) (Or.inl ⟨by rfl, ?_⟩) ?_ ?_
      rotate_left
      · intro w'
        go_simp
        with_reducible rfl
      rotate_left
      · simp only [Act.put, List.setIfInBounds_toArray, List.set_cons_zero, List.set_cons_succ, i64_w, i32_w]
        rfl
      refine pure_ (i := 9) (N := some 115) (v := ?_) (a' := ?_) #[true, true, true, true, true, true, true, true, true, true, false, false, false, false, false, false, false, false, false] rfl rfl (any_of HT_.out (by kernel_rfl)) (fun _ _ _ h => h) (Or.inl ⟨by rfl, ?_⟩) ?_ ?_
      rotate_left
      · intro w'
        go_simp
        with_reducible rfl
      rotate_left
      · simp only [Act.put, List.setIfInBounds_toArray, List.set_cons_zero, List.set_cons_succ, i64_w, i32_w]
        rfl
      refine pure_ (i := 10) (N := some 116) (v := ?_) (a' := ?_) #[true, true, true, true, true, true, true, true, true, true, true, false, false, false, false, false, false, false, false] rfl rfl (any_of HT_.out (by kernel_rfl)) (fun _ _ _ h => h) (Or.inl ⟨by rfl, ?_⟩) ?_ ?_
      rotate_left
      · intro w'
        go_simp
        with_reducible rfl
      rotate_left
      · simp only [Act.put, List.setIfInBounds_toArray, List.set_cons_zero, List.set_cons_succ, i64_w, i32_w]
        rfl
      refine pure_ (i := 11) (N := some 117) (v := ?_) (a' := ?_) #[true, true, true, true, true, true, true, true, true, true, true, true, false, false, false, false, false, false, false] rfl rfl (any_of HT_.out (by kernel_rfl)) (fun _ _ _ h => h) (Or.inl ⟨by rfl, ?_⟩) ?_ ?_
      rotate_left
      · intro w'
        go_simp
        with_reducible rfl
      rotate_left
      · simp only [Act.put, List.setIfInBounds_toArray, List.set_cons_zero, List.set_cons_succ, i64_w, i32_w]
        rfl
      refine pure_ (i := 12) (N := some 118) (v := ?_) (a' := ?_) #[true, true, true, true, true, true, true, true, true, true, true, true, true, false, false, false, false, false, false] rfl rfl (any_of HT_.out (by kernel_rfl)) (fun _ _ _ h => h) (Or.inl ⟨by rfl, ?_⟩) ?_ ?_
      rotate_left
      · intro w'
        go_simp
        with_reducible rfl
      rotate_left
      · simp only [Act.put, List.setIfInBounds_toArray, List.set_cons_zero, List.set_cons_succ, i64_w, i32_w]
        rfl
      refine pure_ (i := 13) (N := some 119) (v := ?_) (a' := ?_) #[true, true, true, true, true, true, true, true, true, true, true, true, true, true, false, false, false, false, false] rfl rfl (any_of HT_.out (by kernel_rfl)) (fun _ _ _ h => h) (Or.inl ⟨by rfl, ?_⟩) ?_ ?_
      rotate_left
      · intro w'
        go_simp
        with_reducible rfl
      rotate_left
      · simp only [Act.put, List.setIfInBounds_toArray, List.set_cons_zero, List.set_cons_succ, i64_w, i32_w]
        rfl
      refine take_ (i := 14) (N := some 120) (v := ?_) (a' := ?_) #[true, true, true, true, true, true, true, true, true, true, true, true, true, true, true, false, false, false, false] rfl rfl (take_ofW HT_.out HW_.out (by kernel_rfl)) (fun _ _ _ h => h) (Or.inl ⟨by rfl, ?_⟩) hHeld ?_ ?_
      rotate_left
      · rintro w' ⟨s0, s1, s2⟩
        refine ex_row 27 (.tmp 4) ?_ gd ?_ 27 #[.int .u8 x0, .int .i64 x1, .int .i64 x2, .int .i64 x3, .int .i64 x4, .int .u8 x5, .int .i64 x6, .int .i64 x7, .bool x8, .bool x9, .int .u8 y0, .int .i64 y1, .int .i64 y2, .int .i64 y3, .int .i64 y4, .int .u8 y5] (0, 0) _ s1 Try.underlying27 ?_ ?_ <;> rfl
      rotate_left
      · simp only [Act.put, List.setIfInBounds_toArray, List.set_cons_zero, List.set_cons_succ, i64_w, i32_w]
        rfl
      refine take_ (i := 15) (N := some 121) (v := ?_) (a' := ?_) #[true, true, true, true, true, true, true, true, true, true, true, true, true, true, true, true, false, false, false] rfl rfl (take_ofW HT_.out HW_.out (by kernel_rfl)) (fun _ _ _ h => h) (Or.inl ⟨by rfl, ?_⟩) hHeld ?_ ?_
      rotate_left
      · rintro w' ⟨s0, s1, s2⟩
        refine ex_row 27 (.tmp 1) ?_ gb ?_ 27 #[.int .u8 x0, .int .i64 x1, .int .i64 x2, .int .i64 x3, .int .i64 x4, .int .u8 x5, .int .i64 x6, .int .i64 x7, .bool x8, .bool x9, .int .u8 y0, .int .i64 y1, .int .i64 y2, .int .i64 y3, .int .i64 y4, .int .u8 y5] (0, 0) _ s0 Try.underlying27 ?_ ?_ <;> rfl
      rotate_left
      · simp only [Act.put, List.setIfInBounds_toArray, List.set_cons_zero, List.set_cons_succ, i64_w, i32_w]
        rfl
      refine pure_ (i := 16) (N := some 122) (v := ?_) (a' := ?_) #[true, true, true, true, true, true, true, true, true, true, true, true, true, true, true, true, true, false, false] rfl rfl (any_of HT_.out (by kernel_rfl)) (fun _ _ _ h => h) (Or.inl ⟨by rfl, ?_⟩) ?_ ?_
      rotate_left
      · intro w'
        go_simp
        with_reducible rfl
      rotate_left
      · simp only [Act.put, List.setIfInBounds_toArray, List.set_cons_zero, List.set_cons_succ, i64_w, i32_w]
        rfl
      refine pure_ (i := 17) (N := some 123) (v := ?_) (a' := ?_) #[true, true, true, true, true, true, true, true, true, true, true, true, true, true, true, true, true, true, false] rfl rfl (any_of HT_.out (by kernel_rfl)) (fun _ _ _ h => h) (Or.inl ⟨by rfl, ?_⟩) ?_ ?_
      rotate_left
      · intro w'
        go_simp
        with_reducible rfl
      rotate_left
      · simp only [Act.put, List.setIfInBounds_toArray, List.set_cons_zero, List.set_cons_succ, i64_w, i32_w]
        rfl
      refine pure_ (i := 18) (N := some 2) (v := ?_) (a' := ?_) #[true, true, true, true, true, true, true, true, true, true, true, true, true, true, true, true, true, true, true] rfl rfl (any_of HT_.out (by kernel_rfl)) (fun _ _ _ h => h) (Or.inl ⟨by rfl, ?_⟩) ?_ ?_
      rotate_left
      · intro w'
        go_simp
        with_reducible rfl
      rotate_left
      · simp only [Act.put, List.setIfInBounds_toArray, List.set_cons_zero, List.set_cons_succ, i64_w, i32_w]
        rfl
      refine done_ (done_of HT_.out (by kernel_rfl)) ?_
      go_wp2_with fail
      go_ret
      exact ⟨rfl, HTE.out⟩
end Go.Proofs.Ytlihgjonmliodaa
