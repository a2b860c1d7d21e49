-- a notice as bytes, and back
import Derived.Test.YtlbfmpjkdoecbaaDoorPAx10
import Derived.Test.YtlbfmpjkdoecbaaDoorPAx11
import Derived.Test.YtlbfmpjkdoecbaaDoorPAx12
import Derived.Test.YtlbfmpjkdoecbaaDoorPAx13
import Derived.Test.YtlbfmpjkdoecbaaDoorPAx14
import Derived.Test.YtlbfmpjkdoecbaaDoorPAx15
import Derived.Test.YtlbfmpjkdoecbaaDoorPAx16
import Derived.Test.YtlbfmpjkdoecbaaDoorPAx17
import Derived.Test.YtlbfmpjkdoecbaaDoorPAx18
import Derived.Test.YtlbfmpjkdoecbaaDoorPAx19
import Derived.Test.YtlbfmpjkdoecbaaDoorPAx2
import Derived.Test.YtlbfmpjkdoecbaaDoorPAx20
import Derived.Test.YtlbfmpjkdoecbaaDoorPAx21
import Derived.Test.YtlbfmpjkdoecbaaDoorPAx22
import Derived.Test.YtlbfmpjkdoecbaaDoorPAx23
import Derived.Test.YtlbfmpjkdoecbaaDoorPAx3
import Derived.Test.YtlbfmpjkdoecbaaDoorPAx4
import Derived.Test.YtlbfmpjkdoecbaaDoorPAx5
import Derived.Test.YtlbfmpjkdoecbaaDoorPAx6
import Derived.Test.YtlbfmpjkdoecbaaDoorPAx7
import Derived.Test.YtlbfmpjkdoecbaaDoorPAx8
import Derived.Test.YtlbfmpjkdoecbaaDoorPAx9
import Derived.Test.YtlbfmpjkdoecbaaDoorPureBox
import Derived.Test.YtlbfmpjkdoecbaaDoorPureSeal
import Derived.OpenShut
namespace Go.Proofs.YtlbfmpjkdoecbaaDoor.Pure
open Go.RowKit Go.Proofs.YtlbfmpjkdoecbaaDoor.PA Go.Proofs.YtlbfmpjkdoecbaaDoorW.PrintWords Go.Proofs.YtlbfmpjkdoecbaaDoorW.PrintLast Go.Proofs.YtlbfmpjkdoecbaaDoorW.PrintMore

theorem awake_f (k : Nat) : paybooklaw11_awake.f (k + 1) = some true := by
  simp [paybooklaw11_awake.f, notice_Party.f, notice_Party.j0, notice_Answer.f]
theorem near_f (a b c d e v : Int) (ha : 0 ≤ a ∧ a ≤ 255) (hv : 0 ≤ v ∧ v ≤ 255) : ∃ a' b' c' d' e' v', paybooklaw11_near.f a b c d e v = some (a', b', c', d', e', v') ∧
    (1 ≤ a' ∧ a' ≤ 5) ∧ (0 ≤ b' ∧ b' ≤ 31) ∧ (0 ≤ c' ∧ c' ≤ 3652058) ∧ (0 ≤ d' ∧ d' ≤ 100) ∧ (0 ≤ e' ∧ e' < 1125899906842624) ∧ (0 ≤ v' ∧ v' ≤ 3) := by
  have w (n : Int) : IntKind.u64.wrap n = n % 18446744073709551616 := by simp [IntKind.wrap, IntKind.bits, IntKind.signed]
  refine ⟨_, _, _, _, _, _, rfl, ?_⟩
  rw [w, w, w, w, Int.tmod_eq_emod_of_nonneg (by omega), Int.tmod_eq_emod_of_nonneg (by omega), Int.tmod_eq_emod_of_nonneg (by omega), Int.tmod_eq_emod_of_nonneg (by omega), Int.tmod_eq_emod_of_nonneg (by omega), Int.tmod_eq_emod_of_nonneg (by omega)]
  unfold wrap64
  omega
theorem get_pack {n least most : Int} {r : List Int} (hr : Byt r) (hm : r.length ≤ 1000000) (h : I64 n) (h1 : least ≤ n) (h2 : n ≤ most) : Ev (fun k => pack_Box_Get.f k (packI n ++ r) 0 least most) (n, r, 0) := by
  have := get_ev (p := packI n ++ r) ((packI_byt n).append hr) (by have := packI_len h; simp only [List.length_append]; omega) 0 least most
  rwa [getI_pack h r h1 h2] at this
def Right (a b c d e v : Int) : Prop := (1 ≤ a ∧ a ≤ 5) ∧ (0 ≤ b ∧ b ≤ 31) ∧ (0 ≤ c ∧ c ≤ 3652058) ∧ (0 ≤ d ∧ d ≤ 100) ∧ (0 ≤ e ∧ e ≤ 1125899906842624) ∧ (0 ≤ v ∧ v ≤ 3)
theorem Right.i64 {a b c d e v : Int} (h : Right a b c d e v) : ∀ x ∈ [a, b, c, d, e, v], I64 x := by
  intro x hx
  unfold Right at h
  simp only [List.mem_cons, List.not_mem_nil, or_false] at hx
  unfold I64
  rcases hx with rfl | rfl | rfl | rfl | rfl | rfl <;> omega
theorem nput_ev {a b c d e v : Int} (h : Right a b c d e v) : Ev (fun k => order_Put.f k [] 0 a b c d e v) (packsI [a, b, c, d, e, v], 0) := by
  unfold order_Put.f
  have e1 : wrap64 a = a := by unfold Right at h; unfold wrap64; omega
  have e2 : wrap64 v = v := by unfold Right at h; unfold wrap64; omega
  rw [e1, e2]
  exact Ev.bind (put_ev h.i64 [] 0 (by simp)) (Ev.now _)
theorem nget_ev {a b c d e v : Int} (h : Right a b c d e v) {r : List Int} (hr : Byt r) (hm : r.length ≤ 1000) : Ev (fun k => order_Get.f k (packsI [a, b, c, d, e, v] ++ r) 0) (a, b, c, d, e, v, r, 0) := by
  have hi := h.i64
  unfold Right at h
  have b1 := (packI_byt v).append hr
  have b2 := (packI_byt e).append b1
  have b3 := (packI_byt d).append b2
  have b4 := (packI_byt c).append b3
  have b5 := (packI_byt b).append b4
  have i0 : I64 a := hi a (by simp)
  have i1 : I64 b := hi b (by simp)
  have i2 : I64 c := hi c (by simp)
  have i3 : I64 d := hi d (by simp)
  have i4 : I64 e := hi e (by simp)
  have i5 : I64 v := hi v (by simp)
  have l1 := packI_len i1
  have l2 := packI_len i2
  have l3 := packI_len i3
  have l4 := packI_len i4
  have l5 := packI_len i5
  have q : packsI [a, b, c, d, e, v] ++ r = packI a ++ (packI b ++ (packI c ++ (packI d ++ (packI e ++ (packI v ++ r))))) := by simp [packsI]
  rw [q]
  unfold order_Get.f
  refine Ev.bind (get_pack b5 (by simp only [List.length_append]; omega) i0 (by omega) (by omega)) ?_
  refine Ev.bind (get_pack b4 (by simp only [List.length_append]; omega) i1 (by omega) (by omega)) ?_
  refine Ev.bind (get_pack b3 (by simp only [List.length_append]; omega) i2 (by omega) (by omega)) ?_
  refine Ev.bind (get_pack b2 (by simp only [List.length_append]; omega) i3 (by omega) (by omega)) ?_
  refine Ev.bind (get_pack b1 (by simp only [List.length_append]; omega) i4 (by omega) (by omega)) ?_
  refine Ev.bind (get_pack hr (by omega) i5 (by omega) (by omega)) ?_
  simp only [show a % 256 = a by omega, show v % 256 = v by omega]
  exact Ev.now _
theorem right_f {a b c d e v : Int} (h : Right a b c d e v) : notice_Right.f a b c d e v = some true := by
  unfold Right at h
  unfold notice_Right.f order_Key.f
  rw [if_pos (by omega), if_pos (by omega), if_pos (by omega), if_pos (by omega), if_pos (by omega), if_pos (by omega), if_pos (by omega), if_pos (by omega), if_pos (by omega), if_pos (by omega)]
  simp; omega
theorem encode_ev {a b c d e v : Int} (h : Right a b c d e v) : Ev (fun k => notice_Encode.f k a b c d e v) (closeI 0 0 (packsI [a, b, c, d, e, v])) := by
  have hl := packsI_len h.i64
  simp only [List.length_cons, List.length_nil] at hl
  unfold notice_Encode.f
  rw [new_f]
  refine Ev.bind (Ev.now _) (Ev.bind (nput_ev h) ?_)
  rw [show pack_Box_Done.f (packsI [a, b, c, d, e, v], (0 : Int)).1 (packsI [a, b, c, d, e, v], (0 : Int)).2 = some (packsI [a, b, c, d, e, v], packsI [a, b, c, d, e, v], 0) from done_f (packsI [a, b, c, d, e, v]) 0 (by omega)]
  refine Ev.bind (Ev.now _) (Ev.bind (a := closeI 0 0 (packsI [a, b, c, d, e, v])) ⟨300, fun k hk => close_f (packsI_byt _) (by omega) 0 0 k (by omega)⟩ (Ev.now _))
theorem decode_ev {a b c d e v : Int} (h : Right a b c d e v) : Ev (fun k => notice_Decode.f k (closeI 0 0 (packsI [a, b, c, d, e, v]))) (a, b, c, d, e, v, 0) := by
  have hl := packsI_len h.i64
  simp only [List.length_cons, List.length_nil] at hl
  unfold notice_Decode.f
  have ho : openI 0 0 (closeI 0 0 (packsI [a, b, c, d, e, v])) = (packsI [a, b, c, d, e, v], 16 + ((packsI [a, b, c, d, e, v]).length : Int), 0) := by
    have := open_close (a := 0) (b := 0) (p := packsI [a, b, c, d, e, v]) [] (by omega) (by omega) (by omega) (by omega) (by omega)
    rwa [List.append_nil] at this
  refine Ev.bind (a := openI 0 0 (closeI 0 0 (packsI [a, b, c, d, e, v]))) ⟨400, fun k hk => open_f (closeI_bytes (packsI_byt _)) (by rw [closeI_length]; omega) 0 0 k (by rw [closeI_length]; omega)⟩ ?_
  rw [ho]
  have en : (16 + ((packsI [a, b, c, d, e, v]).length : Int) != ((closeI 0 0 (packsI [a, b, c, d, e, v])).length : Int)) = false := by
    rw [closeI_length]; simp
  simp only [if_true, en]
  refine Ev.step (f := fun k => _) (fun k => by unfold notice_Decode.j0; rfl) ?_
  simp only [Bool.false_eq_true, if_false, of_f _ (show (packsI [a, b, c, d, e, v]).length < 140737488355328 by omega), Option.bind_some]
  have hg := nget_ev h (r := []) (by intro x hx; simp at hx) (by simp)
  rw [List.append_nil] at hg
  refine Ev.bind hg ?_
  simp only [end_f, Option.bind_some, if_true, List.length_nil, right_f h]
  exact Ev.now _
theorem NoticeBytes : paybooklaw11_NoticeBytes.Pure := by
  intro a0 a1 a2 a3 a4 a5 h0 _ _ _ _ h5
  obtain ⟨a, b, c, d, e, v, hf, ha, hb, hc, hd, he, hw⟩ := near_f a0 a1 a2 a3 a4 a5 (bounds_u8 h0) (bounds_u8 h5)
  have h : Right a b c d e v := ⟨ha, hb, hc, hd, by omega, hw⟩
  have hl := packsI_len h.i64
  simp only [List.length_cons, List.length_nil] at hl
  have e1 : wrap64 a = a := by unfold wrap64; omega
  have e2 : wrap64 v = v := by unfold wrap64; omega
  refine Ev.rounds ?_
  unfold paybooklaw11_NoticeBytes.f
  rw [hf]
  simp only [Option.bind_some, e1, e2]
  refine Ev.bind (encode_ev h) (Ev.bind (decode_ev h) (Ev.bind (packs_ev h.i64 (by simp)) ?_))
  refine Ev.bind (a := closeI 0 0 (packsI [a, b, c, d, e, v])) ⟨1000, fun k hk => refClose_f (packsI_byt _) (by omega) 0 0 (by omega) (by omega) k (by omega)⟩ ?_
  refine Ev.bind (a := true) ⟨1, fun k hk => by obtain ⟨j, rfl⟩ : ∃ j, k = j + 1 := ⟨k - 1, by omega⟩; exact awake_f j⟩ ?_
  simp only [if_true, beq_self_eq_true, Bool.and_self]
  exact Ev.now _

end Go.Proofs.YtlbfmpjkdoecbaaDoor.Pure
