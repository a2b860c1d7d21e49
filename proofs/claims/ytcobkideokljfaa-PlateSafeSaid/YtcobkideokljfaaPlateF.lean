/- A plate: a Write at which it stops, or has stopped. -/
import Derived.Test.YtcobkideokljfaaPlateE
namespace Go.Proofs.Ytcobkideokljfaa
open Go.RowKit Go.Proofs.YtcobkideokljfaaW.PrintWords Go.Proofs.YtcobkideokljfaaW.PrintLast Go.Proofs.YtcobkideokljfaaW.PrintMore
set_option linter.unusedVariables false
set_option linter.unusedSimpArgs false
set_option maxHeartbeats 8000000 in
set_option maxRecDepth 100000 in
theorem write_off {w : World} {c : Nat} {sv wv : Value} {p : St} (H : IsPlate w c sv wv p) (x : Nat) (hx : x < p.safe.length) (bs : List Int) (hbn : bs.length ≤ 64) (hwn : p.wet.length < 1000) (A : Option Addr) (cb : Nat)
    (hsrc : Kd.C (Kd.int .u8) w A bs.length bs) (ha : p.act.2 = 7) (ht : ¬ (p.off = false ∧ 0 < p.spare)) :
    Calls Try.prog 10 #[.pointer (some ⟨c, 0, none⟩), .int .i64 x, .slice A bs.length cb] w fun e w' => e = .returned (.int .i64 (p.write x bs).2) ∧ ∃ wv', IsPlate w' c sv wv' (p.write x bs).1 ∧ Fr w w' (Own c sv wv) ∧ (∀ k, Own c sv wv' k → Own c sv wv k ∨ w.heap.size ≤ k) := by
  rw [show p.write x bs = (p.act.1, 7) from by unfold St.write; rw [ha, if_neg (by decide), if_neg ht]]
  have HT := Aside0.mk ht
  clear ht
  have HI := Aside0.mk H
  have HBN := Aside0.mk hbn
  have HWN := Aside0.mk hwn
  have HXN := Aside0.mk hx
  have HSRC := Aside0.mk hsrc
  obtain ⟨h0, h1, h2, h3, h4, h5, hf⟩ := cells6 H.blk
  have i1 : (x : Int) < p.safe.length := by omega
  have i2 : ¬ (x : Int) < 0 := by omega
  have i3 : ¬ 64 < bs.length := by omega
  have hz57 := zero57
  clear H hsrc hwn hbn
  go_enter Try.func10, Try.ntmps10
  go_wp2_with fail
  go_at_call 20
  refine (size_c HI.out).mono ?_
  rintro e W ⟨rfl, rfl⟩
  obtain ⟨W0, hW0⟩ : ∃ W0, W0 = W := ⟨_, rfl⟩
  go_wp2_with (first
    | (refine wp_build57 rfl 30 x rfl rfl ?_)
    | (refine wp_store_new rfl 57 (.tmp 8) (.tmp 31) rfl (WA x (List.replicate 64 0)) rfl rfl (by rw [info57, WA_size _ (by simp)]) (by rw [Z65_size, WA_size _ (by simp)]) (oneW _ _) ?_
       intro V hv8 hV
       have HV8 := Aside0.mk hv8
       have HBV : Aside0 (Below W.heap.size W V) := ⟨by rw [hV]; exact below_alloc (Below.refl _ _) _⟩
       clear hv8 hV)
    | (refine wpList_copy_splice rfl (.tmp 33) (.tmp 34) 22 22 rfl 5 Try.underlying22 (by kernel_rfl) (some ⟨W.heap.size, 1, none⟩) A 64 64 bs.length cb rfl rfl W.heap.size 1 (Value.int .i64 x :: U (List.replicate 64 0)) 57 HV8.out (U bs) (by rw [List.length_map]; exact (Nat.min_eq_left HBN.out).symm) (fun h => ⟨rfl, src_of (Kd.C_below HSRC.out HBV.out) (by simpa using h)⟩) (by have := HBN.out; rw [List.length_map, List.length_cons, List.length_map, List.length_replicate]; omega) (fun u hu => by obtain ⟨y, _, rfl⟩ := List.mem_map.1 hu; rfl) W.heap.size W HBV.out (Nat.le_refl _) ?_
       intro V2 hv8 hb2
       have HC8 : Aside0 (V2.heap[W.heap.size]? = some (.cells (WA x (pad bs)) 57 (0, 0))) := ⟨by rw [← splice_pad _ HBN.out]; exact hv8⟩
       have HB2 := Aside0.mk hb2
       clear hv8 hb2))
  obtain ⟨g8, hg8⟩ : ∃ g8, g8 = W.heap.size := ⟨_, rfl⟩
  rw [← hg8] at HC8 ⊢
  have HG8 := Aside0.mk hg8
  clear hg8 hW0
  go_at_call 23
  refine (act_c (HI.out.below HB2.out)).mono ?_
  rintro e w3 ⟨rfl, q1, f1⟩
  rw [ha]
  have HP3 := Aside0.mk q1
  have HF3 := Aside0.mk f1
  have hc8 : w3.heap[g8]? = some (.cells (WA x (pad bs)) 57 (0, 0)) := f1.at HC8.out (fun e => by have h1 := blk_lt HI.out.blk; have h2 := HG8.out; have h3 : g8 = c := e; omega)
  have HC3 := Aside0.mk hc8
  clear q1 f1 hc8 h0 h1 h2 h3 h4 h5 hf
  obtain ⟨hw1, hs1, hsp1, _⟩ := act_wet p
  obtain ⟨p1, hp1⟩ : ∃ p1, p1 = p.act.1 := ⟨_, rfl⟩
  rw [← hp1] at HP3 hw1 hs1 hsp1
  have HP1 := Aside0.mk hp1
  have HW1 := Aside0.mk hw1
  have HWN1 : Aside0 (p1.wet.length < 1000) := ⟨by rw [hw1]; exact HWN.out⟩
  have HS1 := Aside0.mk hs1
  obtain ⟨Aw, cw, rfl⟩ := HP3.out.wrow.form
  obtain ⟨h0, h1, h2, h3, h4, h5, hf⟩ := cells6 HP3.out.blk
  rw [hsp1] at h5
  clear hp1 hw1 hs1 hsp1 HC8
  by_cases ho : p.off = true
  · rw [ho]
    go_wp2_with fail
    go_ret
    exact ⟨rfl, _, by rw [← HP1.out]; exact HP3.out, (Fr.of_below HB2.out _).trans (HF3.out.mono (fun i h => .inl h)), fun k hk => .inl hk⟩
  · have ho : p.off = false := by simpa using ho
    have hs : ¬ 0 < p.spare := fun h => HT.out ⟨ho, h⟩
    rw [ho]
    go_wp2_with fail
    go_ret
    exact ⟨rfl, _, by rw [← HP1.out]; exact HP3.out, (Fr.of_below HB2.out _).trans (HF3.out.mono (fun i h => .inl h)), fun k hk => .inl hk⟩
set_option maxRecDepth 100000
theorem built57a (x : Int) (a0 a1 a2 a3 a4 a5 a6 a7 a8 a9 a10 a11 a12 a13 a14 a15 a16 a17 a18 a19 a20 a21 a22 a23 a24 a25 a26 a27 a28 a29 a30 a31 a32 a33 a34 a35 a36 a37 a38 a39 a40 a41 a42 a43 a44 a45 a46 a47 a48 a49 a50 a51 a52 a53 a54 a55 a56 a57 a58 a59 a60 a61 a62 a63 : Value) : Try.prog.built 57 [(0, .int .i64 x), (1, .agg (a0 :: a1 :: a2 :: a3 :: a4 :: a5 :: a6 :: a7 :: a8 :: a9 :: a10 :: a11 :: a12 :: a13 :: a14 :: a15 :: a16 :: a17 :: a18 :: a19 :: a20 :: a21 :: a22 :: a23 :: a24 :: a25 :: a26 :: a27 :: a28 :: a29 :: a30 :: a31 :: a32 :: a33 :: a34 :: a35 :: a36 :: a37 :: a38 :: a39 :: a40 :: a41 :: a42 :: a43 :: a44 :: a45 :: a46 :: a47 :: a48 :: a49 :: a50 :: a51 :: a52 :: a53 :: a54 :: a55 :: a56 :: a57 :: a58 :: a59 :: a60 :: a61 :: a62 :: a63 :: []).toArray)] = some (.int .i64 x :: a0 :: a1 :: a2 :: a3 :: a4 :: a5 :: a6 :: a7 :: a8 :: a9 :: a10 :: a11 :: a12 :: a13 :: a14 :: a15 :: a16 :: a17 :: a18 :: a19 :: a20 :: a21 :: a22 :: a23 :: a24 :: a25 :: a26 :: a27 :: a28 :: a29 :: a30 :: a31 :: a32 :: a33 :: a34 :: a35 :: a36 :: a37 :: a38 :: a39 :: a40 :: a41 :: a42 :: a43 :: a44 :: a45 :: a46 :: a47 :: a48 :: a49 :: a50 :: a51 :: a52 :: a53 :: a54 :: a55 :: a56 :: a57 :: a58 :: a59 :: a60 :: a61 :: a62 :: a63 :: []).toArray := by kernel_rfl
theorem built57b (x : Int) (l : List Value) (h : l.length = 64) : Try.prog.built 57 [(0, .int .i64 x), (1, .agg l.toArray)] = some (.int .i64 x :: l).toArray := by
  match l, h with
  | a0 :: a1 :: a2 :: a3 :: a4 :: a5 :: a6 :: a7 :: a8 :: a9 :: a10 :: a11 :: a12 :: a13 :: a14 :: a15 :: a16 :: a17 :: a18 :: a19 :: a20 :: a21 :: a22 :: a23 :: a24 :: a25 :: a26 :: a27 :: a28 :: a29 :: a30 :: a31 :: a32 :: a33 :: a34 :: a35 :: a36 :: a37 :: a38 :: a39 :: a40 :: a41 :: a42 :: a43 :: a44 :: a45 :: a46 :: a47 :: a48 :: a49 :: a50 :: a51 :: a52 :: a53 :: a54 :: a55 :: a56 :: a57 :: a58 :: a59 :: a60 :: a61 :: a62 :: a63 :: [], _ => exact built57a x a0 a1 a2 a3 a4 a5 a6 a7 a8 a9 a10 a11 a12 a13 a14 a15 a16 a17 a18 a19 a20 a21 a22 a23 a24 a25 a26 a27 a28 a29 a30 a31 a32 a33 a34 a35 a36 a37 a38 a39 a40 a41 a42 a43 a44 a45 a46 a47 a48 a49 a50 a51 a52 a53 a54 a55 a56 a57 a58 a59 a60 a61 a62 a63
theorem ex_build2 {op : Oper} {a : Act} {w : World} {t u : Tmp} (ho : op.op = .build 57 #[(0, .tmp t), (1, .tmp u)]) (x : Int) (l : List Value) (hx : a.eval (.tmp t) = .int .i64 x) (hy : a.eval (.tmp u) = .agg l.toArray) (hl : l.length = 64) :
    (execOp a.eval op).run Try.prog w = .ok (.value (.agg (.int .i64 x :: l).toArray)) w := by
  have e : (#[(0, Operand.tmp t), (1, Operand.tmp u)].map fun (i, x) => (i, a.eval x)) = #[(0, Value.int .i64 x), (1, .agg l.toArray)] := by simp [hx, hy]
  have hr := run_build (P := Try.prog) w 57 #[(0, Value.int .i64 x), (1, .agg l.toArray)] (.int .i64 x :: l).toArray (by simpa using built57b x l hl)
  unfold execOp
  simp only [ho, Sem.run_bind]
  rw [e, hr]
  rfl
theorem torn_len {m : Nat} {b s : List Int} (hm : m ≤ 64) (hb : b.length = 64) (hs : s.length = 64) : (torn m b s).length = 64 := by simp [torn, hb, hs]; omega
theorem splice_torn {m : Nat} {b s : List Int} (hm : m ≤ 64) (hb : b.length = 64) : (splice (U s) 0 ((U b).take m)).toArray = (U (torn m b s)).toArray := by
  unfold splice torn
  congr 1
  rw [List.length_take, List.length_map, hb, Nat.min_eq_left hm]
  simp [U, List.map_take, List.map_drop]
def pl11.T11 : Bool × List (List Nat × List Nat) := (true, [([], []), ([], []), ([1], [1]), ([2], [2]), ([3], [3]), ([], []), ([], []), ([5, 6], [5, 6]), ([7], [7]), ([4, 8], [4, 8]), ([0, 0, 1, 2, 3, 4, 5, 6, 7, 8, 9], [0]), ([10, 0, 1, 2, 3, 4, 5, 6, 7, 8, 9], [10]), ([11, 9, 9, 0, 1, 2, 3, 4, 5, 6, 7, 8, 9], [9, 11])])
def pl11.B11 : List Nat := [0, 0, 2, 6, 14, 0, 0, 96, 224, 510, 1023, 2047, 4095]
theorem pl11.tab11 : rtab .any (opsOf Try.f10 11) = pl11.T11 := by kernel_rfl
theorem pl11.bits11 : waitsOk pl11.T11.2 pl11.B11 = true := by kernel_rfl
set_option maxHeartbeats 8000000 in
set_option maxRecDepth 100000 in
theorem write_torn {w : World} {c : Nat} {sv wv : Value} {p : St} (H : IsPlate w c sv wv p) (x : Nat) (hx : x < p.safe.length) (bs : List Int) (hbn : bs.length ≤ 64) (hwn : p.wet.length < 1000) (A : Option Addr) (cb : Nat)
    (hsrc : Kd.C (Kd.int .u8) w A bs.length bs) (ha : p.act.2 = 7) (ho : p.off = false) (hsp : 0 < p.spare) :
    Calls Try.prog 10 #[.pointer (some ⟨c, 0, none⟩), .int .i64 x, .slice A bs.length cb] w fun e w' => e = .returned (.int .i64 (p.write x bs).2) ∧ ∃ wv', IsPlate w' c sv wv' (p.write x bs).1 ∧ Fr w w' (Own c sv wv) ∧ (∀ k, Own c sv wv' k → Own c sv wv k ∨ w.heap.size ≤ k) := by
  rw [show p.write x bs = ({ p.act.1 with wet := p.wet ++ [((x : Int), torn (min p.spare.toNat 64) (pad bs) (p.sector x))] }, 7) from by unfold St.write; rw [ha, if_neg (by decide), if_pos ⟨ho, hsp⟩]]
  have HO := Aside0.mk ho
  have HSP := Aside0.mk hsp
  clear hsp
  have HI := Aside0.mk H
  have HBN := Aside0.mk hbn
  have HWN := Aside0.mk hwn
  have HXN := Aside0.mk hx
  have HSRC := Aside0.mk hsrc
  obtain ⟨h0, h1, h2, h3, h4, h5, hf⟩ := cells6 H.blk
  have i1 : (x : Int) < p.safe.length := by omega
  have i2 : ¬ (x : Int) < 0 := by omega
  have i3 : ¬ 64 < bs.length := by omega
  have hz57 := zero57
  clear H hsrc hwn hbn
  go_enter Try.func10, Try.ntmps10
  go_wp2_with fail
  go_at_call 20
  refine (size_c HI.out).mono ?_
  rintro e W ⟨rfl, rfl⟩
  obtain ⟨W0, hW0⟩ : ∃ W0, W0 = W := ⟨_, rfl⟩
  go_wp2_with (first
    | (refine wp_build57 rfl 30 x rfl rfl ?_)
    | (refine wp_store_new rfl 57 (.tmp 8) (.tmp 31) rfl (WA x (List.replicate 64 0)) rfl rfl (by rw [info57, WA_size _ (by simp)]) (by rw [Z65_size, WA_size _ (by simp)]) (oneW _ _) ?_
       intro V hv8 hV
       have HV8 := Aside0.mk hv8
       have HBV : Aside0 (Below W.heap.size W V) := ⟨by rw [hV]; exact below_alloc (Below.refl _ _) _⟩
       clear hv8 hV)
    | (refine wpList_copy_splice rfl (.tmp 33) (.tmp 34) 22 22 rfl 5 Try.underlying22 (by kernel_rfl) (some ⟨W.heap.size, 1, none⟩) A 64 64 bs.length cb rfl rfl W.heap.size 1 (Value.int .i64 x :: U (List.replicate 64 0)) 57 HV8.out (U bs) (by rw [List.length_map]; exact (Nat.min_eq_left HBN.out).symm) (fun h => ⟨rfl, src_of (Kd.C_below HSRC.out HBV.out) (by simpa using h)⟩) (by have := HBN.out; rw [List.length_map, List.length_cons, List.length_map, List.length_replicate]; omega) (fun u hu => by obtain ⟨y, _, rfl⟩ := List.mem_map.1 hu; rfl) W.heap.size W HBV.out (Nat.le_refl _) ?_
       intro V2 hv8 hb2
       have HC8 : Aside0 (V2.heap[W.heap.size]? = some (.cells (WA x (pad bs)) 57 (0, 0))) := ⟨by rw [← splice_pad _ HBN.out]; exact hv8⟩
       have HB2 := Aside0.mk hb2
       clear hv8 hb2))
  obtain ⟨g8, hg8⟩ : ∃ g8, g8 = W.heap.size := ⟨_, rfl⟩
  rw [← hg8] at HC8 ⊢
  have HG8 := Aside0.mk hg8
  clear hg8 hW0
  go_at_call 23
  refine (act_c (HI.out.below HB2.out)).mono ?_
  rintro e w3 ⟨rfl, q1, f1⟩
  rw [ha]
  have HP3 := Aside0.mk q1
  have HF3 := Aside0.mk f1
  have hc8 : w3.heap[g8]? = some (.cells (WA x (pad bs)) 57 (0, 0)) := f1.at HC8.out (fun e => by have h1 := blk_lt HI.out.blk; have h2 := HG8.out; have h3 : g8 = c := e; omega)
  have HC3 := Aside0.mk hc8
  clear q1 f1 hc8 h0 h1 h2 h3 h4 h5 hf
  obtain ⟨hw1, hs1, hsp1, _⟩ := act_wet p
  obtain ⟨p1, hp1⟩ : ∃ p1, p1 = p.act.1 := ⟨_, rfl⟩
  rw [← hp1] at HP3 hw1 hs1 hsp1
  have HP1 := Aside0.mk hp1
  have HW1 := Aside0.mk hw1
  have HWN1 : Aside0 (p1.wet.length < 1000) := ⟨by rw [hw1]; exact HWN.out⟩
  have HS1 := Aside0.mk hs1
  obtain ⟨Aw, cw, rfl⟩ := HP3.out.wrow.form
  have HSEC : Aside0 (p1.sector x = p.sector x) := ⟨by unfold St.sector; rw [hs1, hw1]⟩
  have hxl : x < p1.safe.length := by rw [hs1]; exact hx
  obtain ⟨h0, h1, h2, h3, h4, h5, hf⟩ := cells6 HP3.out.blk
  rw [hsp1] at h5
  have hs : 0 < p.spare := HSP.out
  have HXL := Aside0.mk hxl
  have HSPE := Aside0.mk hsp1
  clear hp1 hw1 hs1 hsp1 HC8 hxl
  go_wp2_with fail
  go_at_call 24
  refine (sector_c HP3.out x HXL.out).mono ?_
  rintro e w4 ⟨rfl, hb4⟩
  have hs64 := sector_len HP3.out HXL.out
  obtain ⟨s0, hs0⟩ : ∃ s0, s0 = p1.sector x := ⟨_, rfl⟩
  rw [← hs0] at hs64 ⊢
  have HS0 := Aside0.mk hs0
  have HB4 := Aside0.mk hb4
  have HS64 := Aside0.mk hs64
  clear hs0 hb4 h0 h1 h2 h3 h4 h5 hf
  go_wp2_with (refine wp_store_new rfl 55 (.tmp 10) (.tmp 52) rfl (U s0).toArray rfl rfl (by rw [info55]; simp [hs64]) (by simp [hs64]) (oneU s0) ?_
               intro V hv10 hV
               have HBV : Aside0 (Below w3.heap.size w3 V) := ⟨by rw [hV]; exact below_alloc HB4.out _⟩
               obtain ⟨g10, hg10⟩ : ∃ g10, g10 = w4.heap.size := ⟨_, rfl⟩
               have HG10 : Aside0 (w3.heap.size ≤ g10) := ⟨by rw [hg10]; exact HB4.out.size⟩
               rw [← hg10] at hv10 ⊢
               have HV10 := Aside0.mk hv10
               clear hV hv10 hg10)
  obtain ⟨m, hm, hmm⟩ : ∃ m : Nat, (m : Int) = (if 64 < p.spare then 64 else p.spare) ∧ m = min p.spare.toNat 64 := by
    refine ⟨min p.spare.toNat 64, ?_, rfl⟩
    split <;> omega
  have hm64 : m ≤ 64 := by omega
  have HM64 := Aside0.mk hm64
  have HMM := Aside0.mk hmm
  have hm1 : (m : Int) ≤ 64 := by omega
  have hm2 : ¬ (m : Int) < 0 := by omega
  refine still_tail_at 8 (by kernel_rfl) (by kernel_rfl) ?_
  intro X eX bX
  have HPX := Aside0.mk ((HP3.out.below HBV.out).same eX)
  have HBX : Aside0 (Below w3.heap.size w3 X) := ⟨HBV.out.trans ⟨bX.os, bX.tape, bX.output, by rw [eX]; exact Nat.le_refl _, fun i hi => by rw [eX]⟩⟩
  have HX10 : Aside0 (X.heap[g10]? = some (.cells (U s0).toArray 55 (0, 0))) := ⟨by rw [eX]; exact HV10.out⟩
  have HX8 : Aside0 (X.heap[g8]? = some (.cells (WA x (pad bs)) 57 (0, 0))) := ⟨by rw [eX]; exact blk_below HC3.out HBV.out⟩
  obtain ⟨h0, h1, h2, h3, h4, h5, hf⟩ := cells6 HPX.out.blk
  rw [HSPE.out] at h5
  clear eX bX hmm hs64
  simp only [List.take_succ_cons, List.take_zero, List.drop_succ_cons, List.drop_zero]
  iterate 4 still_step
  refine wpStill_step (fun K hK => ?_)
  go_simp
  rw [← hm]
  refine hK _ ?_
  clear hK K hm
  iterate 3 still_step
  refine wpStill_nil ?_
  go_wp2_with (refine wpList_copy_splice rfl (.tmp 59) (.tmp 61) 22 22 rfl 5 Try.underlying22 (by kernel_rfl) (some ⟨g10, 0, none⟩) (some ⟨g8, 1, none⟩) m 64 64 64 rfl rfl g10 0 (U s0) 55 HX10.out ((U (pad bs)).take m) (by rw [List.length_take, List.length_map, pad_len HBN.out]; exact (Nat.min_comm ..).trans rfl) (fun h => ⟨rfl, ⟨g8, 1, none⟩, rfl, fun j v hv => ?src⟩) (by rw [List.length_take, List.length_map, List.length_map, pad_len HBN.out, HS64.out]; omega) (fun u hu => by obtain ⟨y, _, rfl⟩ := List.mem_map.1 (List.mem_of_mem_take hu); rfl) w3.heap.size w3 HBX.out HG10.out ?_
               (case src => exact (by
                 rw [Addr.add_mid, blk_cell HX8.out, Nat.add_comm]
                 have hj := List.getElem?_take_of_lt (l := U (pad bs)) (i := j) (j := m) (by have h1 := (List.getElem?_eq_some_iff.1 hv).1; rw [List.length_take] at h1; omega)
                 rw [hj] at hv
                 simpa [WA] using hv))
               intro Y hv10 hbY
               have HTY0 : Aside0 (Y.heap[g10]? = some (.cells (U (torn m (pad bs) s0)).toArray 55 (0, 0))) := ⟨by rw [← splice_torn HM64.out (pad_len HBN.out)]; exact hv10⟩
               have HBY := Aside0.mk hbY
               clear hv10 hbY)
  obtain ⟨T, hT⟩ : ∃ T, T = torn m (pad bs) s0 := ⟨_, rfl⟩
  have HT64 : Aside0 (T.length = 64) := ⟨by rw [hT]; exact torn_len HM64.out (pad_len HBN.out) HS64.out⟩
  have HTE := Aside0.mk hT
  rw [← hT] at HTY0
  have HTY := HTY0
  have HPY := Aside0.mk (HP3.out.below HBY.out)
  have HNE : Aside0 (∀ k, some k = (Value.slice Aw p1.wet.length cw).ownBlock → k ≠ g10) := ⟨fun k hk e => by have h1 := (HP3.out.wrow.lt k hk).1; have h2 := HG10.out; omega⟩
  obtain ⟨CS, hCS⟩ : ∃ CS, CS = WA x T := ⟨_, rfl⟩
  have HCS : Aside0 (CS.size = 65) := ⟨by rw [hCS]; exact WA_size _ HT64.out⟩
  have HC1 : Aside0 (∀ u ∈ CS.toList, u.oneCell' = true) := ⟨fun u hu => by have := oneW x T; rw [hCS] at hu; exact (Array.all_eq_true_iff_forall_mem.1 this) u (by simpa [WA] using hu)⟩
  have HCE := Aside0.mk hCS
  obtain ⟨iW, hiW, hzW, hsW, hbW⟩ := info_parts infoW
  clear h0 h1 h2 h3 h4 h5 hf HX10 HX8 HBX HPX hT hCS HTY0
  obtain ⟨h0, h1, h2, h3, h4, h5, hf⟩ := cells6 HPY.out.blk
  have s0V : Y.drew.cell? ⟨c, 1, none⟩ = some (.slice Aw p1.wet.length cw) := h1
  have s1V : Y.drew.heap[g10]? = some (.cells (U T).toArray 55 (0, 0)) := HTY.out
  clear h0 h1 h2 h3 h4 h5 hf
  refine start_ (n := 13) (S := fun w' => w'.cell? ⟨c, 1, none⟩ = some (.slice Aw p1.wet.length cw) ∧ w'.heap[g10]? = some (.cells (U T).toArray 55 (0, 0))) (ds := [12]) #[false, false, false, false, false, false, false, false, false, false, false, false, false] (by kernel_rfl) rfl rfl ⟨s0V, s1V⟩ (fun hHeld => ?_)
  refine with_tabW pl11.tab11 pl11.bits11 (fun HT_ HW_ => ?_)
  refine pure_ (i := 0) (N := some 63) (v := ?_) (a' := ?_) #[true, false, false, false, false, false, false, false, false, false, false, false, false] rfl rfl (any_of HT_.out (by kernel_rfl)) (fun _ _ _ h => h) (Or.inl ⟨by rfl, ?_⟩) ?_ ?_
  rotate_left
  · intro w'
    go_simp
    with_reducible rfl
  rotate_left
  · simp only [Act.put, List.setIfInBounds_toArray, List.set_cons_zero, List.set_cons_succ, i64_w, i32_w]
    rfl
  refine pure_ (i := 1) (N := some 64) (v := ?_) (a' := ?_) #[true, true, false, false, false, false, false, false, false, false, false, false, false] rfl rfl (any_of HT_.out (by kernel_rfl)) (fun _ _ _ h => h) (Or.inl ⟨by rfl, ?_⟩) ?_ ?_
  rotate_left
  · intro w'
    go_simp
    with_reducible rfl
  rotate_left
  · simp only [Act.put, List.setIfInBounds_toArray, List.set_cons_zero, List.set_cons_succ, i64_w, i32_w]
    rfl
  refine pure_ (i := 2) (N := some 65) (v := ?_) (a' := ?_) #[true, true, true, false, false, false, false, false, false, false, false, false, false] rfl rfl (any_of HT_.out (by kernel_rfl)) (fun _ _ _ h => h) (Or.inl ⟨by rfl, ?_⟩) ?_ ?_
  rotate_left
  · intro w'
    go_simp
    with_reducible rfl
  rotate_left
  · simp only [Act.put, List.setIfInBounds_toArray, List.set_cons_zero, List.set_cons_succ, i64_w, i32_w]
    rfl
  refine pure_ (i := 3) (N := some 66) (v := ?_) (a' := ?_) #[true, true, true, true, false, false, false, false, false, false, false, false, false] rfl rfl (any_of HT_.out (by kernel_rfl)) (fun _ _ _ h => h) (Or.inl ⟨by rfl, ?_⟩) ?_ ?_
  rotate_left
  · intro w'
    go_simp
    with_reducible rfl
  rotate_left
  · simp only [Act.put, List.setIfInBounds_toArray, List.set_cons_zero, List.set_cons_succ, i64_w, i32_w]
    rfl
  refine pure_ (i := 5) (N := some 68) (v := ?_) (a' := ?_) #[true, true, true, true, false, true, false, false, false, false, false, false, false] rfl rfl (any_of HT_.out (by kernel_rfl)) (fun _ _ _ h => h) (Or.inl ⟨by rfl, ?_⟩) ?_ ?_
  rotate_left
  · intro w'
    go_simp
    with_reducible rfl
  rotate_left
  · simp only [Act.put, List.setIfInBounds_toArray, List.set_cons_zero, List.set_cons_succ, i64_w, i32_w]
    rfl
  refine take_ (i := 4) (N := some 67) (v := ?_) (a' := ?_) #[true, true, true, true, true, true, false, false, false, false, false, false, false] rfl rfl (take_ofW HT_.out HW_.out (by kernel_rfl)) (fun _ _ _ h => h) (Or.inl ⟨by rfl, ?_⟩) hHeld ?_ ?_
  rotate_left
  · rintro w' ⟨s0, s1⟩
    go_simp
    with_reducible rfl
  rotate_left
  · simp only [Act.put, List.setIfInBounds_toArray, List.set_cons_zero, List.set_cons_succ, i64_w, i32_w]
    rfl
  refine take_ (i := 6) (N := some 69) (v := ?_) (a' := ?_) #[true, true, true, true, true, true, true, false, false, false, false, false, false] rfl rfl (take_ofW HT_.out HW_.out (by kernel_rfl)) (fun _ _ _ h => h) (Or.inl ⟨by rfl, ?_⟩) hHeld ?_ ?_
  rotate_left
  · rintro w' ⟨s0, s1⟩
    refine ex_row 55 (.tmp 10) ?_ g10 ?_ 55 (U T).toArray (0, 0) _ s1 Try.underlying55 ?_ (by rw [info55]; simp [HT64.out]) <;> rfl
  rotate_left
  · simp only [Act.put, List.setIfInBounds_toArray, List.set_cons_zero, List.set_cons_succ, i64_w, i32_w]
    rfl
  refine pure_ (i := 7) (N := some 70) (v := ?_) (a' := ?_) #[true, true, true, true, true, true, true, true, false, false, false, false, false] rfl rfl (any_of HT_.out (by kernel_rfl)) (fun _ _ _ h => h) (Or.inl ⟨by rfl, ?_⟩) ?_ ?_
  rotate_left
  · intro w'
    refine ex_build2 (t := 68) (u := 69) ?_ x (U T) ?_ ?_ (by simp [HT64.out]) <;> rfl
  rotate_left
  · simp only [Act.put, List.setIfInBounds_toArray, List.set_cons_zero, List.set_cons_succ, i64_w, i32_w]
    rfl
  refine one_ (i := 8) (N := some 71) #[true, true, true, true, true, true, true, true, true, false, false, false, false] rfl rfl (one_of HT_.out (by kernel_rfl)) (by decide) (fun K hK => ?_)
  refine event_step (by rfl) (run_one (CS := CS) (t := 70) rfl (by rw [HCE.out]; rfl) HCS.out) ?_
  obtain ⟨V6, hV6⟩ : ∃ V6, V6 = Y.drew.alloc (.cells CS 57) := ⟨_, rfl⟩
  obtain ⟨g6, hg6⟩ : ∃ g6, g6 = Y.drew.heap.size := ⟨_, rfl⟩
  have hB6 : Below Y.heap.size Y V6 := by rw [hV6]; exact below_alloc (below_drew (Below.refl _ _)) _
  have h66 : V6.heap[g6]? = some (.cells CS 57 (0, 0)) := by rw [hV6, hg6]; exact blk_new _ _
  rw [← hV6, ← hg6]
  have HB6 := Aside0.mk hB6
  have H66 := Aside0.mk h66
  have HP6 := Aside0.mk (HPY.out.below hB6)
  have t0 := (cells6 HP6.out.blk).2.1
  have t1 := blk_below HTY.out hB6
  have HT1 := Aside0.mk t1
  clear hV6 hg6 hB6 h66
  refine hK.out _ _ ⟨t0, t1⟩ (fun hHeld => ?_)
  clear hK K
  refine norm_ (a' := ?_) ?_ ?_
  rotate_left
  · show Act.put _ (some 71) _ = _
    simp only [Act.put, List.setIfInBounds_toArray, List.set_cons_zero, List.set_cons_succ, i64_w, i32_w]
    rfl
  refine one_ (i := 9) (N := some 72) #[true, true, true, true, true, true, true, true, true, true, false, false, false] rfl rfl (one_of HT_.out (by kernel_rfl)) (by decide) (fun K hK => ?_)
  refine step_append_p rfl (.tmp 67) (.tmp 71) 52 rfl 0 57 iW _ 65 72 Try.underlying52 hiW hzW hsW hbW Z65_size (by decide) (.slice Aw p1.wet.length cw) p1.wet.length (flatW p1.wet) rfl HP6.out.wrow ⟨g6, 0, none⟩ 1 1 CS.toList rfl (by rw [Array.length_toList, HCS.out]) (fun j u hu => by rw [add_plain, blk_cell H66.out]; simpa using hu) HC1.out (by unfold maxLen; have := HWN1.out; omega) (by have := HWN1.out; omega) (Nat.zero_le _) ?_
  intro v7 w7 hrow hfr hat
  have HROW := Aside0.mk hrow
  have HFR := Aside0.mk hfr
  have HAT := Aside0.mk hat
  have hb7 := hfr.at HP6.out.blk (HP6.out.wrow.ne HP6.out.blk (by decide))
  have u0 := (cells6 hb7).2.1
  have uf := (cells6 hb7).2.2.2.2.2.2
  have u1 := hfr.at HT1.out (fun e => HNE.out _ e rfl)
  clear hrow hfr hat hb7
  refine hK.out _ _ ⟨u0, u1⟩ (fun hHeld => ?_)
  clear hK K
  refine norm_ (a' := ?_) ?_ ?_
  rotate_left
  · show Act.put _ (some 72) _ = _
    simp only [Act.put, List.setIfInBounds_toArray, List.set_cons_zero, List.set_cons_succ, i64_w, i32_w]
    rfl
  refine pure_ (i := 10) (N := some 73) (v := ?_) (a' := ?_) #[true, true, true, true, true, true, true, true, true, true, true, false, false] rfl rfl (any_of HT_.out (by kernel_rfl)) (fun _ _ _ h => h) (Or.inl ⟨by rfl, ?_⟩) ?_ ?_
  rotate_left
  · intro w'
    go_simp
    with_reducible rfl
  rotate_left
  · simp only [Act.put, List.setIfInBounds_toArray, List.set_cons_zero, List.set_cons_succ, i64_w, i32_w]
    rfl
  refine pure_ (i := 11) (N := some 74) (v := ?_) (a' := ?_) #[true, true, true, true, true, true, true, true, true, true, true, true, false] rfl rfl (any_of HT_.out (by kernel_rfl)) (fun _ _ _ h => h) (Or.inl ⟨by rfl, ?_⟩) ?_ ?_
  rotate_left
  · intro w'
    go_simp
    with_reducible rfl
  rotate_left
  · simp only [Act.put, List.setIfInBounds_toArray, List.set_cons_zero, List.set_cons_succ, i64_w, i32_w]
    rfl
  refine last_ (i := 12) (N := none) #[true, true, true, true, true, true, true, true, true, true, true, true, true] rfl rfl (one_of HT_.out (by kernel_rfl)) (by decide) (fun K hK => ?_)
  refine store_step (by rfl) (w1 := w7.setCell ⟨c, 1, none⟩ v7) ?_ ?_
  · obtain ⟨A7, c7, e7⟩ := HROW.out.form
    rw [e7]
    go_simp
  refine hK.out _ _ ?_
  clear hK K
  refine done_ (done_of HT_.out (by kernel_rfl)) ?_
  go_wp2_with fail
  go_ret
  have hrow := HROW.out
  rw [HCE.out] at hrow
  obtain ⟨k1, k2, k3⟩ := push_end (p := p1) HP6.out HT64.out (x := (x : Int)) (by rw [HS1.out]; have := HXN.out; omega) HWN1.out hrow HFR.out HAT.out
  have F0 : Fr W w3 (Own c sv (.slice Aw p1.wet.length cw)) := (Fr.of_below HB2.out _).trans (HF3.out.mono (fun i h => .inl h))
  have F1 := (F0.trans (Fr.of_below HBY.out _)).trans (Fr.of_below HB6.out _)
  rw [HTE.out, HS0.out, HSEC.out, HMM.out, HW1.out] at k1
  rw [HP1.out] at k1
  exact ⟨rfl, v7, k1, F1.trans k2, fun k hk => (k3 k hk).elim .inl (fun h => .inr (Nat.le_trans F1.size h))⟩
end Go.Proofs.Ytcobkideokljfaa
