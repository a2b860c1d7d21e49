/- A plate: Write. -/
import Derived.Test.YtcobkideokljfaaPlateD
import Derived.Test.YtcobkideokljfaaWMore
import Derived.Test.YtcobkideokljfaaWTab
import Derived.Great.BuildSlice
import Derived.Great.FillDense
import Derived.Laws.CopyOwn
namespace Go.Proofs.Ytcobkideokljfaa
open Go.RowKit Go.Proofs.YtcobkideokljfaaW.PrintWords Go.Proofs.YtcobkideokljfaaW.PrintLast Go.Proofs.YtcobkideokljfaaW.PrintMore
set_option linter.unusedVariables false
set_option linter.unusedSimpArgs false

theorem step_append_p {P : Program} {ops : Array Oper} {o : Oper} {a : Act} {w : World} {K : Act → World → Prop} {Q : Exit → Act → World → Prop} {E : Prop}
    (hgd : o.guard = none) (s x : Operand) (t : TypeId) (ho : o.op = .call { callee := .builtin .append, args := #[s, x], argTypes := #[t, t] })
    (base : Nat) (e : TypeId) (i : TypeInfo) (z : Value) (size bytes : Nat) (ht : P.underlying t = some (.slice e)) (hi : P.info? e = some i) (hz : i.zero = some z)
    (hsize : i.size = size) (hby : i.bytes = bytes) (hzs : z.cells.size = size) (hsz : 0 < size)
    (v : Value) (n : Nat) (xs : List Value) (hs : a.eval s = v) (hown : RowP w base e size v n xs)
    (ad : Addr) (m c : Nat) (news : List Value) (hx : a.eval x = .slice (some ad) m c) (hl : news.length = m * size) (hnews : ∀ j u, news[j]? = some u → w.cell? (ad.add j) = some u) (h1 : ∀ u ∈ news, u.oneCell' = true)
    (h63 : n + m ≤ maxLen) (hbytes : (n + m) * bytes ≤ 140737488355328) (hbase : base ≤ w.heap.size)
    (h : ∀ v' w', RowP w' base e size v' (n + m) (xs ++ news) → Fr w w' (fun i => some i = v.ownBlock) → (∀ k, some k = v'.ownBlock → some k = v.ownBlock ∨ w.heap.size ≤ k) → K (a.put o.dst v') w') :
    if Region.wanted o (yielded ops a.tmps) = true then Oper.wp P o a w K Q else E := by
  have hw : Region.wanted o (yielded ops a.tmps) = true := by simp [Region.wanted, hgd]
  rw [if_pos hw]
  obtain ⟨v', w', hr, h2, h3, h4⟩ := run_append_p (P := P) w base t o.type e i z size bytes ht hi hz hsize hby hzs hsz v n xs hown ad m c news hl hnews h1 h63 hbytes hbase
  unfold Oper.wp execOp
  simp only [ho, resolve, invoke, builtin, Sem.run_bind, Sem.run_pure, Result.andThen_ok, List.map_toArray, List.map_cons, List.map_nil, hs, hx, hr]
  exact h v' w' h2 h3 h4
theorem store_step {P : Program} {ops : Array Oper} {o : Oper} {a : Act} {W w1 : World} {Kc : Act → World → Prop} {Q : Exit → Act → World → Prop} (hw : Region.wanted o (yielded ops a.tmps) = true) (hrun : (execOp a.eval o).run P W = .ok .skip w1) (h : Kc (a.put o.dst undef) w1) : if Region.wanted o (yielded ops a.tmps) = true then Oper.wp P o a W Kc Q else Kc (a.put o.dst undef) W := by
  rw [if_pos hw]
  unfold Oper.wp
  rw [hrun]
  exact h
theorem ex_row {P : Program} {op : Oper} {a : Act} {w : World} (ty : TypeId) (x : Operand) (ho : op.op = .load ty x) (g : Nat) (hx : a.eval x = .pointer (some ⟨g, 0, none⟩)) (t : TypeId) (cs : Array Value) (fr : Nat × Nat) (d : TypeDesc) (hg : w.heap[g]? = some (.cells cs t fr))
    (hu : P.underlying ty = some d) (hd : (match d with | .struct _ | .array _ _ => true | _ => false) = true) (hi : (P.info? ty).map (·.size) = some cs.size) : (execOp a.eval op).run P w = .ok (.value (.agg cs)) w := by
  unfold execOp
  simp only [ho, hx, Instr.loadAt, Instr.sureAddr, Sem.run_bind, Sem.run_pure, Result.andThen_ok, run_loadVar_row w g t ty cs fr d hg hu hd hi]
theorem infoW : (Try.prog.info? 57).map (fun i => (i.zero, i.size, i.bytes)) = some (some (.agg Z65), 65, 72) := by kernel_rfl
theorem run_one {o : Oper} {a : Act} {W : World} {CS : Array Value} {t : Tmp} (ho : o.op = .buildSlice 52 1 #[(0, .tmp t)]) (hx : a.eval (.tmp t) = .agg CS) (hs : CS.size = 65) :
    (execOp a.eval o).run Try.prog W = .ok (.value (.slice (some ⟨W.heap.size, 0, none⟩) 1 1)) (W.alloc (.cells CS 57)) := by
  obtain ⟨i, hi, hz, h65, hb⟩ := info_parts infoW
  unfold execOp
  have hf : Instr.fill (fun j => some (j * i.size, i.size)) ((Array.range (1 * i.size)).map ((Value.agg Z65).cells[· % (Value.agg Z65).cells.size]!)) (#[(0, Operand.tmp t)].map fun (j, x) => (j, a.eval x)).toList = some CS := by
    have h := Go.Great.fill_whole (s := 65) (by decide) [.agg CS] ((Array.range (1 * i.size)).map ((Value.agg Z65).cells[· % (Value.agg Z65).cells.size]!)) (by simp [Value.cells, hs]) (by simp [h65])
    rw [h65] at h ⊢
    simpa [Value.cells, hx] using h
  simp only [ho, Sem.run_bind, run_buildSlice W 52 57 1 _ CS i (.agg Z65) Try.underlying52 hi hz (by rw [h65]; decide) (by rw [h65]; decide) hf, Result.andThen_ok, Sem.run_pure]
def pad (bs : List Int) : List Int := bs ++ List.replicate (64 - bs.length) 0
theorem pad_len {bs : List Int} (h : bs.length ≤ 64) : (pad bs).length = 64 := by simp [pad]; omega
def WA (x : Int) (s : List Int) : Array Value := (Value.int .i64 x :: U s).toArray
theorem WA_size (x : Int) {s : List Int} (h : s.length = 64) : (WA x s).size = 65 := by simp [WA, h]
theorem built57 (x : Int) : Try.prog.built 57 [(0, .int .i64 x)] = some (WA x (List.replicate 64 0)) := by kernel_rfl
theorem wp_build57 {ops : Array Oper} {rest : List Oper} {o : Oper} {a : Act} {w : World} {Q : Exit → Act → World → Prop} (hg : o.guard = none) (t : Tmp) (x : Int) (ho : o.op = .build 57 #[(0, .tmp t)]) (hx : a.eval (.tmp t) = .int .i64 x)
    (h : wpList Try.prog ops Q rest (a.put o.dst (.agg (WA x (List.replicate 64 0)))) w) : wpList Try.prog ops Q (o :: rest) a w := by
  have e : (#[(0, Operand.tmp t)].map fun (i, x) => (i, a.eval x)).toList = [(0, .int .i64 x)] := by simp [hx]
  refine wpList_build hg 57 _ ho (by rw [e, built57]; rfl) ?_
  rw [e, built57]
  exact h
theorem splice_pad (x : Int) {bs : List Int} (h : bs.length ≤ 64) : (splice (Value.int .i64 x :: U (List.replicate 64 0)) 1 (U bs)).toArray = WA x (pad bs) := by
  unfold splice WA pad
  congr 1
  have e : (Value.int .i64 x :: U (List.replicate 64 0)).drop (1 + (U bs).length) = U (List.replicate (64 - bs.length) 0) := by
    rw [Nat.add_comm, List.drop_succ_cons]
    rw [U, U, ← List.map_drop, List.drop_replicate, List.length_map]
  rw [e]
  simp [U]
theorem src_of {w : World} {A : Option Addr} {bs : List Int} (h : Kd.C (Kd.int .u8) w A bs.length bs) (hp : 0 < bs.length) : ∃ ad, A = some ad ∧ ∀ j v, (U bs)[j]? = some v → w.cell? (ad.add j) = some v := by
  obtain ⟨_, _, hr⟩ := Kd.reads_of_C (d := (0 : Int)) h
  obtain ⟨ad, e, hc⟩ := hr hp
  refine ⟨ad, e, fun j v hv => ?_⟩
  have hj : j < bs.length := by have := (List.getElem?_eq_some_iff.1 hv).1; simpa using this
  rw [hc j hj]
  simp [hj] at hv
  simp [← hv, hj]
/-- A write goes behind the others. -/
theorem push_end {w3 w7 : World} {c : Nat} {sv wv v' : Value} {p : St} {x : Int} {s : List Int} (H : IsPlate w3 c sv wv p) (hs : s.length = 64) (hx : 0 ≤ x ∧ x < p.safe.length) (hn : p.wet.length < 1000)
    (hrow : RowP w7 0 57 65 v' (p.wet.length + 1) (flatW p.wet ++ (WA x s).toList)) (hf : Fr w3 w7 (fun i => some i = wv.ownBlock)) (hat : ∀ k, some k = v'.ownBlock → some k = wv.ownBlock ∨ w3.heap.size ≤ k) :
    IsPlate (w7.setCell ⟨c, 1, none⟩ v') c sv v' { p with wet := p.wet ++ [(x, s)] } ∧ Fr w3 (w7.setCell ⟨c, 1, none⟩ v') (Own c sv wv) ∧ (∀ k, Own c sv v' k → Own c sv wv k ∨ w3.heap.size ≤ k) := by
  have hcn : ¬ some c = wv.ownBlock := H.wrow.ne H.blk (by decide)
  have hb7 := hf.at H.blk hcn
  have hsn : ∀ g, some g = sv.ownBlock → ¬ some g = wv.ownBlock := by
    intro g hg hw
    obtain ⟨_, (⟨e, _⟩ | ⟨g', cap, cur, e, _, hg', _⟩)⟩ := H.srow
    · rw [e] at hg; simp [Value.ownBlock] at hg
    · rw [e] at hg; simp [Value.ownBlock] at hg; subst hg; exact H.wrow.ne hg' (by decide) hw
  have hs7 : RowP w7 0 55 64 sv p.safe.length (flatS p.safe) := H.srow.of (fun g hg => hf.block g (H.srow.lt g hg).1 (hsn g hg))
  refine ⟨⟨blk_put hb7 1 v' rfl, ?_, ?_, ⟨H.fit.sl, ?_, ?_, H.fit.sn, by simp; omega⟩⟩, (hf.mono (fun i h => .inr (.inr h))).set (p := ⟨c, 1, none⟩) (.inl (.inl rfl)) _, ?_⟩
  · exact hs7.of (fun g hg => Below.heap_setCell w7 _ _ g (fun e => hs7.ne hb7 (by decide) (by rw [show c = g from e.symm]; exact hg)))
  · have e : flatW (p.wet ++ [(x, s)]) = flatW p.wet ++ (WA x s).toList := by rw [flatW_app]; simp [flatW, WA]
    dsimp only
    rw [e, List.length_append]
    exact hrow.of (fun g hg => Below.heap_setCell w7 _ _ g (fun e => hrow.ne hb7 (by decide) (by rw [show c = g from e.symm]; exact hg)))
  · intro q hq
    rcases List.mem_append.1 hq with h | h
    · exact H.fit.wl q h
    · obtain rfl := List.mem_singleton.1 h; exact hs
  · intro q hq
    rcases List.mem_append.1 hq with h | h
    · exact H.fit.at_ q h
    · obtain rfl := List.mem_singleton.1 h; exact hx
  · rintro k (rfl | hk | hk)
    · exact .inl (.inl rfl)
    · exact .inl (.inr (.inl hk))
    · exact (hat k hk).elim (fun h => .inl (.inr (.inr h))) .inr
def torn (k : Nat) (b s : List Int) : List Int := b.take k ++ s.drop k
def St.write (p : St) (x : Nat) (bs : List Int) : St × Int :=
  if p.act.2 = 0 then ({ p.act.1 with wet := p.wet ++ [((x : Int), pad bs)] }, 0)
  else if p.off = false ∧ 0 < p.spare then ({ p.act.1 with wet := p.wet ++ [((x : Int), torn (min p.spare.toNat 64) (pad bs) (p.sector x))] }, 7) else (p.act.1, 7)
theorem write_nil (x : Int) (A : Option Addr) (n cb : Nat) (w : World) : Calls Try.prog 10 #[.pointer none, .int .i64 x, .slice A n cb] w fun e w' => e = .returned (.int .i64 1) ∧ w' = w := by
  by_cases hx : x < 0
  · go_enter Try.func10, Try.ntmps10
    go_wp2_with fail
    go_ret
    exact ⟨rfl, rfl⟩
  · have hx0 : (0 : Int) ≤ x := by omega
    go_enter Try.func10, Try.ntmps10
    go_wp2_with fail
    go_at_call 20
    refine (size_nil _).mono ?_
    rintro e w1 ⟨rfl, rfl⟩
    go_wp2_with fail
    go_ret
    exact ⟨rfl, rfl⟩
def pl13.T13 : Bool × List (List Nat × List Nat) := (true, [([], []), ([], []), ([1], [1]), ([2], [2]), ([3], [3]), ([], []), ([5], [5]), ([4, 6], [4, 6]), ([0, 0, 1, 2, 3, 4, 5, 6, 7], [0]), ([8, 0, 1, 2, 3, 4, 5, 6, 7], [8]), ([9, 7, 7, 0, 1, 2, 3, 4, 5, 6, 7], [7, 9])])
def pl13.B13 : List Nat := [0, 0, 2, 6, 14, 0, 32, 126, 255, 511, 1023]
theorem pl13.tab13 : rtab .any (opsOf Try.f10 13) = pl13.T13 := by kernel_rfl
theorem pl13.bits13 : waitsOk pl13.T13.2 pl13.B13 = true := by kernel_rfl
set_option maxHeartbeats 8000000 in
set_option maxRecDepth 100000 in
theorem write_ok {w : World} {c : Nat} {sv wv : Value} {p : St} (H : IsPlate w c sv wv p) (x : Nat) (hx : x < p.safe.length) (bs : List Int) (hbn : bs.length ≤ 64) (hwn : p.wet.length < 1000) (A : Option Addr) (cb : Nat)
    (hsrc : Kd.C (Kd.int .u8) w A bs.length bs) (ha : p.act.2 = 0) :
    Calls Try.prog 10 #[.pointer (some ⟨c, 0, none⟩), .int .i64 x, .slice A bs.length cb] w fun e w' => e = .returned (.int .i64 (p.write x bs).2) ∧ ∃ wv', IsPlate w' c sv wv' (p.write x bs).1 ∧ Fr w w' (Own c sv wv) ∧ (∀ k, Own c sv wv' k → Own c sv wv k ∨ w.heap.size ≤ k) := by
  rw [show p.write x bs = ({ p.act.1 with wet := p.wet ++ [((x : Int), pad bs)] }, 0) from by simp [St.write, ha]]
  have HI := Aside0.mk H
  have HBN := Aside0.mk hbn
  have HWN := Aside0.mk hwn
  have HXN := Aside0.mk hx
  have HSRC := Aside0.mk hsrc
  obtain ⟨h0, h1, h2, h3, h4, h5, hf⟩ := cells6 H.blk
  have i1 : (x : Int) < p.safe.length := by omega
  have i2 : ¬ (x : Int) < 0 := by omega
  have i3 : ¬ 64 < bs.length := by omega
  have hz57 := zero57
  clear H hsrc hwn hbn
  go_enter Try.func10, Try.ntmps10
  go_wp2_with fail
  go_at_call 20
  refine (size_c HI.out).mono ?_
  rintro e W ⟨rfl, rfl⟩
  obtain ⟨W0, hW0⟩ : ∃ W0, W0 = W := ⟨_, rfl⟩
  go_wp2_with (first
    | (refine wp_build57 rfl 30 x rfl rfl ?_)
    | (refine wp_store_new rfl 57 (.tmp 8) (.tmp 31) rfl (WA x (List.replicate 64 0)) rfl rfl (by rw [info57, WA_size _ (by simp)]) (by rw [Z65_size, WA_size _ (by simp)]) (oneW _ _) ?_
       intro V hv8 hV
       have HV8 := Aside0.mk hv8
       have HBV : Aside0 (Below W.heap.size W V) := ⟨by rw [hV]; exact below_alloc (Below.refl _ _) _⟩
       clear hv8 hV)
    | (refine wpList_copy_splice rfl (.tmp 33) (.tmp 34) 22 22 rfl 5 Try.underlying22 (by kernel_rfl) (some ⟨W.heap.size, 1, none⟩) A 64 64 bs.length cb rfl rfl W.heap.size 1 (Value.int .i64 x :: U (List.replicate 64 0)) 57 HV8.out (U bs) (by rw [List.length_map]; exact (Nat.min_eq_left HBN.out).symm) (fun h => ⟨rfl, src_of (Kd.C_below HSRC.out HBV.out) (by simpa using h)⟩) (by have := HBN.out; rw [List.length_map, List.length_cons, List.length_map, List.length_replicate]; omega) (fun u hu => by obtain ⟨y, _, rfl⟩ := List.mem_map.1 hu; rfl) W.heap.size W HBV.out (Nat.le_refl _) ?_
       intro V2 hv8 hb2
       have HC8 : Aside0 (V2.heap[W.heap.size]? = some (.cells (WA x (pad bs)) 57 (0, 0))) := ⟨by rw [← splice_pad _ HBN.out]; exact hv8⟩
       have HB2 := Aside0.mk hb2
       clear hv8 hb2))
  obtain ⟨g8, hg8⟩ : ∃ g8, g8 = W.heap.size := ⟨_, rfl⟩
  rw [← hg8] at HC8 ⊢
  have HG8 := Aside0.mk hg8
  clear hg8 hW0
  go_at_call 23
  refine (act_c (HI.out.below HB2.out)).mono ?_
  rintro e w3 ⟨rfl, q1, f1⟩
  rw [ha]
  have HP3 := Aside0.mk q1
  have HF3 := Aside0.mk f1
  have hc8 : w3.heap[g8]? = some (.cells (WA x (pad bs)) 57 (0, 0)) := f1.at HC8.out (fun e => by have h1 := blk_lt HI.out.blk; have h2 := HG8.out; have h3 : g8 = c := e; omega)
  have HC3 := Aside0.mk hc8
  clear q1 f1 hc8 h0 h1 h2 h3 h4 h5 hf
  obtain ⟨hw1, hs1, hsp1, _⟩ := act_wet p
  obtain ⟨p1, hp1⟩ : ∃ p1, p1 = p.act.1 := ⟨_, rfl⟩
  rw [← hp1] at HP3 hw1 hs1 hsp1
  have HP1 := Aside0.mk hp1
  have HW1 := Aside0.mk hw1
  have HWN1 : Aside0 (p1.wet.length < 1000) := ⟨by rw [hw1]; exact HWN.out⟩
  have HS1 := Aside0.mk hs1
  obtain ⟨Aw, cw, rfl⟩ := HP3.out.wrow.form
  have HNE : Aside0 (∀ k, some k = (Value.slice Aw p1.wet.length cw).ownBlock → k ≠ g8) := ⟨fun k hk e => by have h1 := (HI.out.wrow.lt k hk).1; have h2 := HG8.out; omega⟩
  obtain ⟨CS, hCS⟩ : ∃ CS, CS = WA x (pad bs) := ⟨_, rfl⟩
  rw [← hCS] at HC3
  have HCS : Aside0 (CS.size = 65) := ⟨by rw [hCS]; exact WA_size _ (pad_len HBN.out)⟩
  have HC1 : Aside0 (∀ u ∈ CS.toList, u.oneCell' = true) := ⟨fun u hu => by have := oneW x (pad bs); rw [hCS] at hu; exact (Array.all_eq_true_iff_forall_mem.1 this) u (by simpa [WA] using hu)⟩
  have HCE := Aside0.mk hCS
  obtain ⟨iW, hiW, hzW, hsW, hbW⟩ := info_parts infoW
  obtain ⟨h0, h1, h2, h3, h4, h5, hf⟩ := cells6 HP3.out.blk
  clear hp1 hw1 hs1 hsp1 hCS HC8
  go_wp2_with fail
  have s0V : w3.drew.cell? ⟨c, 1, none⟩ = some (.slice Aw p1.wet.length cw) := h1
  have s1V : w3.drew.heap[g8]? = some (.cells CS 57 (0, 0)) := HC3.out
  clear h0 h1 h2 h3 h4 h5 hf
  refine start_ (n := 11) (S := fun w' => w'.cell? ⟨c, 1, none⟩ = some (.slice Aw p1.wet.length cw) ∧ w'.heap[g8]? = some (.cells CS 57 (0, 0))) (ds := [10]) #[false, false, false, false, false, false, false, false, false, false, false] (by kernel_rfl) rfl rfl ⟨s0V, s1V⟩ (fun hHeld => ?_)
  refine with_tabW pl13.tab13 pl13.bits13 (fun HT_ HW_ => ?_)
  refine pure_ (i := 0) (N := some 76) (v := ?_) (a' := ?_) #[true, false, false, false, false, false, false, false, false, false, false] rfl rfl (any_of HT_.out (by kernel_rfl)) (fun _ _ _ h => h) (Or.inl ⟨by rfl, ?_⟩) ?_ ?_
  rotate_left
  · intro w'
    go_simp
    with_reducible rfl
  rotate_left
  · simp only [Act.put, List.setIfInBounds_toArray, List.set_cons_zero, List.set_cons_succ, i64_w, i32_w]
    rfl
  refine pure_ (i := 1) (N := some 77) (v := ?_) (a' := ?_) #[true, true, false, false, false, false, false, false, false, false, false] rfl rfl (any_of HT_.out (by kernel_rfl)) (fun _ _ _ h => h) (Or.inl ⟨by rfl, ?_⟩) ?_ ?_
  rotate_left
  · intro w'
    go_simp
    with_reducible rfl
  rotate_left
  · simp only [Act.put, List.setIfInBounds_toArray, List.set_cons_zero, List.set_cons_succ, i64_w, i32_w]
    rfl
  refine pure_ (i := 2) (N := some 78) (v := ?_) (a' := ?_) #[true, true, true, false, false, false, false, false, false, false, false] rfl rfl (any_of HT_.out (by kernel_rfl)) (fun _ _ _ h => h) (Or.inl ⟨by rfl, ?_⟩) ?_ ?_
  rotate_left
  · intro w'
    go_simp
    with_reducible rfl
  rotate_left
  · simp only [Act.put, List.setIfInBounds_toArray, List.set_cons_zero, List.set_cons_succ, i64_w, i32_w]
    rfl
  refine pure_ (i := 3) (N := some 79) (v := ?_) (a' := ?_) #[true, true, true, true, false, false, false, false, false, false, false] rfl rfl (any_of HT_.out (by kernel_rfl)) (fun _ _ _ h => h) (Or.inl ⟨by rfl, ?_⟩) ?_ ?_
  rotate_left
  · intro w'
    go_simp
    with_reducible rfl
  rotate_left
  · simp only [Act.put, List.setIfInBounds_toArray, List.set_cons_zero, List.set_cons_succ, i64_w, i32_w]
    rfl
  refine take_ (i := 4) (N := some 80) (v := ?_) (a' := ?_) #[true, true, true, true, true, false, false, false, false, false, false] rfl rfl (take_ofW HT_.out HW_.out (by kernel_rfl)) (fun _ _ _ h => h) (Or.inl ⟨by rfl, ?_⟩) hHeld ?_ ?_
  rotate_left
  · rintro w' ⟨s0, s1⟩
    go_simp
    with_reducible rfl
  rotate_left
  · simp only [Act.put, List.setIfInBounds_toArray, List.set_cons_zero, List.set_cons_succ, i64_w, i32_w]
    rfl
  refine take_ (i := 5) (N := some 81) (v := ?_) (a' := ?_) #[true, true, true, true, true, true, false, false, false, false, false] rfl rfl (take_ofW HT_.out HW_.out (by kernel_rfl)) (fun _ _ _ h => h) (Or.inl ⟨by rfl, ?_⟩) hHeld ?_ ?_
  rotate_left
  · rintro w' ⟨s0, s1⟩
    refine ex_row 57 (.tmp 8) ?_ g8 ?_ 57 CS (0, 0) _ s1 Try.underlying57 ?_ (by rw [info57, HCS.out]) <;> rfl
  rotate_left
  · simp only [Act.put, List.setIfInBounds_toArray, List.set_cons_zero, List.set_cons_succ, i64_w, i32_w]
    rfl
  refine one_ (i := 6) (N := some 82) #[true, true, true, true, true, true, true, false, false, false, false] rfl rfl (one_of HT_.out (by kernel_rfl)) (by decide) (fun K hK => ?_)
  refine event_step (by rfl) (run_one (CS := CS) (t := 81) rfl rfl HCS.out) ?_
  obtain ⟨V6, hV6⟩ : ∃ V6, V6 = w3.drew.alloc (.cells CS 57) := ⟨_, rfl⟩
  obtain ⟨g6, hg6⟩ : ∃ g6, g6 = w3.drew.heap.size := ⟨_, rfl⟩
  have hB6 : Below w3.heap.size w3 V6 := by rw [hV6]; exact below_alloc (below_drew (Below.refl _ _)) _
  have h66 : V6.heap[g6]? = some (.cells CS 57 (0, 0)) := by rw [hV6, hg6]; exact blk_new _ _
  rw [← hV6, ← hg6]
  have HB6 := Aside0.mk hB6
  have H66 := Aside0.mk h66
  have HP6 := Aside0.mk (HP3.out.below hB6)
  have t0 := (cells6 HP6.out.blk).2.1
  have t1 := blk_below HC3.out hB6
  have HT1 := Aside0.mk t1
  clear hV6 hg6 hB6 h66
  refine hK.out _ _ ⟨t0, t1⟩ (fun hHeld => ?_)
  clear hK K
  refine norm_ (a' := ?_) ?_ ?_
  rotate_left
  · show Act.put _ (some 82) _ = _
    simp only [Act.put, List.setIfInBounds_toArray, List.set_cons_zero, List.set_cons_succ, i64_w, i32_w]
    rfl
  refine one_ (i := 7) (N := some 83) #[true, true, true, true, true, true, true, true, false, false, false] rfl rfl (one_of HT_.out (by kernel_rfl)) (by decide) (fun K hK => ?_)
  refine step_append_p rfl (.tmp 80) (.tmp 82) 52 rfl 0 57 iW _ 65 72 Try.underlying52 hiW hzW hsW hbW Z65_size (by decide) (.slice Aw p1.wet.length cw) p1.wet.length (flatW p1.wet) rfl HP6.out.wrow ⟨g6, 0, none⟩ 1 1 CS.toList rfl (by rw [Array.length_toList, HCS.out]) (fun j u hu => by rw [add_plain, blk_cell H66.out]; simpa using hu) HC1.out (by unfold maxLen; have := HWN1.out; omega) (by have := HWN1.out; omega) (Nat.zero_le _) ?_
  intro v7 w7 hrow hfr hat
  have HROW := Aside0.mk hrow
  have HFR := Aside0.mk hfr
  have HAT := Aside0.mk hat
  have hb7 := hfr.at HP6.out.blk (HP6.out.wrow.ne HP6.out.blk (by decide))
  have u0 := (cells6 hb7).2.1
  have uf := (cells6 hb7).2.2.2.2.2.2
  have u1 := hfr.at HT1.out (fun e => HNE.out _ e rfl)
  clear hrow hfr hat hb7
  refine hK.out _ _ ⟨u0, u1⟩ (fun hHeld => ?_)
  clear hK K
  refine norm_ (a' := ?_) ?_ ?_
  rotate_left
  · show Act.put _ (some 83) _ = _
    simp only [Act.put, List.setIfInBounds_toArray, List.set_cons_zero, List.set_cons_succ, i64_w, i32_w]
    rfl
  refine pure_ (i := 8) (N := some 84) (v := ?_) (a' := ?_) #[true, true, true, true, true, true, true, true, true, false, false] rfl rfl (any_of HT_.out (by kernel_rfl)) (fun _ _ _ h => h) (Or.inl ⟨by rfl, ?_⟩) ?_ ?_
  rotate_left
  · intro w'
    go_simp
    with_reducible rfl
  rotate_left
  · simp only [Act.put, List.setIfInBounds_toArray, List.set_cons_zero, List.set_cons_succ, i64_w, i32_w]
    rfl
  refine pure_ (i := 9) (N := some 85) (v := ?_) (a' := ?_) #[true, true, true, true, true, true, true, true, true, true, false] rfl rfl (any_of HT_.out (by kernel_rfl)) (fun _ _ _ h => h) (Or.inl ⟨by rfl, ?_⟩) ?_ ?_
  rotate_left
  · intro w'
    go_simp
    with_reducible rfl
  rotate_left
  · simp only [Act.put, List.setIfInBounds_toArray, List.set_cons_zero, List.set_cons_succ, i64_w, i32_w]
    rfl
  refine last_ (i := 10) (N := none) #[true, true, true, true, true, true, true, true, true, true, true] rfl rfl (one_of HT_.out (by kernel_rfl)) (by decide) (fun K hK => ?_)
  refine store_step (by rfl) (w1 := w7.setCell ⟨c, 1, none⟩ v7) ?_ ?_
  · obtain ⟨A7, c7, e7⟩ := HROW.out.form
    rw [e7]
    go_simp
  refine hK.out _ _ ?_
  clear hK K
  refine done_ (done_of HT_.out (by kernel_rfl)) ?_
  go_wp2_with fail
  go_ret
  have hrow := HROW.out
  rw [HCE.out] at hrow
  obtain ⟨k1, k2, k3⟩ := push_end (p := p1) HP6.out (pad_len HBN.out) (x := (x : Int)) (by rw [HS1.out]; have := HXN.out; omega) HWN1.out hrow HFR.out HAT.out
  have F0 : Fr W w3 (Own c sv (.slice Aw p1.wet.length cw)) := (Fr.of_below HB2.out _).trans (HF3.out.mono (fun i h => .inl h))
  have F1 := F0.trans (Fr.of_below HB6.out _)
  rw [HW1.out] at k1
  rw [HP1.out] at k1
  exact ⟨rfl, v7, k1, F1.trans k2, fun k hk => (k3 k hk).elim .inl (fun h => .inr (Nat.le_trans F1.size h))⟩

end Go.Proofs.Ytcobkideokljfaa
