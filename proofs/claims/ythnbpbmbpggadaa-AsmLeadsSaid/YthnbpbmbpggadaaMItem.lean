/- What asm's item lays, for each kind of items. -/
import Derived.Test.YthnbpbmbpggadaaMCode

namespace Go.Proofs.Ythnbpbmbpggadaa.Mine
open Go.RowKit Go.Proofs.YthnbpbmbpggadaaW.PrintWords Go.Proofs.YthnbpbmbpggadaaW.PrintLast Go.Proofs.YthnbpbmbpggadaaW.PrintMore
open Go.Proofs.Ythnbpbmbpggadaa.PAsmLeads
set_option linter.unusedSimpArgs false
set_option linter.unusedVariables false

/-- what is so behind an item: an error, and the code -/
def CodePost (base g : Nat) (w : World) (err : Int) (ws : List Int) (rs : List (Int × Bool)) (e : Ending) (w' : World) : Prop :=
  ∃ vw' vr', e = .returned (.int .i64 err) ∧ IsCode w' base g vw' vr' ws rs ∧ Below base w w' ∧ KM g w w'
theorem ret_int {a b : Int} (h : a = b) : Ending.returned (.int .i64 a) = .returned (.int .i64 b) := by rw [h]
/-- what a jump's error becomes -/
def errG (x : Int) : Int := if x = 0 then 0 else 4
theorem not_len {w : World} {base : Nat} {e : TypeId} {size n : Nat} {v : Value} {xs : List Value} (h : w.ownsRow base e size v n xs) : ∃ A c, v = .slice A n c := own_slice h

set_option maxHeartbeats 800000 in
set_option maxRecDepth 100000 in
theorem item_do (base g : Nat) (vw vr : Value) (ws : List Int) (rs : List (Int × Bool)) (nm : ByteArray) (op a b c imm wd dst : Int) (w : World) (hC : IsCode w base g vw vr ws rs)
    (hlen : ws.length ≤ 16384) (hrl : rs.length ≤ 16384) (ht0 : 0 ≤ dst) (ht1 : dst ≤ 1000000) :
    Calls Try.prog 55 #[.pointer (some ⟨g, 0, none⟩), .agg #[.int .i64 1, .string nm, .int .i64 op, .int .i64 a, .int .i64 b, .int .i64 c, .int .i64 imm, .int .u32 wd], .int .i64 dst] w (CodePost base g w ((wordE op a b c imm)) (ws ++ [wordV op a b c imm]) (rs)) := by
  have hlt : g < w.heap.size := blk_lt hC.blk
  have HB0 : Below w.heap.size w (w.alloc (.cells #[.int .i64 1, .string nm, .int .i64 op, .int .i64 a, .int .i64 b, .int .i64 c, .int .i64 imm, .int .u32 wd] 41)) := below_alloc (Below.refl _ _) _
  have hC0 := hC.below HB0
  have hlow := hC.low
  obtain ⟨A, cw, hvw⟩ := own_slice hC.W
  obtain ⟨Ar, cr, hvr⟩ := own_slice hC.R
  subst hvw hvr
  have hc0 := blk_c hC0.blk 0 rfl
  have hc1 := blk_c hC0.blk 1 rfl
  have HC := Lib.hid hC
  have HC0 := Lib.hid hC0
  have hgne : g ≠ w.heap.size := by omega
  clear hC hC0
  go_enter Try.func55, Try.ntmps55
  go_wp2_with fail
  refine (lay_any base g _ _ ws rs _ _ _ _ _ _ HC0.out (by omega)).mono ?_
  rintro e w2 ⟨vw2, rfl, hC2, hb2, hk2⟩
  have HC2 := Lib.hid hC2
  clear hC2
  go_wp2_with fail
  go_ret
  exact ⟨_, _, rfl, HC2.out, (HB0.mono (by omega)).trans hb2, (KM.of_below HB0).trans hk2⟩

set_option maxHeartbeats 800000 in
set_option maxRecDepth 100000 in
theorem item_go (base g : Nat) (vw vr : Value) (ws : List Int) (rs : List (Int × Bool)) (nm : ByteArray) (op a b c imm wd dst : Int) (w : World) (hC : IsCode w base g vw vr ws rs)
    (hlen : ws.length ≤ 16384) (hrl : rs.length ≤ 16384) (ht0 : 0 ≤ dst) (ht1 : dst ≤ 1000000) :
    Calls Try.prog 55 #[.pointer (some ⟨g, 0, none⟩), .agg #[.int .i64 2, .string nm, .int .i64 op, .int .i64 a, .int .i64 b, .int .i64 c, .int .i64 imm, .int .u32 wd], .int .i64 dst] w (CodePost base g w (errG (wordE op a b c ((dst - 4 * ws.length - 4).tdiv 4))) (ws ++ [wordV op a b c ((dst - 4 * ws.length - 4).tdiv 4)]) (rs)) := by
  have hlt : g < w.heap.size := blk_lt hC.blk
  have HB0 : Below w.heap.size w (w.alloc (.cells #[.int .i64 2, .string nm, .int .i64 op, .int .i64 a, .int .i64 b, .int .i64 c, .int .i64 imm, .int .u32 wd] 41)) := below_alloc (Below.refl _ _) _
  have hC0 := hC.below HB0
  have hlow := hC.low
  obtain ⟨A, cw, hvw⟩ := own_slice hC.W
  obtain ⟨Ar, cr, hvr⟩ := own_slice hC.R
  subst hvw hvr
  have hc0 := blk_c hC0.blk 0 rfl
  have hc1 := blk_c hC0.blk 1 rfl
  have HC := Lib.hid hC
  have HC0 := Lib.hid hC0
  have hgne : g ≠ w.heap.size := by omega
  clear hC hC0
  have he : wordE op a b c ((dst - 4 * ws.length - 4).tdiv 4) = 0 ∨ wordE op a b c ((dst - 4 * ws.length - 4).tdiv 4) = 1 := by unfold wordE; split; exact Or.inl rfl; exact Or.inr rfl
  have HE := Lib.hid he
  clear he
  go_enter Try.func55, Try.ntmps55
  go_wp2_with fail
  refine (lay_any base g _ _ ws rs _ _ _ _ _ _ (HC.out.below (by repeat (first | exact Below.refl _ _ | apply below_alloc | apply pw_below_drewN | apply below_drew | refine Below.setCell ?_ (by simp) _))) (by omega)).mono ?_
  rintro e w2 ⟨vw2, he2, hC2, hb2, hk2⟩
  have HC2 := Lib.hid hC2
  have HW := Lib.hid (Below.trans (a := w) (c := w2) (B := base) ((show Below w.heap.size w _ from (by repeat (first | exact Below.refl _ _ | apply below_alloc | apply pw_below_drewN | apply below_drew | refine Below.setCell ?_ (by simp) _))).mono (by omega)) hb2)
  have HK := Lib.hid (KM.trans (w := w) (w2 := w2) (KM.of_below (show Below w.heap.size w _ from (by repeat (first | exact Below.refl _ _ | apply below_alloc | apply pw_below_drewN | apply below_drew | refine Below.setCell ?_ (by simp) _)))) hk2)
  clear hC2 hb2 hk2
  rcases HE.out with he | he
  · rw [he] at he2
    subst he2
    have HH := Lib.hid he
    clear he
    go_wp2_with fail
    go_ret
    exact ⟨_, _, ret_int (by rw [HH.out]; rfl), HC2.out, HW.out, HK.out⟩
  · rw [he] at he2
    subst he2
    have HH := Lib.hid he
    clear he
    go_wp2_with fail
    go_ret
    exact ⟨_, _, ret_int (by rw [HH.out]; rfl), HC2.out, HW.out, HK.out⟩

set_option maxHeartbeats 800000 in
set_option maxRecDepth 100000 in
theorem item_addr (base g : Nat) (vw vr : Value) (ws : List Int) (rs : List (Int × Bool)) (nm : ByteArray) (op a b c imm wd dst : Int) (w : World) (hC : IsCode w base g vw vr ws rs)
    (hlen : ws.length ≤ 16384) (hrl : rs.length ≤ 16384) (ht0 : 0 ≤ dst) (ht1 : dst ≤ 1000000) :
    Calls Try.prog 55 #[.pointer (some ⟨g, 0, none⟩), .agg #[.int .i64 3, .string nm, .int .i64 op, .int .i64 a, .int .i64 b, .int .i64 c, .int .i64 imm, .int .u32 wd], .int .i64 dst] w (CodePost base g w (0) (ws ++ [wordV 1 a 0 0 (dst % 65536)] ++ [wordV 2 a 0 0 (dst / 65536)]) (rs ++ [((4 * ws.length : Int), true)])) := by
  have hlt : g < w.heap.size := blk_lt hC.blk
  have HB0 : Below w.heap.size w (w.alloc (.cells #[.int .i64 3, .string nm, .int .i64 op, .int .i64 a, .int .i64 b, .int .i64 c, .int .i64 imm, .int .u32 wd] 41)) := below_alloc (Below.refl _ _) _
  have hC0 := hC.below HB0
  have hlow := hC.low
  obtain ⟨A, cw, hvw⟩ := own_slice hC.W
  obtain ⟨Ar, cr, hvr⟩ := own_slice hC.R
  subst hvw hvr
  have hc0 := blk_c hC0.blk 0 rfl
  have hc1 := blk_c hC0.blk 1 rfl
  have HC := Lib.hid hC
  have HC0 := Lib.hid hC0
  have hgne : g ≠ w.heap.size := by omega
  clear hC hC0
  obtain ⟨i0, hi, hz0, hz1, hz2⟩ := info_parts info46
  have m1 := and_i64_16 dst
  go_enter Try.func55, Try.ntmps55
  go_wp2_with (at_builtin; refine wpList_append_own _ rfl _ _ 28 rfl base 46 i0 (.agg #[.int .i64 0, .bool false]) 2 16 Try.underlying28 hi hz0 hz1 hz2 rfl (by decide) _ _ _ rfl (HC0.out.R.alloc _) ⟨_, 0, none⟩ 1 1 [.int .i64 (4 * ws.length), .bool true] rfl rfl ?c1 ?c2 ?c3 ?c4 ?c5 ?_)
  case c1 => intro j u hj; have h := cell_two_new (w.alloc (.cells #[.int .i64 3, .string nm, .int .i64 op, .int .i64 a, .int .i64 b, .int .i64 c, .int .i64 imm, .int .u32 wd] 41)) (.int .i64 (4 * ws.length)) (.bool true) 46 j u hj; simpa using h
  case c2 => intro u hu; simp at hu; rcases hu with rfl | rfl <;> rfl
  case c3 => unfold maxLen; omega
  case c4 => omega
  case c5 => simp; omega
  intro v' w2 hown2 hgrow _
  obtain ⟨A', c', hv'⟩ := own_slice hown2
  rw [hv'] at hown2 ⊢
  clear hv'
  obtain ⟨r1, r2, r3, hc2, hf2⟩ := HC0.out.addR (r := (4 * ws.length, true)) _ hown2 hgrow
  have R1 := Lib.hid r1
  have R2 := Lib.hid ((HB0.mono (by omega)).trans r2)
  have R3 := Lib.hid ((KM.of_below HB0).trans r3)
  have hbx := blk_grown (blk_alloc (blk_new w _) _) hgrow (own_ne_blk HC0.out.R (blk_new w _) (by decide))
  have hx3 : w2.cell? ⟨w.heap.size, 3, none⟩ = some (.int .i64 a) := blk_c hbx 3 rfl
  have hbx2 := blk_far hbx (p := ⟨g, 1, none⟩) (fun e => hgne e.symm) (Value.slice A' (rs.length + 1) c')
  have HX := Lib.hid hbx2
  clear r1 r2 r3 hown2 hgrow hbx hbx2
  have m2 := ht0
  have m3 := ht1
  go_wp2_with fail
  refine (lay_any base g _ _ ws _ _ _ _ _ _ _ R1.out (by omega)).mono ?_
  rintro e w3 ⟨vw3, rfl, hC3, hb3, hk3⟩
  have hbx3 := hk3 _ _ HX.out (fun e => hgne e.symm) (by rintro ⟨cur, e, f, h, ht⟩; cases h; revert ht; decide)
  have hx4 : w3.cell? ⟨w.heap.size, 3, none⟩ = some (.int .i64 a) := blk_c hbx3 3 rfl
  have HC3 := Lib.hid hC3
  have HB3 := Lib.hid (R2.out.trans hb3)
  have HK3 := Lib.hid (R3.out.trans hk3)
  clear hC3 hb3 hk3 hbx3
  go_wp2_with fail
  refine (lay_any base g _ _ _ _ _ _ _ _ _ _ HC3.out (by rw [List.length_append]; simp; omega)).mono ?_
  rintro e w4 ⟨vw4, rfl, hC4, hb4, hk4⟩
  have HC4 := Lib.hid hC4
  have HB4 := Lib.hid (HB3.out.trans hb4)
  have HK4 := Lib.hid (HK3.out.trans hk4)
  clear hC4 hb4 hk4
  go_wp2_with fail
  go_ret
  exact ⟨_, _, rfl, HC4.out, HB4.out, HK4.out⟩

set_option maxHeartbeats 800000 in
set_option maxRecDepth 100000 in
theorem item_data (base g : Nat) (vw vr : Value) (ws : List Int) (rs : List (Int × Bool)) (nm : ByteArray) (op a b c imm wd dst : Int) (w : World) (hC : IsCode w base g vw vr ws rs)
    (hlen : ws.length ≤ 16384) (hrl : rs.length ≤ 16384) (ht0 : 0 ≤ dst) (ht1 : dst ≤ 1000000) :
    Calls Try.prog 55 #[.pointer (some ⟨g, 0, none⟩), .agg #[.int .i64 4, .string nm, .int .i64 op, .int .i64 a, .int .i64 b, .int .i64 c, .int .i64 imm, .int .u32 wd], .int .i64 dst] w (CodePost base g w (0) (ws ++ [wd]) (rs)) := by
  have hlt : g < w.heap.size := blk_lt hC.blk
  have HB0 : Below w.heap.size w (w.alloc (.cells #[.int .i64 4, .string nm, .int .i64 op, .int .i64 a, .int .i64 b, .int .i64 c, .int .i64 imm, .int .u32 wd] 41)) := below_alloc (Below.refl _ _) _
  have hC0 := hC.below HB0
  have hlow := hC.low
  obtain ⟨A, cw, hvw⟩ := own_slice hC.W
  obtain ⟨Ar, cr, hvr⟩ := own_slice hC.R
  subst hvw hvr
  have hc0 := blk_c hC0.blk 0 rfl
  have hc1 := blk_c hC0.blk 1 rfl
  have HC := Lib.hid hC
  have HC0 := Lib.hid hC0
  have hgne : g ≠ w.heap.size := by omega
  clear hC hC0
  obtain ⟨i0, hi, hz0, hz1, hz2⟩ := info_parts info39
  have hbd : Below w.heap.size w (w.alloc (.cells #[.int .i64 4, .string nm, .int .i64 op, .int .i64 a, .int .i64 b, .int .i64 c, .int .i64 imm, .int .u32 wd] 41)).drew := below_drew HB0
  have HBD := hbd
  have HCD := Lib.hid (HC.out.below hbd)
  clear hbd
  go_enter Try.func55, Try.ntmps55
  go_wp2_with fail
  refine start_ (n := 12) (S := fun w' => w'.cell? ⟨g, 0, none⟩ = some (.slice A ws.length cw) ∧ w'.cell? ⟨w.heap.size, 7, none⟩ = some (.int .u32 wd)) (ds := [8, 11]) #[false, false, false, false, false, false, false, false, false, false, false, false] (by kernel_rfl) rfl rfl ⟨(by go_simp), (by go_simp)⟩ (fun hHeld => ?_)
  refine pure_ (i := 0) (N := some 67) (v := ?_) (a' := ?_) #[true, false, false, false, false, false, false, false, false, false, false, false] rfl rfl (by kernel_rfl) (fun _ _ _ h => h) (Or.inl ⟨by rfl, ?_⟩) ?_ ?_
  rotate_left
  · intro w'
    go_simp
    with_reducible rfl
  rotate_left
  · simp only [Act.put, List.setIfInBounds_toArray, List.set_cons_zero, List.set_cons_succ, i64_w, i32_w]
    rfl
  refine pure_ (i := 1) (N := some 68) (v := ?_) (a' := ?_) #[true, true, false, false, false, false, false, false, false, false, false, false] rfl rfl (by kernel_rfl) (fun _ _ _ h => h) (Or.inl ⟨by rfl, ?_⟩) ?_ ?_
  rotate_left
  · intro w'
    go_simp
    with_reducible rfl
  rotate_left
  · simp only [Act.put, List.setIfInBounds_toArray, List.set_cons_zero, List.set_cons_succ, i64_w, i32_w]
    rfl
  refine pure_ (i := 2) (N := some 69) (v := ?_) (a' := ?_) #[true, true, true, false, false, false, false, false, false, false, false, false] rfl rfl (by kernel_rfl) (fun _ _ _ h => h) (Or.inl ⟨by rfl, ?_⟩) ?_ ?_
  rotate_left
  · intro w'
    go_simp
    with_reducible rfl
  rotate_left
  · simp only [Act.put, List.setIfInBounds_toArray, List.set_cons_zero, List.set_cons_succ, i64_w, i32_w]
    rfl
  refine pure_ (i := 3) (N := some 70) (v := ?_) (a' := ?_) #[true, true, true, true, false, false, false, false, false, false, false, false] rfl rfl (by kernel_rfl) (fun _ _ _ h => h) (Or.inl ⟨by rfl, ?_⟩) ?_ ?_
  rotate_left
  · intro w'
    go_simp
    with_reducible rfl
  rotate_left
  · simp only [Act.put, List.setIfInBounds_toArray, List.set_cons_zero, List.set_cons_succ, i64_w, i32_w]
    rfl
  refine pure_ (i := 5) (N := some 72) (v := ?_) (a' := ?_) #[true, true, true, true, false, true, false, false, false, false, false, false] rfl rfl (by kernel_rfl) (fun _ _ _ h => h) (Or.inl ⟨by rfl, ?_⟩) ?_ ?_
  rotate_left
  · intro w'
    go_simp
    with_reducible rfl
  rotate_left
  · simp only [Act.put, List.setIfInBounds_toArray, List.set_cons_zero, List.set_cons_succ, i64_w, i32_w]
    rfl
  refine take_ (i := 4) (N := some 71) (v := ?_) (a' := ?_) #[true, true, true, true, true, true, false, false, false, false, false, false] rfl rfl (by kernel_rfl) (fun _ _ _ h => h) (Or.inl ⟨by rfl, ?_⟩) hHeld ?_ ?_
  rotate_left
  · rintro w' ⟨s0, s1⟩
    go_simp
    with_reducible rfl
  rotate_left
  · simp only [Act.put, List.setIfInBounds_toArray, List.set_cons_zero, List.set_cons_succ, i64_w, i32_w]
    rfl
  refine take_ (i := 6) (N := some 73) (v := ?_) (a' := ?_) #[true, true, true, true, true, true, true, false, false, false, false, false] rfl rfl (by kernel_rfl) (fun _ _ _ h => h) (Or.inl ⟨by rfl, ?_⟩) hHeld ?_ ?_
  rotate_left
  · rintro w' ⟨s0, s1⟩
    go_simp
    with_reducible rfl
  rotate_left
  · simp only [Act.put, List.setIfInBounds_toArray, List.set_cons_zero, List.set_cons_succ, i64_w, i32_w]
    rfl
  refine one_ (i := 7) (N := some 74) #[true, true, true, true, true, true, true, true, false, false, false, false] rfl rfl (by kernel_rfl) (by decide) (fun K hK => ?_)
  refine value_ (w1 := ?_) (v := ?_) (by rfl) rfl ?_ ?_
  rotate_left 2
  · go_simp
    constructor
    · rfl
    · rfl
  refine hK.out _ _ ⟨(by go_simp), (by go_simp)⟩ (fun hHeld => ?_)
  clear hK K
  refine norm_ (a' := ?_) ?_ ?_
  rotate_left
  · show Act.put _ (some 74) _ = _
    simp only [Act.put, List.setIfInBounds_toArray, List.set_cons_zero, List.set_cons_succ, i64_w, i32_w]
    rfl
  refine last_ (i := 8) (N := some 75) #[true, true, true, true, true, true, true, true, true, false, false, false] rfl rfl (by kernel_rfl) (by decide) (fun K hK => ?_)
  rw [if_pos (by rfl)]
  refine wp_append_own _ _ _ 27 rfl base 39 i0 (.int .u32 0) 1 4 Try.underlying27 hi hz0 hz1 hz2 rfl (by decide) _ _ _ rfl (HCD.out.W.alloc _) ⟨_, 0, none⟩ 1 1 [.int .u32 wd] rfl rfl ?c1 ?c2 ?c3 ?c4 ?c5 ?_
  case c1 => intro j u hj; have h := cell_one_new (w.alloc (.cells #[.int .i64 4, .string nm, .int .i64 op, .int .i64 a, .int .i64 b, .int .i64 c, .int .i64 imm, .int .u32 wd] 41)) (.int .u32 wd) 39 j u hj; simpa using h
  case c2 => intro u hu; simp at hu; subst hu; rfl
  case c3 => unfold maxLen; omega
  case c4 => omega
  case c5 => simp; omega
  intro v' w2 hown2 hgrow _
  obtain ⟨A', c', hv'⟩ := own_slice hown2
  rw [hv'] at hown2 ⊢
  clear hv'
  obtain ⟨r1, r2, r3, hc2, hf2⟩ := HCD.out.addW _ hown2 hgrow
  have R1 := Lib.hid r1
  have R2 := Lib.hid ((HBD.mono (by omega)).trans r2)
  have R3 := Lib.hid ((KM.of_below HBD).trans r3)
  clear r1 r2 r3 hown2 hgrow
  refine hK.out _ _ ?_
  clear hK K
  refine norm_ (a' := ?_) ?_ ?_
  rotate_left
  · show Act.put _ (some 75) _ = _
    simp only [Act.put, List.setIfInBounds_toArray, List.set_cons_zero, List.set_cons_succ, i64_w, i32_w]
    rfl
  refine pure_ (i := 9) (N := some 76) (v := ?_) (a' := ?_) #[true, true, true, true, true, true, true, true, true, true, false, false] rfl rfl (by kernel_rfl) (fun _ _ _ h => h) (Or.inl ⟨by rfl, ?_⟩) ?_ ?_
  rotate_left
  · intro w'
    go_simp
    with_reducible rfl
  rotate_left
  · simp only [Act.put, List.setIfInBounds_toArray, List.set_cons_zero, List.set_cons_succ, i64_w, i32_w]
    rfl
  refine pure_ (i := 10) (N := some 77) (v := ?_) (a' := ?_) #[true, true, true, true, true, true, true, true, true, true, true, false] rfl rfl (by kernel_rfl) (fun _ _ _ h => h) (Or.inl ⟨by rfl, ?_⟩) ?_ ?_
  rotate_left
  · intro w'
    go_simp
    with_reducible rfl
  rotate_left
  · simp only [Act.put, List.setIfInBounds_toArray, List.set_cons_zero, List.set_cons_succ, i64_w, i32_w]
    rfl
  refine last_ (i := 11) (N := none) #[true, true, true, true, true, true, true, true, true, true, true, true] rfl rfl (by kernel_rfl) (by decide) (fun K hK => ?_)
  refine skip_ (w1 := ?_) (by rfl) rfl ?_ ?_
  rotate_left
  · go_simp
    rfl
  refine hK.out _ _ ?_
  clear hK K
  refine done_ (by kernel_rfl) ?_
  go_wp2_with fail
  go_ret
  exact ⟨_, _, rfl, R1.out, R2.out, R3.out⟩

set_option maxHeartbeats 800000 in
set_option maxRecDepth 100000 in
theorem item_place (base g : Nat) (vw vr : Value) (ws : List Int) (rs : List (Int × Bool)) (nm : ByteArray) (op a b c imm wd dst : Int) (w : World) (hC : IsCode w base g vw vr ws rs)
    (hlen : ws.length ≤ 16384) (hrl : rs.length ≤ 16384) (ht0 : 0 ≤ dst) (ht1 : dst ≤ 1000000) :
    Calls Try.prog 55 #[.pointer (some ⟨g, 0, none⟩), .agg #[.int .i64 5, .string nm, .int .i64 op, .int .i64 a, .int .i64 b, .int .i64 c, .int .i64 imm, .int .u32 wd], .int .i64 dst] w (CodePost base g w (0) (ws ++ [dst]) (rs ++ [((4 * ws.length : Int), false)])) := by
  have hlt : g < w.heap.size := blk_lt hC.blk
  have HB0 : Below w.heap.size w (w.alloc (.cells #[.int .i64 5, .string nm, .int .i64 op, .int .i64 a, .int .i64 b, .int .i64 c, .int .i64 imm, .int .u32 wd] 41)) := below_alloc (Below.refl _ _) _
  have hC0 := hC.below HB0
  have hlow := hC.low
  obtain ⟨A, cw, hvw⟩ := own_slice hC.W
  obtain ⟨Ar, cr, hvr⟩ := own_slice hC.R
  subst hvw hvr
  have hc0 := blk_c hC0.blk 0 rfl
  have hc1 := blk_c hC0.blk 1 rfl
  have HC := Lib.hid hC
  have HC0 := Lib.hid hC0
  have hgne : g ≠ w.heap.size := by omega
  clear hC hC0
  obtain ⟨i0, hi, hz0, hz1, hz2⟩ := info_parts info46
  obtain ⟨i1, hj, hy0, hy1, hy2⟩ := info_parts info39
  have m1 : IntKind.u32.wrap dst = dst := by rw [IntKind.wrap_u32]; omega
  go_enter Try.func55, Try.ntmps55
  go_wp2_with (at_builtin; refine wpList_append_own _ rfl _ _ 28 rfl base 46 i0 (.agg #[.int .i64 0, .bool false]) 2 16 Try.underlying28 hi hz0 hz1 hz2 rfl (by decide) _ _ _ rfl (HC0.out.R.alloc _) ⟨_, 0, none⟩ 1 1 [.int .i64 (4 * ws.length), .bool false] rfl rfl ?c1 ?c2 ?c3 ?c4 ?c5 ?_)
  case c1 => intro j u hj; have h := cell_two_new (w.alloc (.cells #[.int .i64 5, .string nm, .int .i64 op, .int .i64 a, .int .i64 b, .int .i64 c, .int .i64 imm, .int .u32 wd] 41)) (.int .i64 (4 * ws.length)) (.bool false) 46 j u hj; simpa using h
  case c2 => intro u hu; simp at hu; rcases hu with rfl | rfl <;> rfl
  case c3 => unfold maxLen; omega
  case c4 => omega
  case c5 => simp; omega
  intro v' w2 hown2 hgrow _
  obtain ⟨A', c', hv'⟩ := own_slice hown2
  rw [hv'] at hown2 ⊢
  clear hv'
  obtain ⟨r1, r2, r3, hc2, hf2⟩ := HC0.out.addR (r := (4 * ws.length, false)) _ hown2 hgrow
  have R1 := Lib.hid r1
  have R2 := Lib.hid ((HB0.mono (by omega)).trans r2)
  have R3 := Lib.hid ((KM.of_below HB0).trans r3)
  have hbx := blk_grown (blk_alloc (blk_new w _) _) hgrow (own_ne_blk HC0.out.R (blk_new w _) (by decide))
  have hx3 : w2.cell? ⟨w.heap.size, 3, none⟩ = some (.int .i64 a) := blk_c hbx 3 rfl
  clear r1 r2 r3 hown2 hgrow hbx hx3
  have hblk2 := R1.out.blk
  have hd0 := blk_c hblk2 0 rfl
  clear hblk2
  go_wp2_with (at_builtin; refine wpList_append_own _ rfl _ _ 27 rfl base 39 i1 (.int .u32 0) 1 4 Try.underlying27 hj hy0 hy1 hy2 rfl (by decide) _ _ _ rfl (R1.out.W.alloc _) ⟨_, 0, none⟩ 1 1 [.int .u32 dst] rfl rfl ?d1 ?d2 ?d3 ?d4 ?d5 ?_)
  case d1 => intro j u hj; have h := cell_one_new (w2.setCell ⟨g, 1, none⟩ (Value.slice A' (rs.length + 1) c')) (.int .u32 dst) 39 j u hj; simpa using h
  case d2 => intro u hu; simp at hu; subst hu; rfl
  case d3 => unfold maxLen; omega
  case d4 => omega
  case d5 => have := R2.out.size; simp at this ⊢; omega
  intro v' w3 hown3 hgrow _
  obtain ⟨A2, c2, hv'⟩ := own_slice hown3
  rw [hv'] at hown3 ⊢
  clear hv'
  obtain ⟨q1, q2, q3, hc2, hf2⟩ := R1.out.addW _ hown3 hgrow
  have Q1 := Lib.hid q1
  have Q2 := Lib.hid (R2.out.trans q2)
  have Q3 := Lib.hid (R3.out.trans q3)
  clear q1 q2 q3 hown3 hgrow
  go_wp2_with fail
  go_ret
  exact ⟨_, _, rfl, Q1.out, Q2.out, Q3.out⟩

set_option maxHeartbeats 800000 in
set_option maxRecDepth 100000 in
theorem item_label (base g : Nat) (vw vr : Value) (ws : List Int) (rs : List (Int × Bool)) (nm : ByteArray) (op a b c imm wd dst : Int) (w : World) (hC : IsCode w base g vw vr ws rs)
    (hlen : ws.length ≤ 16384) (hrl : rs.length ≤ 16384) (ht0 : 0 ≤ dst) (ht1 : dst ≤ 1000000) :
    Calls Try.prog 55 #[.pointer (some ⟨g, 0, none⟩), .agg #[.int .i64 0, .string nm, .int .i64 op, .int .i64 a, .int .i64 b, .int .i64 c, .int .i64 imm, .int .u32 wd], .int .i64 dst] w (CodePost base g w (0) (ws) (rs)) := by
  have hlt : g < w.heap.size := blk_lt hC.blk
  have HB0 : Below w.heap.size w (w.alloc (.cells #[.int .i64 0, .string nm, .int .i64 op, .int .i64 a, .int .i64 b, .int .i64 c, .int .i64 imm, .int .u32 wd] 41)) := below_alloc (Below.refl _ _) _
  have hC0 := hC.below HB0
  have hlow := hC.low
  obtain ⟨A, cw, hvw⟩ := own_slice hC.W
  obtain ⟨Ar, cr, hvr⟩ := own_slice hC.R
  subst hvw hvr
  have hc0 := blk_c hC0.blk 0 rfl
  have hc1 := blk_c hC0.blk 1 rfl
  have HC := Lib.hid hC
  have HC0 := Lib.hid hC0
  have hgne : g ≠ w.heap.size := by omega
  clear hC hC0
  go_enter Try.func55, Try.ntmps55
  go_wp2_with fail
  go_ret
  exact ⟨_, _, rfl, HC0.out, HB0.mono (by omega), KM.of_below HB0⟩

end Go.Proofs.Ythnbpbmbpggadaa.Mine
