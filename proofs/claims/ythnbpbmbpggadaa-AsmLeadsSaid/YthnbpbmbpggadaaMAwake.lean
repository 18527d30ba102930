/- The test items of the law's package ('awake') and Build over all items. -/
import Derived.Test.YthnbpbmbpggadaaMRows
namespace Go.Proofs.Ythnbpbmbpggadaa.Mine
open Go.RowKit Go.Proofs.YthnbpbmbpggadaaW.PrintWords Go.Proofs.YthnbpbmbpggadaaW.PrintLast Go.Proofs.YthnbpbmbpggadaaW.PrintMore
open Go.Proofs.Ythnbpbmbpggadaa.PAsmLeads
open Go.WideMaps Go.Maps
set_option linter.unusedSimpArgs false
set_option linter.unusedVariables false

theorem build_any (A : Option Addr) (cap : Nat) (l : List S41) (w : World) (hr : Kd.C k41 w A l.length l) (hsz : ∀ x ∈ l, x.f1.size ≤ maxLen) :
    Calls Try.prog 15 #[.slice A l.length cap] w (BuildPost l w) := by
  cases h : placesR l with
  | ok L => exact build_ok A cap l w hr hsz L h
  | error c =>
    refine build_err A cap l w hr hsz c h ?_
    unfold placesR at h
    by_cases h1 : 4096 < l.length
    · rw [if_pos h1] at h; injection h with h; subst h; rfl
    · rw [if_neg h1] at h
      by_cases h2 : l.any badB = true
      · rw [if_pos h2] at h; injection h with h; subst h; rfl
      · rw [if_neg h2] at h
        cases hp : plTo l with
        | none => rw [hp] at h; injection h with h; subst h; rfl
        | some p => rw [hp] at h; cases h

def nmA : ByteArray := ⟨#[97]⟩
def xa : S41 := ⟨0, nmA, z38, 0⟩
def xb : S41 := ⟨2, nmA, ⟨20, 0, 0, 0, 0⟩, 0⟩
def xc : S41 := ⟨5, nmA, z38, 0⟩
theorem aw1 : buildR [xa, xb, xc] = .ok ([0x1400ffff, 0], [(4, false)]) := by kernel_rfl
theorem aw2 : placesR [xa, xb, xc] = .ok [(nmA, 0)] := by kernel_rfl
theorem aw3 : buildR [xb, xc] = .error 5 := by kernel_rfl
theorem aw4 : placesR [xa, xb, xc, xa] = .error 7 := by kernel_rfl
theorem awS : ∀ x ∈ [xa, xb, xc, xa], x.f1.size ≤ maxLen := by decide +kernel

theorem cells_new (W : World) (cs : Array Value) (t : TypeId) (j : Nat) (u : Value) (h : cs[j]? = some u) : (W.alloc (.cells cs t)).cell? ((⟨W.heap.size, 0, none⟩ : Addr).add j) = some u := by
  rw [add_plain, blk_cell (blk_new W _)]; exact h
theorem own_at {w : World} {base e size n m c : Nat} {ad : Addr} {xs : List Value} (h : w.ownsRow base e size (.slice (some ad) m c) n xs) : ad.spot = none ∧ ad.off = 0 ∧ ∀ j u, xs[j]? = some u → w.cell? ⟨ad.block, j, none⟩ = some u := by
  rcases h.2 with ⟨h0, _⟩ | ⟨g, cap, cur, h0, hb, hh, h1, h2, h3, h4⟩
  · cases h0
  · injection h0 with h0 _ _
    injection h0 with h0
    subst h0
    refine ⟨rfl, rfl, fun j u hu => ?_⟩
    rw [blk_cell hh]
    rw [← h4, List.getElem?_take] at hu
    split at hu
    · simpa using hu
    · cases hu
theorem own_apart {w' W : World} {o : Obj} {e sz n : Nat} {v : Value} {xs : List Value} (h : w'.ownsRow (W.alloc o).heap.size e sz v n xs) : v.ownBlock ≠ some W.heap.size := by
  intro q
  have h9 := own_base h _ q
  simp at h9
  omega
theorem info41 : (Try.prog.info? 41).map (fun i => (i.zero, i.size, i.bytes)) = some (some (.agg #[.int .i64 0, .string ⟨#[]⟩, .int .i64 0, .int .i64 0, .int .i64 0, .int .i64 0, .int .i64 0, .int .u32 0]), 8, 72) := by kernel_rfl
def awO : Obj := .cells (cells41 xa ++ cells41 xb ++ cells41 xc).toArray 41 (0, 0)
theorem aw_C (w : World) : Kd.C k41 (w.alloc awO) (some ⟨w.heap.size, 0, none⟩) [xa, xb, xc].length [xa, xb, xc] := C_of_blk cells41_len cells41_K (by decide) (blk_new w awO) [] rfl
theorem aw_C1 (w : World) : Kd.C k41 (w.alloc awO) (some ⟨w.heap.size, 8, none⟩) [xb, xc].length [xb, xc] := C_of_blk cells41_len cells41_K (by decide) (blk_new w awO) [] rfl
theorem aw_own (w : World) : (w.alloc awO).ownsRow w.heap.size 41 8 (.slice (some ⟨w.heap.size, 0, none⟩) 3 3) 3 (cells41 xa ++ cells41 xb ++ cells41 xc) :=
  ⟨rfl, Or.inr ⟨w.heap.size, 3, _, rfl, Nat.le_refl _, blk_new w awO, Nat.le_refl _, by unfold maxLen; omega, rfl, rfl⟩⟩

set_option maxHeartbeats 1600000 in
set_option maxRecDepth 100000 in
theorem awake_any (w : World) : Calls Try.prog 12 #[] w fun e w' => e = .returned (.bool true) ∧ Below w.heap.size w w' := by
  have HC := Lib.hid (aw_C w)
  have HC1 := Lib.hid (aw_C1 w)
  have HO := Lib.hid (aw_own w)
  have HB0 : Hid (Below w.heap.size w (w.alloc awO)) := Lib.hid (below_alloc (Below.refl _ _) _)
  go_enter Try.func12, Try.ntmps12
  go_wp2_with fail
  refine (build_any (some ⟨w.heap.size, 0, none⟩) 3 [xa, xb, xc] _ HC.out (by decide +kernel)).mono ?_
  rintro e w1 ⟨hb, hp⟩
  rw [aw1] at hp
  obtain ⟨vw, vr, rfl, hW, hR⟩ := hp
  have HB1 := Lib.hid (below_call HB0.out hb)
  have HX1 : Hid (Below (w.alloc awO).heap.size (w.alloc awO) w1) := Lib.hid hb
  clear hb
  obtain ⟨A, cw, rfl, hcw, hWC⟩ := words_C hW
  obtain ⟨Ar, cr, rfl, hcr, hRC⟩ := relocs_C hR
  obtain ⟨ad, rfl, _⟩ := hWC.2.2 (by decide)
  obtain ⟨ar, rfl, _⟩ := hRC.2.2 (by decide)
  obtain ⟨hs1, ho1, _⟩ := own_at hW
  obtain ⟨hs2, ho2, _⟩ := own_at hR
  obtain ⟨ab, ao, asp⟩ := ad
  obtain ⟨rb, ro, rsp⟩ := ar
  simp only at hs1 ho1 hs2 ho2
  subst hs1 ho1 hs2 ho2
  have HWO := Lib.hid hW
  have HRO := Lib.hid hR
  clear hW hR hWC hRC
  go_wp2_with fail
  have HX2 : Hid (Below (w.alloc awO).heap.size (w.alloc awO) (w1.alloc (.cells #[.slice (some ⟨ab, 0, none⟩) 2 cw, .slice (some ⟨rb, 0, none⟩) 1 cr] 30))) := Lib.hid (below_alloc HX1.out _)
  refine (places_any (some ⟨w.heap.size, 0, none⟩) 3 [xa, xb, xc] _ (Kd.C_below HC.out HX2.out) (by decide +kernel)).mono ?_
  rintro e w2 ⟨hb, hp⟩
  rw [aw2] at hp
  obtain ⟨bm, D, rfl, hbm, hM, hT⟩ := hp
  have hbk := blk_below (blk_new w1 (.cells #[.slice (some ⟨ab, 0, none⟩) 2 cw, .slice (some ⟨rb, 0, none⟩) 1 cr] 30)) hb
  have HBK := Lib.hid hbk
  have HX3 : Hid (Below (w.alloc awO).heap.size (w.alloc awO) w2) := Lib.hid (below_call HX2.out hb)
  have HY3 := Lib.hid (below_call (below_alloc (Below.refl _ _) _) hb)
  have HM := Lib.hid hM
  have HT := Lib.hid hT
  clear hb hM hT hbk
  go_wp2_with fail
  refine (build_any (some ⟨w.heap.size, 8, none⟩) 2 [xb, xc] _ (Kd.C_below HC1.out HX3.out) (by decide +kernel)).mono ?_
  rintro e w3 ⟨hb, hp⟩
  rw [aw3] at hp
  simp only at hp
  subst hp
  have HX4 : Hid (Below (w.alloc awO).heap.size (w.alloc awO) w3) := Lib.hid (below_call HX3.out hb)
  have HZ4 := Lib.hid hb
  clear hb
  have hx := fun (j : Nat) (v : Value) (h : (cells41 xa ++ cells41 xb ++ cells41 xc)[j]? = some v) => (HX4.out.cell (p := ⟨w.heap.size, j, none⟩) (by simp)).trans (blk_c (blk_new w awO) j (by simpa [awO] using h))
  have hx0 : w3.cell? ⟨w.heap.size, 0, none⟩ = some (.int .i64 0) := hx 0 _ rfl
  have hx1 : w3.cell? ⟨w.heap.size, 1, none⟩ = some (.string nmA) := hx 1 _ rfl
  have hx2 : w3.cell? ⟨w.heap.size, 2, none⟩ = some (.int .i64 0) := hx 2 _ rfl
  have hx3 : w3.cell? ⟨w.heap.size, 3, none⟩ = some (.int .i64 0) := hx 3 _ rfl
  have hx4 : w3.cell? ⟨w.heap.size, 4, none⟩ = some (.int .i64 0) := hx 4 _ rfl
  have hx5 : w3.cell? ⟨w.heap.size, 5, none⟩ = some (.int .i64 0) := hx 5 _ rfl
  have hx6 : w3.cell? ⟨w.heap.size, 6, none⟩ = some (.int .i64 0) := hx 6 _ rfl
  have hx7 : w3.cell? ⟨w.heap.size, 7, none⟩ = some (.int .u32 0) := hx 7 _ rfl
  clear hx
  have hs3 : w.heap.size < w3.heap.size := by have := HX4.out.size; simp at this; omega
  have hs01 : w.heap.size < w1.heap.size := by have := HX1.out.size; simp at this; omega
  have hbm1 : w1.heap.size < bm := by simp at hbm; omega
  have hs31 : w1.heap.size < w3.heap.size := by have := HZ4.out.size; have := HY3.out.size; have := blk_lt HBK.out; omega
  obtain ⟨i0, hi, hz0, hz1, hz2⟩ := info_parts info41
  have hown4 := pw_own_below HO.out HX4.out
  go_wp2_with (at_builtin; refine wpList_append_own _ rfl _ _ 22 rfl w.heap.size 41 i0 (.agg #[.int .i64 0, .string ⟨#[]⟩, .int .i64 0, .int .i64 0, .int .i64 0, .int .i64 0, .int .i64 0, .int .u32 0]) 8 72 Try.underlying22 hi hz0 hz1 hz2 rfl (by decide) _ _ _ rfl ((hown4.alloc _).alloc _) ⟨_, 0, none⟩ 1 1 (cells41 xa) rfl rfl ?c1 ?c2 ?c3 ?c4 ?c5 ?_)
  case c1 => intro j u hu; have h := cells_new (w3.alloc (.cells #[.slice none 0 0, .slice none 0 0] 30)) (cells41 xa).toArray 41 j u (by simpa using hu); simpa [cells41, xa, z38] using h
  case c2 => decide
  case c3 => unfold maxLen; omega
  case c4 => decide
  case c5 => simp; omega
  intro v' w4 hown5 hgrow _
  obtain ⟨A4, c4, rfl, hc4, hC4⟩ := C_of_own (d := k41) (l := [xa, xb, xc, xa]) cells41_len cells41_K hown5
  have HC4 := Lib.hid hC4
  have HY4 := Lib.hid (below_alloc (below_alloc HZ4.out (.cells #[.slice none 0 0, .slice none 0 0] 30)) (.cells (cells41 xa).toArray 41))
  have hbk4 := blk_grown (blk_below HBK.out HY4.out) hgrow (by intro e; injection e with e; have e2 : w1.heap.size = w.heap.size := e; omega)
  have HBK4 := Lib.hid hbk4
  have hM4 := (HM.out.kept (grown_of_below HY4.out none) (by simp)).kept hgrow (by intro e; injection e with e; have e2 : bm = w.heap.size := e; omega)
  have HM4 := Lib.hid hM4
  have hW4 := own_other (pw_own_below HWO.out (below_call HY3.out HY4.out)) hgrow (Or.inr (own_apart HWO.out))
  have hR4 := own_other (pw_own_below HRO.out (below_call HY3.out HY4.out)) hgrow (Or.inr (own_apart HRO.out))
  have HW4 := Lib.hid hW4
  have HR4 := Lib.hid hR4
  have HB4 : Hid (Below w.heap.size w w4) := Lib.hid (pw_below_grown (below_alloc (below_alloc (below_call (below_call HB0.out HX4.out) (Below.refl _ _)) _) _) _ (by simp; omega) hgrow (fun k hk => by injection hk with hk; have e2 : w.heap.size = k := hk; omega))
  clear hown5 hgrow hC4 hbk4 hM4 hW4 hR4 hx0 hx1 hx2 hx3 hx4 hx5 hx6 hx7 hown4
  go_wp2_with fail
  refine (places_any A4 c4 [xa, xb, xc, xa] _ HC4.out awS).mono ?_
  rintro e w5 ⟨hb, hp⟩
  rw [aw4] at hp
  simp only at hp
  subst hp
  have hBK := blk_below HBK4.out hb
  have hc0 : w5.cell? ⟨w1.heap.size, 0, none⟩ = some (.slice (some ⟨ab, 0, none⟩) 2 cw) := by rw [blk_cell hBK]; rfl
  have hc1 : w5.cell? ⟨w1.heap.size, 1, none⟩ = some (.slice (some ⟨rb, 0, none⟩) 1 cr) := by rw [blk_cell hBK]; rfl
  have HM5 := Lib.hid (HM4.out.kept (grown_of_below hb none) (by simp))
  have hW5 := pw_own_below HW4.out hb
  have hR5 := pw_own_below HR4.out hb
  have hq0 : w5.cell? ⟨ab, 0, none⟩ = some (.int .u32 335609855) := (own_at hW5).2.2 0 _ rfl
  have hr0 : w5.cell? ⟨rb, 0, none⟩ = some (.int .i64 4) := (own_at hR5).2.2 0 _ rfl
  have hr1 : w5.cell? ⟨rb, 1, none⟩ = some (.bool false) := (own_at hR5).2.2 1 _ rfl
  have HB5 := Lib.hid (below_call HB4.out hb)
  obtain ⟨A', cw', e1, hcw', hWC⟩ := words_C hW5
  injection e1 with e1 _ e3
  subst e1 e3
  obtain ⟨A', cr', e1, hcr', hRC⟩ := relocs_C hR5
  injection e1 with e1 _ e3
  subst e1 e3
  have HWC := Lib.hid hWC
  have HRC := Lib.hid hRC
  have hlen : (Builtin.len_ #[34] 3 #[.map (some bm)]).run Try.prog w5 = .ok (.int .i64 1) w5 := by
    have := HM5.out.len Try.underlying34 3
    rw [HT.out.size] at this; exact this
  clear hb hBK hW5 hR5 hWC hRC
  have heq := eqA46
  go_wp2_with fail
  refine (asm_Same.calls 4 (some ⟨ab, 0, none⟩) cw [335609855, 0] (some ⟨rb, 0, none⟩) cr [⟨4, false⟩] (some ⟨ab, 0, none⟩) cw [335609855, 0] (some ⟨rb, 0, none⟩) cr [⟨4, false⟩] true w5 HWC.out hcw' HRC.out hcr' HWC.out hcw' HRC.out hcr' (by kernel_rfl)).mono ?_
  rintro e w6 ⟨rfl, hb6⟩
  have HB6 := Lib.hid (below_call HB5.out hb6)
  clear hb6
  go_wp2_with fail
  go_ret
  exact ⟨rfl, HB6.out⟩
end Go.Proofs.Ythnbpbmbpggadaa.Mine
