/- The law AsmLeads: its walk. -/
import Derived.Test.YthnbpbmbpggadaaMAwake
import Derived.Test.YthnbpbmbpggadaaMFact
import Derived.BigQuiet
import Derived.Deep.QuietTactic
namespace Go.Proofs.Ythnbpbmbpggadaa.Mine
open Go.RowKit Go.Proofs.YthnbpbmbpggadaaW.PrintWords Go.Proofs.YthnbpbmbpggadaaW.PrintLast Go.Proofs.YthnbpbmbpggadaaW.PrintMore
open Go.Proofs.Ythnbpbmbpggadaa.PAsmLeads
open Go.Maps
open Go.WideMaps hiding rd
set_option linter.unusedSimpArgs false
set_option linter.unusedVariables false

theorem vI {a b : Int} (h : a = b) : Value.int .i64 a = .int .i64 b := h ▸ rfl
abbrev cellsB (x : S41) : Array Value := #[.int .i64 x.f0, .string x.f1, .int .i64 x.f2.f0, .int .i64 x.f2.f1, .int .i64 x.f2.f2, .int .i64 x.f2.f3, .int .i64 x.f2.f4, .int .u32 x.f3]

theorem own_max {w : World} {base e size n : Nat} {v : Value} {xs : List Value} (h : w.ownsRow base e size v n xs) : n ≤ 9223372036854775807 := by
  rcases h.2 with ⟨_, h1, _⟩ | ⟨g, cap, cur, h0, hb, hh, h1, h2, h3, h4⟩
  · omega
  · exact Nat.le_trans h1 (Nat.le_trans h2 (by unfold maxLen; omega))
set_option maxHeartbeats 6400000 in
set_option maxRecDepth 100000 in
theorem law_any (A : Option Addr) (cap : Nat) (l : List S41) (w : World) (hr : Kd.C k41 w A l.length l) (hcap : l.length ≤ cap) (hl : l.length < 1954687338268) (hsz : ∀ x ∈ l, x.f1.size ≤ maxLen) :
    Calls Try.prog 3 #[.slice A l.length cap] w fun e w' => e = .returned (.bool true) ∧ Below w.heap.size w w' := by
  have HR := Lib.hid hr
  have HS := Lib.hid hsz
  have HCAP := Lib.hid hcap
  have HL := Lib.hid hl
  clear hr hsz hcap hl
  go_enter Try.func3, Try.ntmps3
  go_wp2_with fail
  refine (awake_any _).mono ?_
  rintro e w1 ⟨rfl, hb⟩
  have HB1 := Lib.hid hb
  clear hb
  go_wp2_with fail
  obtain ⟨k, r, hown, hrl⟩ := own_ends l HL.out
  refine (carapacelaw12_own.calls k A cap l r _ (Kd.C_below HR.out HB1.out) HCAP.out hown).mono ?_
  rintro e w2 ⟨v, rfl, hR, hb⟩
  obtain ⟨A2, c2, rfl, hc2, hC2⟩ := Kd.R_reads hR
  have HB2 := Lib.hid (below_call HB1.out hb)
  have HC2 := Lib.hid hC2
  have HRL := Lib.hid hrl
  clear hb hR hC2 hown hrl
  go_wp2_with fail
  obtain ⟨k2, lg, hlg⟩ := large_ends r (by have := HL.out; have := HRL.out; omega)
  refine (carapaceref12_Large.calls k2 A2 c2 r lg _ HC2.out hc2 hlg).mono ?_
  rintro e w3 ⟨rfl, ⟨n3, rfl⟩⟩
  clear hlg HC2 HRL hc2
  have HB3 : Hid (Below w.heap.size w (w2.drewN n3)) := Lib.hid (pw_below_drewN HB2.out n3)
  obtain ⟨w3, hw3⟩ : ∃ w3, w2.drewN n3 = w3 := ⟨_, rfl⟩
  rw [hw3] at HB3 ⊢
  clear hw3 HB1 HB2
  cases lg
  case true =>
    go_wp2_with fail
    go_ret
    exact ⟨rfl, HB3.out⟩
  go_wp2_with fail
  refine (build_any A cap l _ (Kd.C_below HR.out HB3.out) HS.out).mono ?_
  rintro e w4 ⟨hb, hp⟩
  have HB4 := Lib.hid (below_call HB3.out hb)
  clear hb HB3
  cases hq : buildR l with
  | error c =>
    rw [hq] at hp
    simp only at hp
    subst hp
    have hne : (c == 0) = false := beq_eq_false_iff_ne.mpr (build_code hq)
    clear hq
    go_wp2_with fail
    refine (places_any A cap l _ (Kd.C_below HR.out (below_alloc HB4.out _)) HS.out).mono ?_
    rintro e w5 ⟨hb, hp⟩
    have hBK := blk_below (blk_new w4 (.cells #[.slice none 0 0, .slice none 0 0] 30)) hb
    have hc0 : w5.cell? ⟨w4.heap.size, 0, none⟩ = some (.slice none 0 0) := by rw [blk_cell hBK]; rfl
    have HB5 := Lib.hid (below_call (below_alloc HB4.out _) hb)
    clear hBK hb
    cases hpl : placesR l with
    | error c' =>
      rw [hpl] at hp
      simp only at hp
      subst hp
      clear hpl
      go_wp2_with fail
      go_ret
      exact ⟨rfl, HB5.out⟩
    | ok L' =>
      rw [hpl] at hp
      obtain ⟨b, D, rfl, _⟩ := hp
      clear hpl
      go_wp2_with fail
      go_ret
      exact ⟨rfl, HB5.out⟩
  | ok C =>
  rw [hq] at hp
  obtain ⟨vw, vr, rfl, hW, hRr⟩ := hp
  obtain ⟨Aw, cw, rfl, hcw, hWC⟩ := words_C hW
  obtain ⟨Ar, cr, rfl, hcr, hRC⟩ := relocs_C hRr
  have hmx : C.2.length ≤ 9223372036854775807 := own_max hRr
  have HWC := Lib.hid hWC
  have HRC := Lib.hid hRC
  have HCW := Lib.hid hcw
  have HCR := Lib.hid hcr
  clear hW hRr hWC hRC hcw hcr
  obtain ⟨L, hpl⟩ : ∃ L, placesR l = .ok L := by
    unfold buildR at hq
    cases h : placesR l with
    | ok L => exact ⟨L, rfl⟩
    | error e => rw [h] at hq; cases hq
  have HBU : Hid (buTo L l = .ok C) := Lib.hid (by unfold buildR at hq; rw [hpl] at hq; exact hq)
  have HPL := Lib.hid hpl
  clear hq hpl
  go_wp2_with fail
  refine (places_any A cap l _ (Kd.C_below HR.out (below_alloc HB4.out _)) HS.out).mono ?_
  rintro e w5 ⟨hb, hp⟩
  rw [HPL.out] at hp
  obtain ⟨bm, D, rfl, hbm, hM, hT⟩ := hp
  have HBK := Lib.hid (blk_below (blk_new w4 (.cells #[.slice Aw C.1.length cw, .slice Ar C.2.length cr] 30)) hb)
  have HB5 := Lib.hid (below_call (below_alloc HB4.out _) hb)
  have HW5 := Lib.hid (Kd.C_below HWC.out (below_call (below_alloc (Below.refl _ _) (.cells #[.slice Aw C.1.length cw, .slice Ar C.2.length cr] 30)) hb))
  have HR5 := Lib.hid (Kd.C_below HRC.out (below_call (below_alloc (Below.refl _ _) (.cells #[.slice Aw C.1.length cw, .slice Ar C.2.length cr] 30)) hb))
  have HI5 := Lib.hid (Kd.C_below HR.out HB5.out)
  have HM := Lib.hid hM
  have HT := Lib.hid hT
  clear hb hM hT hbm HWC HRC HR
  have hlt4 : w4.heap.size < w5.heap.size := blk_lt HBK.out
  go_wp2_with fail
  go_loopw [9, 10, 11] (fun v9 v10 v11 w' => ∃ (i : Int) (c : Codes), v11 = .int .i64 i ∧ v9 = .int .i64 c.1.length ∧ v10 = .int .i64 c.2.length ∧ 0 ≤ i ∧ i ≤ l.length ∧
    Aside0 (buTo L (l.take i.toNat) = .ok c) ∧ Aside0 (Below w5.heap.size w5 w')) (fun _ _ v _ => l.length - (intOf v).toNat)
  case atStart => exact ⟨0, ([], []), rfl, rfl, rfl, Int.le_refl _, by omega, ⟨rfl⟩, ⟨Below.refl _ _⟩⟩
  case round =>
    obtain ⟨i, c, rfl, rfl, rfl, h0, h1, HTO, HB⟩ := hrel
    by_cases hlt : i < l.length
    · have hd : decide (i < (l.length : Int)) = true := decide_eq_true hlt
      have hd0 : decide (0 ≤ i) = true := decide_eq_true h0
      obtain ⟨HA, HI⟩ := lead_all HPL.out HBU.out h0 hlt HTO.out
      replace HA := Lib.hid HA
      replace HI := Lib.hid HI
      have hlab := lead_label HPL.out h0 hlt HTO.out
      have h4 := (names_ok HPL.out).four (rd_T41 l i).f1
      obtain ⟨ad, e, hx0, hx1, hx2, hx3, hx4, hx5, hx6, hx7⟩ := at_T41 HI5.out i h0 hlt
      cases e
      replace hx0 := (HB.out.cell (World.block_lt_of_cell? w5 _ hx0)).trans hx0
      replace hx1 := (HB.out.cell (World.block_lt_of_cell? w5 _ hx1)).trans hx1
      replace hx2 := (HB.out.cell (World.block_lt_of_cell? w5 _ hx2)).trans hx2
      replace hx3 := (HB.out.cell (World.block_lt_of_cell? w5 _ hx3)).trans hx3
      replace hx4 := (HB.out.cell (World.block_lt_of_cell? w5 _ hx4)).trans hx4
      replace hx5 := (HB.out.cell (World.block_lt_of_cell? w5 _ hx5)).trans hx5
      replace hx6 := (HB.out.cell (World.block_lt_of_cell? w5 _ hx6)).trans hx6
      replace hx7 := (HB.out.cell (World.block_lt_of_cell? w5 _ hx7)).trans hx7
      have hmem0 : (rd_T41 l i).f1.size ≤ maxLen := HS.out _ (rd_mem h0 hlt)
      obtain ⟨x, hx⟩ : ∃ x, rd_T41 l i = x := ⟨_, rfl⟩
      rw [hx] at hx0 hx1 hx2 hx3 hx4 hx5 hx6 hx7 HA HI hlab h4 hmem0
      have hkey : keyOf Try.prog 9 (.string x.f1) = some (kS x.f1) := keyOf_string_mk Try.underlying9 hmem0
      clear hx hmem0
      have HKEY := Lib.hid hkey
      have HLAB := Lib.hid hlab
      have H4 := Lib.hid h4
      clear hkey hlab h4
      have HHAS := Lib.hid (HT.out.has x.f1)
      have HMR := Lib.hid (HM.out.kept (grown_of_below HB.out none) (by simp))
      have hcb : wr.heap[w4.heap.size]? = some (.cells #[.slice Aw C.1.length cw, .slice Ar C.2.length cr] 30 (0, 0)) := blk_below HBK.out HB.out
      have HCB := Lib.hid hcb
      have hc0 : wr.cell? ⟨w4.heap.size, 0, none⟩ = some (.slice Aw C.1.length cw) := blk_c hcb 0 rfl
      have hc1 : wr.cell? ⟨w4.heap.size, 1, none⟩ = some (.slice Ar C.2.length cr) := blk_c hcb 1 rfl
      clear hcb
      have HWR := Lib.hid (Kd.C_below HW5.out HB.out)
      have HRR := Lib.hid (Kd.C_below HR5.out HB.out)
      have hwl : w4.heap.size < wr.heap.size := Nat.lt_of_lt_of_le hlt4 HB.out.size
      have hkk : x.f0 = 0 ∨ x.f0 = 1 ∨ x.f0 = 2 ∨ x.f0 = 3 ∨ x.f0 = 4 ∨ x.f0 = 5 := by have := HA.out.k0; have := HA.out.k1; omega
      have hfit := HA.out.fit
      have hC8 := HA.out.lenC
      have hd0' := HA.out.d0
      have hd1' := HA.out.d1
      have HNX := Lib.hid HA.out.next
      have hl4 := (places_in HPL.out).1
      clear HA
      obtain ⟨at_, hat_⟩ : ∃ a : Int, (c.1.length : Int) = a := ⟨_, rfl⟩
      have ha0 : 0 ≤ at_ := by omega
      have hgot : ∀ c1 : Int, D.atKey (kS x.f1) (.lit (.int .i64 0)) = .lit (.int .i64 c1) → c1 = lookN L x.f1 := fun c1 hat => by
        have h := hat.symm.trans (HT.out.get x.f1)
        injection h with h; injection h with _ h
      have HGOT := Lib.hid hgot
      clear hgot
      obtain ⟨dst, hdst⟩ : ∃ d, lookN L x.f1 = d := ⟨_, rfl⟩
      rw [hdst] at HGOT hd0' hd1'
      have HDST := Lib.hid hdst
      clear hdst
      obtain ⟨hs, hhs⟩ : ∃ h, Maps.has D (kS x.f1) = h := ⟨_, rfl⟩
      have HHS := Lib.hid hhs
      clear hhs
      rcases hkk with hk | hk | hk | hk | hk | hk
      · as_aux_lemma =>
          have hdd : dst = 4 * at_ := by rw [← HDST.out, (HLAB.out hk).1, hat_]
          have hNX : Hid (buTo L (l.take (i + 1).toNat) = .ok c) := Lib.hid (by rw [HNX.out, (HLAB.out hk).2])
          have hit : itemN x = 0 := by unfold itemN; rw [if_pos hk]
          rw [hit] at hfit
          rw [hk] at hx0
          have hf0 : ¬ ((C.1.length : Int) < at_) := by omega
          have hf1 : decide ((C.1.length : Int) < at_) = false := decide_eq_false hf0
          rw [hat_]
          go_wp2_with (at_lookup; refine wpList_lookup_own_ok_int _ rfl _ _ 34 rfl 9 3 .i64 law34 Try.underlying34 Try.underlying3 (zero3 _) bm l.length D rfl (HMR.out.alloc _) _ _ rfl HKEY.out ?_; intro c1 hat hwc; rw [HGOT.out c1 hat, HHS.out]; subst hdd; clear hat hwc)
          go_quiet (fail)
          go_wp2_with fail
          go_roundw
          case rel => exact ⟨i + 1, c, rfl, vI (by omega), rfl, by omega, by omega, ⟨hNX.out⟩, ⟨by repeat (first | (with_reducible exact HB.out) | apply below_alloc | apply pw_below_drewN | apply below_drew)⟩⟩
          case measure => simp [intOf]; omega
      · as_aux_lemma =>
          obtain ⟨hof, hv0, hv1, hl', hr'⟩ := lead_do HI.out hk
          rw [HDST.out] at hl' hr'
          have hit : itemN x = 1 := by unfold itemN; rw [if_neg (by omega), if_neg (by omega)]
          rw [hit] at hfit
          have hf0 : ¬ ((C.1.length : Int) < at_ + 1) := by omega
          have hf1 : decide ((C.1.length : Int) < at_ + 1) = false := decide_eq_false hf0
          rw [hat_] at hof hv0 hv1
          obtain ⟨aw, e, hw0⟩ := Kd.at_int HWR.out at_ ha0 (by omega)
          cases e
          have hal0 : (aw.add at_.toNat).block < wr.heap.size := World.block_lt_of_cell? wr _ hw0
          obtain ⟨v, hv⟩ : ∃ v, rd C.1 at_ = v := ⟨_, rfl⟩
          rw [hv] at hof hv0 hv1 hw0
          have HOF := Lib.hid hof
          clear hof hv
          rw [hk] at hx0
          rw [hat_]
          have hw0a := (World.cell?_alloc_lt wr (.cells #[.int .i64 1, .string x.f1, .int .i64 x.f2.f0, .int .i64 x.f2.f1, .int .i64 x.f2.f2, .int .i64 x.f2.f3, .int .i64 x.f2.f4, .int .u32 x.f3] 41) _ hal0).trans hw0
          go_wp2_with (at_lookup; refine wpList_lookup_own_ok_int _ rfl _ _ 34 rfl 9 3 .i64 law34 Try.underlying34 Try.underlying3 (zero3 _) bm l.length D rfl (HMR.out.alloc _) _ _ rfl HKEY.out ?_; intro c1 hat hwc; rw [HGOT.out c1 hat, HHS.out]; clear hat hwc)
          refine (of_any v _ hv0 hv1).mono ?_
          rw [HOF.out]
          rintro e w6 ⟨rfl, hb6⟩
          have HB6 := Lib.hid (below_call (below_alloc HB.out _) hb6)
          have hbx := blk_below (blk_new wr (.cells #[.int .i64 1, .string x.f1, .int .i64 x.f2.f0, .int .i64 x.f2.f1, .int .i64 x.f2.f2, .int .i64 x.f2.f3, .int .i64 x.f2.f4, .int .u32 x.f3] 41)) hb6
          have HBX := Lib.hid hbx
          have hz0 : w6.cell? ⟨wr.heap.size, 0, none⟩ = some (.int .i64 1) := blk_c hbx 0 rfl
          have hz1 : w6.cell? ⟨wr.heap.size, 1, none⟩ = some (.string x.f1) := blk_c hbx 1 rfl
          have hz2 : w6.cell? ⟨wr.heap.size, 2, none⟩ = some (.int .i64 x.f2.f0) := blk_c hbx 2 rfl
          have hz3 : w6.cell? ⟨wr.heap.size, 3, none⟩ = some (.int .i64 x.f2.f1) := blk_c hbx 3 rfl
          have hz4 : w6.cell? ⟨wr.heap.size, 4, none⟩ = some (.int .i64 x.f2.f2) := blk_c hbx 4 rfl
          have hz5 : w6.cell? ⟨wr.heap.size, 5, none⟩ = some (.int .i64 x.f2.f3) := blk_c hbx 5 rfl
          have hz6 : w6.cell? ⟨wr.heap.size, 6, none⟩ = some (.int .i64 x.f2.f4) := blk_c hbx 6 rfl
          have hz7 : w6.cell? ⟨wr.heap.size, 7, none⟩ = some (.int .u32 x.f3) := blk_c hbx 7 rfl
          have hcb := blk_below (blk_alloc HCB.out (.cells #[.int .i64 1, .string x.f1, .int .i64 x.f2.f0, .int .i64 x.f2.f1, .int .i64 x.f2.f2, .int .i64 x.f2.f3, .int .i64 x.f2.f4, .int .u32 x.f3] 41)) hb6
          have HCB2 := Lib.hid hcb
          have hy0 : w6.cell? ⟨w4.heap.size, 0, none⟩ = some (.slice (some aw) C.1.length cw) := blk_c hcb 0 rfl
          have hy1 : w6.cell? ⟨w4.heap.size, 1, none⟩ = some (.slice Ar C.2.length cr) := blk_c hcb 1 rfl
          have hsx_w6 : wr.heap.size < w6.heap.size := blk_lt hbx
          have hsc_w6 : w4.heap.size < w6.heap.size := blk_lt hcb
          clear hbx hcb
          clear hb6 hx0 hx1 hx2 hx3 hx4 hx5 hx6 hx7 hc0 hc1 hw0
          have heq := eqA38
          go_wp2_with fail
          go_quiet (fail)
          go_wp2_with fail
          go_roundw
          case rel => exact ⟨i + 1, (itemR c x dst).2, rfl, vI (by omega), vI (by rw [hr']), by omega, by omega, ⟨by rw [← HDST.out]; exact HNX.out⟩, ⟨by repeat (first | (with_reducible exact HB6.out) | apply below_alloc | apply pw_below_drewN | apply below_drew)⟩⟩
          case measure => simp [intOf]; omega
      · as_aux_lemma =>
          obtain ⟨hh, ⟨imm, hof, hsum, hi0, hi1⟩, hv0, hv1, hl', hr'⟩ := lead_go HI.out hk H4.out
          rw [HDST.out] at hl' hr' hsum
          have hst : hs = true := by rw [← HHS.out, HHAS.out, hh]
          subst hst
          have hit : itemN x = 1 := by unfold itemN; rw [if_neg (by omega), if_neg (by omega)]
          rw [hit] at hfit
          have hf0 : ¬ ((C.1.length : Int) < at_ + 1) := by omega
          have hf1 : decide ((C.1.length : Int) < at_ + 1) = false := decide_eq_false hf0
          rw [hat_] at hof hv0 hv1 hsum
          obtain ⟨aw, e, hw0⟩ := Kd.at_int HWR.out at_ ha0 (by omega)
          cases e
          have hal0 : (aw.add at_.toNat).block < wr.heap.size := World.block_lt_of_cell? wr _ hw0
          obtain ⟨v, hv⟩ : ∃ v, rd C.1 at_ = v := ⟨_, rfl⟩
          rw [hv] at hof hv0 hv1 hw0
          have HOF := Lib.hid hof
          clear hof hv
          rw [hk] at hx0
          rw [hat_]
          have hw0a := (World.cell?_alloc_lt wr (.cells #[.int .i64 2, .string x.f1, .int .i64 x.f2.f0, .int .i64 x.f2.f1, .int .i64 x.f2.f2, .int .i64 x.f2.f3, .int .i64 x.f2.f4, .int .u32 x.f3] 41) _ hal0).trans hw0
          have HSUM := Lib.hid hsum
          clear hsum
          go_wp2_with (at_lookup; refine wpList_lookup_own_ok_int _ rfl _ _ 34 rfl 9 3 .i64 law34 Try.underlying34 Try.underlying3 (zero3 _) bm l.length D rfl (HMR.out.alloc _) _ _ rfl HKEY.out ?_; intro c1 hat hwc; rw [HGOT.out c1 hat, HHS.out]; clear hat hwc)
          refine (of_any v _ hv0 hv1).mono ?_
          rw [HOF.out]
          rintro e w6 ⟨rfl, hb6⟩
          have HB6 := Lib.hid (below_call (below_alloc HB.out _) hb6)
          have hbx := blk_below (blk_new wr (.cells #[.int .i64 2, .string x.f1, .int .i64 x.f2.f0, .int .i64 x.f2.f1, .int .i64 x.f2.f2, .int .i64 x.f2.f3, .int .i64 x.f2.f4, .int .u32 x.f3] 41)) hb6
          have HBX := Lib.hid hbx
          have hz0 : w6.cell? ⟨wr.heap.size, 0, none⟩ = some (.int .i64 2) := blk_c hbx 0 rfl
          have hz1 : w6.cell? ⟨wr.heap.size, 1, none⟩ = some (.string x.f1) := blk_c hbx 1 rfl
          have hz2 : w6.cell? ⟨wr.heap.size, 2, none⟩ = some (.int .i64 x.f2.f0) := blk_c hbx 2 rfl
          have hz3 : w6.cell? ⟨wr.heap.size, 3, none⟩ = some (.int .i64 x.f2.f1) := blk_c hbx 3 rfl
          have hz4 : w6.cell? ⟨wr.heap.size, 4, none⟩ = some (.int .i64 x.f2.f2) := blk_c hbx 4 rfl
          have hz5 : w6.cell? ⟨wr.heap.size, 5, none⟩ = some (.int .i64 x.f2.f3) := blk_c hbx 5 rfl
          have hz6 : w6.cell? ⟨wr.heap.size, 6, none⟩ = some (.int .i64 x.f2.f4) := blk_c hbx 6 rfl
          have hz7 : w6.cell? ⟨wr.heap.size, 7, none⟩ = some (.int .u32 x.f3) := blk_c hbx 7 rfl
          have hcb := blk_below (blk_alloc HCB.out (.cells #[.int .i64 2, .string x.f1, .int .i64 x.f2.f0, .int .i64 x.f2.f1, .int .i64 x.f2.f2, .int .i64 x.f2.f3, .int .i64 x.f2.f4, .int .u32 x.f3] 41)) hb6
          have HCB2 := Lib.hid hcb
          have hy0 : w6.cell? ⟨w4.heap.size, 0, none⟩ = some (.slice (some aw) C.1.length cw) := blk_c hcb 0 rfl
          have hy1 : w6.cell? ⟨w4.heap.size, 1, none⟩ = some (.slice Ar C.2.length cr) := blk_c hcb 1 rfl
          have hsx_w6 : wr.heap.size < w6.heap.size := blk_lt hbx
          have hsc_w6 : w4.heap.size < w6.heap.size := blk_lt hcb
          clear hbx hcb
          clear hb6 hx0 hx1 hx2 hx3 hx4 hx5 hx6 hx7 hc0 hc1 hw0
          have hcmp : (4 * at_ + 4 + 4 * imm == dst) = true := beq_iff_eq.mpr HSUM.out
          go_wp2_with fail
          go_quiet (fail)
          go_wp2_with fail
          go_roundw
          case rel => exact ⟨i + 1, (itemR c x dst).2, rfl, vI (by omega), vI (by rw [hr']), by omega, by omega, ⟨by rw [← HDST.out]; exact HNX.out⟩, ⟨by repeat (first | (with_reducible exact HB6.out) | apply below_alloc | apply pw_below_drewN | apply below_drew)⟩⟩
          case measure => simp [intOf]; omega
      · as_aux_lemma =>
          obtain ⟨⟨p, q, hofp, hofq, hsum, hp0, hp1, hq0', hq1'⟩, hv0, hv1, hv2, hv3, hrd, hrlt, hl', hr'⟩ := lead_addr HI.out hk (by rw [HDST.out]; exact hd0') (by rw [HDST.out]; exact hd1')
          rw [HDST.out] at hl' hr' hsum
          have hit : itemN x = 2 := by unfold itemN; rw [if_neg (by omega), if_pos hk]
          rw [hit] at hfit
          have hf0 : ¬ ((C.1.length : Int) < at_ + 2) := by omega
          have hf1 : decide ((C.1.length : Int) < at_ + 2) = false := decide_eq_false hf0
          rw [hat_] at hofp hofq hv0 hv1 hv2 hv3 hrd
          obtain ⟨aw, e, hw0⟩ := Kd.at_int HWR.out at_ ha0 (by omega)
          cases e
          have hal0 : (aw.add at_.toNat).block < wr.heap.size := World.block_lt_of_cell? wr _ hw0
          obtain ⟨aw2, e, hw1⟩ := Kd.at_int HWR.out (at_ + 1) (by omega) (by omega)
          cases e
          obtain ⟨v, hv⟩ : ∃ v, rd C.1 at_ = v := ⟨_, rfl⟩
          rw [hv] at hofp hv0 hv1 hw0
          obtain ⟨v2, hv⟩ : ∃ v, rd C.1 (at_ + 1) = v := ⟨_, rfl⟩
          rw [hv] at hofq hv2 hv3 hw1
          have HOFP := Lib.hid hofp
          have HOFQ := Lib.hid hofq
          clear hofp hofq hv
          obtain ⟨rl, hrl_⟩ : ∃ a : Int, (c.2.length : Int) = a := ⟨_, rfl⟩
          have hrl3 : 0 ≤ rl := by omega
          have hrl0 : ¬ ((C.2.length : Int) ≤ rl) := by omega
          have hrl1 : decide ((C.2.length : Int) ≤ rl) = false := decide_eq_false hrl0
          have hrl2 : rl < (C.2.length : Int) := by omega
          obtain ⟨ar, e, hq0, hq1⟩ := at_T46 HRR.out rl hrl3 (by simpa using hrl2)
          cases e
          rw [hrl_] at hrd ⊢
          rw [hrd] at hq0 hq1
          have hrl := World.block_lt_of_cell? wr _ hq0
          have hm4 : IntKind.i64.wrap (4 * at_) = 4 * at_ := by rw [IntWalk.i64_left]; unfold wrap64; omega
          have hal := World.block_lt_of_cell? wr _ hw1
          rw [hk] at hx0
          rw [hat_]
          have hw0a := (World.cell?_alloc_lt wr (.cells #[.int .i64 3, .string x.f1, .int .i64 x.f2.f0, .int .i64 x.f2.f1, .int .i64 x.f2.f2, .int .i64 x.f2.f3, .int .i64 x.f2.f4, .int .u32 x.f3] 41) _ hal0).trans hw0
          have HSUM := Lib.hid hsum
          clear hsum
          go_wp2_with (at_lookup; refine wpList_lookup_own_ok_int _ rfl _ _ 34 rfl 9 3 .i64 law34 Try.underlying34 Try.underlying3 (zero3 _) bm l.length D rfl (HMR.out.alloc _) _ _ rfl HKEY.out ?_; intro c1 hat hwc; rw [HGOT.out c1 hat, HHS.out]; clear hat hwc)
          refine (of_any v _ hv0 hv1).mono ?_
          rw [HOFP.out]
          rintro e w6 ⟨rfl, hb6⟩
          have HB6 := Lib.hid (below_call (below_alloc HB.out _) hb6)
          have HBB := Lib.hid (below_call (below_alloc (Below.refl _ wr) (.cells #[.int .i64 3, .string x.f1, .int .i64 x.f2.f0, .int .i64 x.f2.f1, .int .i64 x.f2.f2, .int .i64 x.f2.f3, .int .i64 x.f2.f4, .int .u32 x.f3] 41)) hb6)
          have HQ := Lib.hid (And.intro hq0 hq1)
          replace hw1 := (HBB.out.cell hal).trans hw1
          have hal6 := World.block_lt_of_cell? w6 _ hw1
          have hbx := blk_below (blk_new wr (.cells #[.int .i64 3, .string x.f1, .int .i64 x.f2.f0, .int .i64 x.f2.f1, .int .i64 x.f2.f2, .int .i64 x.f2.f3, .int .i64 x.f2.f4, .int .u32 x.f3] 41)) hb6
          have HBX := Lib.hid hbx
          have hz0 : w6.cell? ⟨wr.heap.size, 0, none⟩ = some (.int .i64 3) := blk_c hbx 0 rfl
          have hz1 : w6.cell? ⟨wr.heap.size, 1, none⟩ = some (.string x.f1) := blk_c hbx 1 rfl
          have hz2 : w6.cell? ⟨wr.heap.size, 2, none⟩ = some (.int .i64 x.f2.f0) := blk_c hbx 2 rfl
          have hz3 : w6.cell? ⟨wr.heap.size, 3, none⟩ = some (.int .i64 x.f2.f1) := blk_c hbx 3 rfl
          have hz4 : w6.cell? ⟨wr.heap.size, 4, none⟩ = some (.int .i64 x.f2.f2) := blk_c hbx 4 rfl
          have hz5 : w6.cell? ⟨wr.heap.size, 5, none⟩ = some (.int .i64 x.f2.f3) := blk_c hbx 5 rfl
          have hz6 : w6.cell? ⟨wr.heap.size, 6, none⟩ = some (.int .i64 x.f2.f4) := blk_c hbx 6 rfl
          have hz7 : w6.cell? ⟨wr.heap.size, 7, none⟩ = some (.int .u32 x.f3) := blk_c hbx 7 rfl
          have hcb := blk_below (blk_alloc HCB.out (.cells #[.int .i64 3, .string x.f1, .int .i64 x.f2.f0, .int .i64 x.f2.f1, .int .i64 x.f2.f2, .int .i64 x.f2.f3, .int .i64 x.f2.f4, .int .u32 x.f3] 41)) hb6
          have HCB2 := Lib.hid hcb
          have hy0 : w6.cell? ⟨w4.heap.size, 0, none⟩ = some (.slice (some aw) C.1.length cw) := blk_c hcb 0 rfl
          have hy1 : w6.cell? ⟨w4.heap.size, 1, none⟩ = some (.slice (some ar) C.2.length cr) := blk_c hcb 1 rfl
          have hsx_w6 : wr.heap.size < w6.heap.size := blk_lt hbx
          have hsc_w6 : w4.heap.size < w6.heap.size := blk_lt hcb
          clear hbx hcb
          clear hb6 hx0 hx1 hx2 hx3 hx4 hx5 hx6 hx7 hc0 hc1 hw0 hq0 hq1
          go_wp2_with fail
          refine (of_any v2 _ hv2 hv3).mono ?_
          rw [HOFQ.out]
          rintro e w7 ⟨rfl, hb7⟩
          have HB7 := Lib.hid (below_call (below_alloc HB6.out _) hb7)
          have HBC := Lib.hid (below_call (below_alloc HBB.out _) hb7)
          have hq0 := (HBC.out.cell hrl).trans HQ.out.1
          have hq1 := (HBC.out.cell (p := ⟨(ar.add (Int.toNat rl * 2)).block, (ar.add (Int.toNat rl * 2)).off + 1, none⟩) hrl).trans HQ.out.2
          have hrl7 := World.block_lt_of_cell? w7 _ hq0
          clear hz0 hz1 hz2 hz3 hz4 hz5 hz6 hz7 hy0 hy1 hw1
          skip
          have hbx := blk_below (blk_alloc HBX.out (.cells #[.int .i64 1, .int .i64 x.f2.f1, .int .i64 0, .int .i64 0, .int .i64 p] 38)) hb7
          have HBX := Lib.hid hbx
          have hz0 : w7.cell? ⟨wr.heap.size, 0, none⟩ = some (.int .i64 3) := blk_c hbx 0 rfl
          have hz1 : w7.cell? ⟨wr.heap.size, 1, none⟩ = some (.string x.f1) := blk_c hbx 1 rfl
          have hz2 : w7.cell? ⟨wr.heap.size, 2, none⟩ = some (.int .i64 x.f2.f0) := blk_c hbx 2 rfl
          have hz3 : w7.cell? ⟨wr.heap.size, 3, none⟩ = some (.int .i64 x.f2.f1) := blk_c hbx 3 rfl
          have hz4 : w7.cell? ⟨wr.heap.size, 4, none⟩ = some (.int .i64 x.f2.f2) := blk_c hbx 4 rfl
          have hz5 : w7.cell? ⟨wr.heap.size, 5, none⟩ = some (.int .i64 x.f2.f3) := blk_c hbx 5 rfl
          have hz6 : w7.cell? ⟨wr.heap.size, 6, none⟩ = some (.int .i64 x.f2.f4) := blk_c hbx 6 rfl
          have hz7 : w7.cell? ⟨wr.heap.size, 7, none⟩ = some (.int .u32 x.f3) := blk_c hbx 7 rfl
          have hcb := blk_below (blk_alloc HCB2.out (.cells #[.int .i64 1, .int .i64 x.f2.f1, .int .i64 0, .int .i64 0, .int .i64 p] 38)) hb7
          have HCB2 := Lib.hid hcb
          have hy0 : w7.cell? ⟨w4.heap.size, 0, none⟩ = some (.slice (some aw) C.1.length cw) := blk_c hcb 0 rfl
          have hy1 : w7.cell? ⟨w4.heap.size, 1, none⟩ = some (.slice (some ar) C.2.length cr) := blk_c hcb 1 rfl
          have hsx_w7 : wr.heap.size < w7.heap.size := blk_lt hbx
          have hsc_w7 : w4.heap.size < w7.heap.size := blk_lt hcb
          clear hbx hcb
          have hbp := blk_below (blk_new w6 (.cells #[.int .i64 1, .int .i64 x.f2.f1, .int .i64 0, .int .i64 0, .int .i64 p] 38)) hb7
          have hp0_ : w7.cell? ⟨w6.heap.size, 0, none⟩ = some (.int .i64 1) := blk_c hbp 0 rfl
          have hp1_ : w7.cell? ⟨w6.heap.size, 1, none⟩ = some (.int .i64 x.f2.f1) := blk_c hbp 1 rfl
          have hp2_ : w7.cell? ⟨w6.heap.size, 2, none⟩ = some (.int .i64 0) := blk_c hbp 2 rfl
          have hp3_ : w7.cell? ⟨w6.heap.size, 3, none⟩ = some (.int .i64 0) := blk_c hbp 3 rfl
          have hp4_ : w7.cell? ⟨w6.heap.size, 4, none⟩ = some (.int .i64 p) := blk_c hbp 4 rfl
          have hs6 : w6.heap.size < w7.heap.size := blk_lt hbp
          clear hb7 hbp
          have hcmp : (p + 65536 * q == dst) = true := beq_iff_eq.mpr HSUM.out
          go_wp2_with fail
          go_quiet (fail)
          go_wp2_with fail
          have heq := eqA46
          go_quiet (fail)
          go_wp2_with fail
          go_roundw
          case rel => exact ⟨i + 1, (itemR c x dst).2, rfl, vI (by omega), vI (by omega), by omega, by omega, ⟨by rw [← HDST.out]; exact HNX.out⟩, ⟨by repeat (first | (with_reducible exact HB7.out) | apply below_alloc | apply pw_below_drewN | apply below_drew)⟩⟩
          case measure => simp [intOf]; omega
      · as_aux_lemma =>
          obtain ⟨hwd, hl', hr'⟩ := lead_data HI.out hk
          rw [HDST.out] at hl' hr'
          have hit : itemN x = 1 := by unfold itemN; rw [if_neg (by omega), if_neg (by omega)]
          rw [hit] at hfit
          have hf0 : ¬ ((C.1.length : Int) < at_ + 1) := by omega
          have hf1 : decide ((C.1.length : Int) < at_ + 1) = false := decide_eq_false hf0
          rw [hat_] at hwd
          obtain ⟨aw, e, hw0⟩ := Kd.at_int HWR.out at_ ha0 (by omega)
          cases e
          have hal0 : (aw.add at_.toNat).block < wr.heap.size := World.block_lt_of_cell? wr _ hw0
          rw [hwd] at hw0
          clear hwd
          rw [hk] at hx0
          rw [hat_]
          have hw0a := (World.cell?_alloc_lt wr (.cells #[.int .i64 4, .string x.f1, .int .i64 x.f2.f0, .int .i64 x.f2.f1, .int .i64 x.f2.f2, .int .i64 x.f2.f3, .int .i64 x.f2.f4, .int .u32 x.f3] 41) _ hal0).trans hw0
          go_wp2_with (at_lookup; refine wpList_lookup_own_ok_int _ rfl _ _ 34 rfl 9 3 .i64 law34 Try.underlying34 Try.underlying3 (zero3 _) bm l.length D rfl (HMR.out.alloc _) _ _ rfl HKEY.out ?_; intro c1 hat hwc; rw [HGOT.out c1 hat, HHS.out]; clear hat hwc)
          go_quiet (fail)
          go_wp2_with fail
          go_roundw
          case rel => exact ⟨i + 1, (itemR c x dst).2, rfl, vI (by omega), vI (by rw [hr']), by omega, by omega, ⟨by rw [← HDST.out]; exact HNX.out⟩, ⟨by repeat (first | (with_reducible exact HB.out) | apply below_alloc | apply pw_below_drewN | apply below_drew)⟩⟩
          case measure => simp [intOf]; omega
      · as_aux_lemma =>
          obtain ⟨hwd, hrd, hrlt, hl', hr'⟩ := lead_place HI.out hk
          rw [HDST.out] at hl' hr' hwd
          have hit : itemN x = 1 := by unfold itemN; rw [if_neg (by omega), if_neg (by omega)]
          rw [hit] at hfit
          have hf0 : ¬ ((C.1.length : Int) < at_ + 1) := by omega
          have hf1 : decide ((C.1.length : Int) < at_ + 1) = false := decide_eq_false hf0
          rw [hat_] at hwd hrd
          obtain ⟨aw, e, hw0⟩ := Kd.at_int HWR.out at_ ha0 (by omega)
          cases e
          have hal0 : (aw.add at_.toNat).block < wr.heap.size := World.block_lt_of_cell? wr _ hw0
          rw [hwd] at hw0
          clear hwd
          obtain ⟨rl, hrl_⟩ : ∃ a : Int, (c.2.length : Int) = a := ⟨_, rfl⟩
          have hrl3 : 0 ≤ rl := by omega
          have hrl0 : ¬ ((C.2.length : Int) ≤ rl) := by omega
          have hrl1 : decide ((C.2.length : Int) ≤ rl) = false := decide_eq_false hrl0
          have hrl2 : rl < (C.2.length : Int) := by omega
          obtain ⟨ar, e, hq0, hq1⟩ := at_T46 HRR.out rl hrl3 (by simpa using hrl2)
          cases e
          rw [hrl_] at hrd ⊢
          rw [hrd] at hq0 hq1
          have hrl := World.block_lt_of_cell? wr _ hq0
          have hm4 : IntKind.i64.wrap (4 * at_) = 4 * at_ := by rw [IntWalk.i64_left]; unfold wrap64; omega
          rw [hk] at hx0
          rw [hat_]
          have hw0a := (World.cell?_alloc_lt wr (.cells #[.int .i64 5, .string x.f1, .int .i64 x.f2.f0, .int .i64 x.f2.f1, .int .i64 x.f2.f2, .int .i64 x.f2.f3, .int .i64 x.f2.f4, .int .u32 x.f3] 41) _ hal0).trans hw0
          go_wp2_with (at_lookup; refine wpList_lookup_own_ok_int _ rfl _ _ 34 rfl 9 3 .i64 law34 Try.underlying34 Try.underlying3 (zero3 _) bm l.length D rfl (HMR.out.alloc _) _ _ rfl HKEY.out ?_; intro c1 hat hwc; rw [HGOT.out c1 hat, HHS.out]; clear hat hwc)
          go_quiet (fail)
          go_wp2_with fail
          have heq := eqA46
          go_quiet (fail)
          go_wp2_with fail
          go_roundw
          case rel => exact ⟨i + 1, (itemR c x dst).2, rfl, vI (by omega), vI (by omega), by omega, by omega, ⟨by rw [← HDST.out]; exact HNX.out⟩, ⟨by repeat (first | (with_reducible exact HB.out) | apply below_alloc | apply pw_below_drewN | apply below_drew)⟩⟩
          case measure => simp [intOf]; omega
    · as_aux_lemma =>
        have hd : decide (i < (l.length : Int)) = false := decide_eq_false hlt
        have he : i.toNat = l.length := by omega
        have hcc : c = C := by have h := HTO.out; rw [he, List.take_length, HBU.out] at h; injection h with h; exact h.symm
        subst hcc
        clear he
        have hcb : wr.heap[w4.heap.size]? = some (.cells #[.slice Aw c.1.length cw, .slice Ar c.2.length cr] 30 (0, 0)) := blk_below HBK.out HB.out
        have hc0 : wr.cell? ⟨w4.heap.size, 0, none⟩ = some (.slice Aw c.1.length cw) := blk_c hcb 0 rfl
        have hc1 : wr.cell? ⟨w4.heap.size, 1, none⟩ = some (.slice Ar c.2.length cr) := blk_c hcb 1 rfl
        clear hcb
        have HBE := Lib.hid (below_call HB5.out HB.out)
        go_wp2_with fail
        go_ret
        exact ⟨rfl, HBE.out⟩
end Go.Proofs.Ythnbpbmbpggadaa.Mine
