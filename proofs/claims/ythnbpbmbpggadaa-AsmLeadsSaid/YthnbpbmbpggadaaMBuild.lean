/- What asm.Build answers. -/
import Derived.Test.YthnbpbmbpggadaaMBuildR
namespace Go.Proofs.Ythnbpbmbpggadaa.Mine
open Go.RowKit Go.Proofs.YthnbpbmbpggadaaW.PrintWords Go.Proofs.YthnbpbmbpggadaaW.PrintLast Go.Proofs.YthnbpbmbpggadaaW.PrintMore
open Go.Proofs.Ythnbpbmbpggadaa.PAsmLeads
open Go.WideMaps Go.Maps
set_option linter.unusedSimpArgs false
set_option linter.unusedVariables false

def BuildPost (l : List S41) (w : World) (e : Ending) (w' : World) : Prop :=
  Below w.heap.size w w' ∧ match buildR l with
  | .error c => e = .returned (.tuple #[.agg #[.slice none 0 0, .slice none 0 0], .int .i64 c])
  | .ok c => ∃ vw vr, e = .returned (.tuple #[.agg #[vw, vr], .int .i64 0]) ∧ w'.ownsRow w.heap.size 39 1 vw c.1.length (nums .u32 c.1) ∧ w'.ownsRow w.heap.size 46 2 vr c.2.length (c.2.flatMap relV)
theorem BuildPost.err {l : List S41} {w w' : World} {c : Int} (h : buildR l = .error c) (hb : Below w.heap.size w w') : BuildPost l w (.returned (.tuple #[.agg #[.slice none 0 0, .slice none 0 0], .int .i64 c])) w' := by
  unfold BuildPost; rw [h]; exact ⟨hb, rfl⟩
theorem BuildPost.ok {l : List S41} {w w' : World} {c : Codes} (h : buildR l = .ok c) (hb : Below w.heap.size w w') (vw vr : Value) (h1 : w'.ownsRow w.heap.size 39 1 vw c.1.length (nums .u32 c.1)) (h2 : w'.ownsRow w.heap.size 46 2 vr c.2.length (c.2.flatMap relV)) :
    BuildPost l w (.returned (.tuple #[.agg #[vw, vr], .int .i64 0])) w' := by
  unfold BuildPost; rw [h]; exact ⟨hb, vw, vr, rfl, h1, h2⟩
theorem places_any (A : Option Addr) (cap : Nat) (l : List S41) (w : World) (hr : Kd.C k41 w A l.length l) (hsz : ∀ x ∈ l, x.f1.size ≤ maxLen) :
    Calls Try.prog 16 #[.slice A l.length cap] w (PlacesPost l w) := by
  by_cases h : 4096 < l.length
  · exact places_long A cap l w hr h
  · cases hb : l.any badB with
    | true => exact places_bad A cap l w hr (by omega) hb
    | false => exact places_good A cap l w hr (by omega) hb hsz

set_option maxHeartbeats 800000 in
set_option maxRecDepth 100000 in
theorem build_err (A : Option Addr) (cap : Nat) (l : List S41) (w : World) (hr : Kd.C k41 w A l.length l) (hsz : ∀ x ∈ l, x.f1.size ≤ maxLen) (c : Int) (hc : placesR l = .error c) (hc0 : (c == 0) = false) :
    Calls Try.prog 15 #[.slice A l.length cap] w (BuildPost l w) := by
  have HR := Lib.hid (Kd.C_below hr (below_alloc (Below.refl _ _) (.cells #[.slice none 0 0, .slice none 0 0] 30)))
  have HS := Lib.hid hsz
  have HC := Lib.hid hc
  have hb0 : buildR l = .error c := by unfold buildR; rw [hc]
  have HB0 := Lib.hid hb0
  clear hr hsz hc hb0
  go_enter Try.func15, Try.ntmps15
  go_wp2_with fail
  refine (places_any A cap l _ HR.out HS.out).mono ?_
  rintro e w1 ⟨hb, hp⟩
  rw [HC.out] at hp
  simp only at hp
  subst hp
  have hblk := blk_below (blk_new w (.cells #[.slice none 0 0, .slice none 0 0] 30)) hb
  have hx0 : w1.cell? ⟨w.heap.size, 0, none⟩ = some (.slice none 0 0) := blk_c hblk 0 rfl
  have hx1 : w1.cell? ⟨w.heap.size, 1, none⟩ = some (.slice none 0 0) := blk_c hblk 1 rfl
  have hf0 : w1.frozen? ⟨w.heap.size, 0, none⟩ = false := blk_frozen hblk 0
  have hf1 : w1.frozen? ⟨w.heap.size, 1, none⟩ = false := blk_frozen hblk 1
  have HBK := Lib.hid hblk
  have HB := Lib.hid (below_call (below_alloc (Below.refl _ _) _) hb)
  clear hblk hb
  go_wp2_with fail
  refine bodyPost_ret (results_ct rfl _ _ w.heap.size 30 #[.slice none 0 0, .slice none 0 0] (0, 0) _ rfl (blk_put (blk_put HBK.out 0 _ rfl) 1 _ rfl) Try.underlying30 rfl (by kernel_rfl)) rfl ?_
  exact BuildPost.err HB0.out (by repeat (first | (with_reducible exact HB.out) | refine Below.setCell ?_ (by simp) _))

/-- what is so at the head of a round -/
structure BuRel (w w3 : World) (r g b : Nat) (L : Names) (D : DataW Unit) (l : List S41) (i : Int) (c : Codes) (vw vr : Value) (w' : World) : Prop where
  done : buTo L (l.take i.toNat) = .ok c
  len : c.1.length ≤ 2 * i.toNat ∧ c.2.length ≤ i.toNat
  code : IsCode w' w.heap.size g vw vr c.1 c.2
  keep : KM g w3 w'
  low : Below w.heap.size w w'
  size : w3.heap.size ≤ w'.heap.size

set_option maxHeartbeats 3200000 in
set_option maxRecDepth 100000 in
theorem build_ok (A : Option Addr) (cap : Nat) (l : List S41) (w : World) (hr : Kd.C k41 w A l.length l) (hsz : ∀ x ∈ l, x.f1.size ≤ maxLen) (L : Names) (hc : placesR l = .ok L) :
    Calls Try.prog 15 #[.slice A l.length cap] w (BuildPost l w) := by
  obtain ⟨hl4, hgood, hin⟩ := places_in hc
  have HR := Lib.hid (Kd.C_below hr (below_alloc (Below.refl _ _) (.cells #[.slice none 0 0, .slice none 0 0] 30)))
  have HR0 := Lib.hid hr
  have HS := Lib.hid hsz
  have HC := Lib.hid hc
  have HG := Lib.hid hgood
  have HI := Lib.hid hin
  have hb0 : buildR l = buTo L l := by unfold buildR; rw [hc]
  have HB0 := Lib.hid hb0
  clear hr hsz hc hb0 hgood hin
  go_enter Try.func15, Try.ntmps15
  go_wp2_with fail
  refine (places_any A cap l _ HR.out HS.out).mono ?_
  rintro e w2 ⟨hb, hp⟩
  rw [HC.out] at hp
  simp only at hp
  obtain ⟨b, D, rfl, hbl, hmap, htell⟩ := hp
  have hblk := blk_below (blk_new w (.cells #[.slice none 0 0, .slice none 0 0] 30)) hb
  have HBK := Lib.hid hblk
  have HB := Lib.hid (below_call (below_alloc (Below.refl _ _) _) hb)
  have HM := Lib.hid hmap
  have HT := Lib.hid htell
  have hbl2 : w.heap.size < b := by simp at hbl; omega
  have hsz2 : w.heap.size < w2.heap.size := blk_lt hblk
  have hbw2 : b < w2.heap.size := own_map_lt hmap
  clear hblk hb hmap htell hbl
  go_wp2_with fail
  go_loopw [25] (fun v w' => ∃ (i : Int) (c : Codes) (vw vr : Value), v = .int .i64 i ∧ 0 ≤ i ∧ i ≤ l.length ∧
    Aside0 (BuRel w (w2.alloc (.cells #[.slice none 0 0, .slice none 0 0] 30)) w.heap.size w2.heap.size b L D l i c vw vr w')) (fun v _ => l.length - (intOf v).toNat)
  case atStart => exact ⟨0, ([], []), .slice none 0 0, .slice none 0 0, rfl, Int.le_refl _, by omega, ⟨⟨rfl, ⟨Nat.zero_le _, Nat.zero_le _⟩, ⟨blk_new _ _, by omega, own_nil _ _ _ _, own_nil _ _ _ _⟩, KM.refl _ _, below_alloc HB.out _, Nat.le_refl _⟩⟩⟩
  case round =>
    obtain ⟨i, c, vw, vr, rfl, h0, h1, HREL⟩ := hrel
    by_cases hlt : i < l.length
    · have hd : decide (i < (l.length : Int)) = true := decide_eq_true hlt
      have hd0 : decide (0 ≤ i) = true := decide_eq_true h0
      obtain ⟨ad, e, hx0, hx1, hx2, hx3, hx4, hx5, hx6, hx7⟩ := at_T41 HR0.out i h0 hlt
      cases e
      have HLW := HREL.out.low
      replace hx0 := (HLW.cell (World.block_lt_of_cell? w _ hx0)).trans hx0
      replace hx1 := (HLW.cell (World.block_lt_of_cell? w _ hx1)).trans hx1
      replace hx2 := (HLW.cell (World.block_lt_of_cell? w _ hx2)).trans hx2
      replace hx3 := (HLW.cell (World.block_lt_of_cell? w _ hx3)).trans hx3
      replace hx4 := (HLW.cell (World.block_lt_of_cell? w _ hx4)).trans hx4
      replace hx5 := (HLW.cell (World.block_lt_of_cell? w _ hx5)).trans hx5
      replace hx6 := (HLW.cell (World.block_lt_of_cell? w _ hx6)).trans hx6
      replace hx7 := (HLW.cell (World.block_lt_of_cell? w _ hx7)).trans hx7
      clear HLW
      have hst := bu_step (L := L) h0 hlt
      rw [HREL.out.done] at hst
      have hdie := fun e h => bu_dies (L := L) (l := l) (e := e) h0 hlt (by rw [HREL.out.done]; exact h)
      obtain ⟨x, hx⟩ : ∃ x, rd_T41 l i = x := ⟨_, rfl⟩
      have hkind := good_kind HG.out (rd_mem h0 hlt)
      have hmem : x.f1.size ≤ maxLen := by rw [← hx]; exact HS.out _ (rd_mem h0 hlt)
      have hkey : keyOf Try.prog 9 (.string x.f1) = some (kS x.f1) := keyOf_string_mk Try.underlying9 hmem
      rw [hx] at hx0 hx1 hx2 hx3 hx4 hx5 hx6 hx7 hst hdie hkind
      have HST := Lib.hid hst
      have HDIE := Lib.hid hdie
      have HKEY := Lib.hid hkey
      have HKI := Lib.hid hkind
      clear hst hdie hx hmem hkey hkind
      have hmr := own_map_km HM.out ((KM.of_below (below_alloc (Below.refl _ _) _)).trans HREL.out.keep) (by omega)
      have HMR := Lib.hid hmr
      have hhas := HT.out.has x.f1
      have HHAS := Lib.hid hhas
      clear hmr hhas
      go_wp2_with (at_lookup; refine wpList_lookup_own_ok_int _ rfl _ _ 34 rfl 9 3 .i64 law34 Try.underlying34 Try.underlying3 (zero3 _) b l.length D rfl (HMR.out.alloc _) _ _ rfl HKEY.out ?_; intro c1 hat hwc; have HAT := Lib.hid hat; clear hat hwc)
      have hc1 : c1 = lookN L x.f1 := by
        have h := HAT.out.symm.trans (HT.out.get x.f1)
        injection h with h; injection h with _ h
      subst hc1
      clear HAT
      obtain ⟨hk0, hk1⟩ := HKI.out
      obtain ⟨ht0, ht1⟩ := lookN_in HI.out (by decide) x.f1
      obtain ⟨dst, hdst⟩ : ∃ dst, lookN L x.f1 = dst := ⟨_, rfl⟩
      rw [hdst] at ht0 ht1 ⊢
      have HDS := Lib.hid hdst
      clear hdst
      obtain ⟨q, hq⟩ : ∃ q, irightB x = q := ⟨_, rfl⟩
      refine (iright_any x _).mono ?_
      rw [hq]
      rintro e w4 ⟨rfl, hb4⟩
      have HQ := Lib.hid hq
      clear hq
      have hrk : w4.heap[w.heap.size]? = some (.cells #[.slice none 0 0, .slice none 0 0] 30 (0, 0)) := blk_below (blk_alloc (HREL.out.keep _ _ (blk_alloc HBK.out _) (by omega) (by rintro ⟨cur, e, f, h, ht⟩; cases h; revert ht; decide)) _) hb4
      have HRK := Lib.hid hrk
      have hy0 : w4.cell? ⟨w.heap.size, 0, none⟩ = some (.slice none 0 0) := blk_c hrk 0 rfl
      have hy1 : w4.cell? ⟨w.heap.size, 1, none⟩ = some (.slice none 0 0) := blk_c hrk 1 rfl
      have hf0 : w4.frozen? ⟨w.heap.size, 0, none⟩ = false := blk_frozen hrk 0
      have hf1 : w4.frozen? ⟨w.heap.size, 1, none⟩ = false := blk_frozen hrk 1
      clear hrk
      have HBF := Lib.hid (below_call (below_alloc HREL.out.low _) hb4)
      have HC4 := Lib.hid ((HREL.out.code.below (below_alloc (Below.refl _ _) (.cells #[.int .i64 x.f0, .string x.f1, .int .i64 x.f2.f0, .int .i64 x.f2.f1, .int .i64 x.f2.f2, .int .i64 x.f2.f3, .int .i64 x.f2.f4, .int .u32 x.f3] 41))).below hb4)
      have HK4 := Lib.hid ((HREL.out.keep.trans (KM.of_below (below_alloc (Below.refl _ _) (.cells #[.int .i64 x.f0, .string x.f1, .int .i64 x.f2.f0, .int .i64 x.f2.f1, .int .i64 x.f2.f2, .int .i64 x.f2.f3, .int .i64 x.f2.f4, .int .u32 x.f3] 41)))).trans (KM.of_below hb4))
      have HS4 := Lib.hid (Nat.le_trans HREL.out.size (Nat.le_trans (below_alloc (Below.refl _ _) (.cells #[.int .i64 x.f0, .string x.f1, .int .i64 x.f2.f0, .int .i64 x.f2.f1, .int .i64 x.f2.f2, .int .i64 x.f2.f3, .int .i64 x.f2.f4, .int .u32 x.f3] 41)).size hb4.size))
      have hbx := blk_below (blk_new wr (.cells #[.int .i64 x.f0, .string x.f1, .int .i64 x.f2.f0, .int .i64 x.f2.f1, .int .i64 x.f2.f2, .int .i64 x.f2.f3, .int .i64 x.f2.f4, .int .u32 x.f3] 41)) hb4
      have hz0 : w4.cell? ⟨wr.heap.size, 0, none⟩ = some (.int .i64 x.f0) := blk_c hbx 0 rfl
      have hz1 : w4.cell? ⟨wr.heap.size, 1, none⟩ = some (.string x.f1) := blk_c hbx 1 rfl
      have hz2 : w4.cell? ⟨wr.heap.size, 2, none⟩ = some (.int .i64 x.f2.f0) := blk_c hbx 2 rfl
      have hz3 : w4.cell? ⟨wr.heap.size, 3, none⟩ = some (.int .i64 x.f2.f1) := blk_c hbx 3 rfl
      have hz4 : w4.cell? ⟨wr.heap.size, 4, none⟩ = some (.int .i64 x.f2.f2) := blk_c hbx 4 rfl
      have hz5 : w4.cell? ⟨wr.heap.size, 5, none⟩ = some (.int .i64 x.f2.f3) := blk_c hbx 5 rfl
      have hz6 : w4.cell? ⟨wr.heap.size, 6, none⟩ = some (.int .i64 x.f2.f4) := blk_c hbx 6 rfl
      have hz7 : w4.cell? ⟨wr.heap.size, 7, none⟩ = some (.int .u32 x.f3) := blk_c hbx 7 rfl
      clear hbx hb4 hx0 hx1 hx2 hx3 hx4 hx5 hx6 hx7
      cases q
      · skip
        go_wp2_with fail
        refine bodyPost_ret (results_ct rfl _ _ w.heap.size 30 #[.slice none 0 0, .slice none 0 0] (0, 0) _ rfl (blk_put (blk_put HRK.out 0 _ rfl) 1 _ rfl) Try.underlying30 rfl (by kernel_rfl)) rfl ?_
        exact BuildPost.err (HB0.out.trans (HDIE.out 1 (by unfold buStep; simp only; rw [if_pos HQ.out]))) (by repeat (first | (with_reducible exact HBF.out) | refine Below.setCell ?_ (by simp) _))
      have HST2 : Hid (buTo L (l.take (i + 1).toNat) = if (namedB x.f0 && !hasN L x.f1) = true then .error 5 else if (itemR c x dst).1 = 0 then .ok (itemR c x dst).2 else .error (itemR c x dst).1) :=
        Lib.hid (by rw [HST.out]; unfold buStep; simp only; rw [if_neg (by rw [HQ.out]; decide), HDS.out])
      have HDI2 : Hid (∀ e, (if (namedB x.f0 && !hasN L x.f1) = true then .error 5 else if (itemR c x dst).1 = 0 then .ok (itemR c x dst).2 else .error (itemR c x dst).1 : Except Int Codes) = .error e → buTo L l = .error e) :=
        Lib.hid (fun e h => HDIE.out e (by unfold buStep; simp only; rw [if_neg (by rw [HQ.out]; decide), HDS.out]; exact h))
      clear HDIE HST HQ
      go_wp2_with fail
      refine (named_any _ _).mono ?_
      obtain ⟨nb, hnb⟩ : ∃ nb, namedB x.f0 = nb := ⟨_, rfl⟩
      rw [hnb]
      rintro e w5 ⟨rfl, ⟨n5, rfl⟩⟩
      have HNB := Lib.hid hnb
      clear hnb
      cases nb
      · have HCC : Hid ((namedB x.f0 && !hasN L x.f1) = false) := Lib.hid (by rw [HNB.out]; rfl)
        go_wp2_with fail
        refine (item_any w.heap.size w2.heap.size vw vr c x dst _ (HC4.out.below (pw_below_drewN (Below.refl _ _) n5)) (by have := HREL.out.len; omega) (by have := HREL.out.len; omega) ht0 (by omega) hk0 hk1).mono ?_
        obtain ⟨⟨er, c'⟩, hit⟩ : ∃ p, itemR c x dst = p := ⟨_, rfl⟩
        have HIT := Lib.hid hit
        rw [hit]
        clear hit
        rintro e w6 ⟨vw6, vr6, rfl, hC6, hb6, hk6⟩
        have hlen6 := item_len c x dst
        rw [HIT.out] at hlen6
        have hl6 : c'.1.length ≤ c.1.length + 2 ∧ c'.2.length ≤ c.2.length + 1 := hlen6
        have HL6 := Lib.hid hl6
        clear hl6
        have HC6 := Lib.hid hC6
        have HB6 := Lib.hid ((pw_below_drewN HBF.out n5).trans hb6)
        have HK6 := Lib.hid ((HK4.out.trans (KM.of_below (pw_below_drewN (Below.refl _ _) n5))).trans hk6)
        have HS6 := Lib.hid (Nat.le_trans HS4.out hb6.size)
        clear hlen6 hC6 hb6 hk6 hy0 hy1 hf0 hf1 hz0 hz1 hz2 hz3 hz4 hz5 hz6 hz7 HRK
        by_cases her : er = 0
        · subst her
          go_wp2_with fail
          go_roundw
          case rel => exact ⟨i + 1, c', vw6, vr6, rfl, by omega, by omega, ⟨⟨by rw [HST2.out, HCC.out, HIT.out]; rfl, ⟨by have := HL6.out; have := HREL.out.len; omega, by have := HL6.out; have := HREL.out.len; omega⟩, HC6.out, HK6.out, HB6.out, HS6.out⟩⟩⟩
          case measure => simp [intOf]; omega
        · have hne : (er == 0) = false := beq_eq_false_iff_ne.mpr her
          have HER := Lib.hid her
          clear her
          have hrk : w6.heap[w.heap.size]? = some (.cells #[.slice none 0 0, .slice none 0 0] 30 (0, 0)) := HK6.out _ _ (blk_alloc HBK.out _) (by omega) (by rintro ⟨cur, e, f, h, ht⟩; cases h; revert ht; decide)
          have HRK := Lib.hid hrk
          have hy0 : w6.cell? ⟨w.heap.size, 0, none⟩ = some (.slice none 0 0) := blk_c hrk 0 rfl
          have hy1 : w6.cell? ⟨w.heap.size, 1, none⟩ = some (.slice none 0 0) := blk_c hrk 1 rfl
          have hf0 : w6.frozen? ⟨w.heap.size, 0, none⟩ = false := blk_frozen hrk 0
          have hf1 : w6.frozen? ⟨w.heap.size, 1, none⟩ = false := blk_frozen hrk 1
          clear hrk
          go_wp2_with fail
          refine bodyPost_ret (results_ct rfl _ _ w.heap.size 30 #[.slice none 0 0, .slice none 0 0] (0, 0) _ rfl (blk_put (blk_put (HRK.out) 0 _ rfl) 1 _ rfl) Try.underlying30 rfl (by kernel_rfl)) rfl ?_
          exact BuildPost.err (HB0.out.trans (HDI2.out er (by rw [HCC.out, HIT.out]; simp only; rw [if_neg (by decide), if_neg HER.out]))) (by repeat (first | (with_reducible exact HB6.out) | refine Below.setCell ?_ (by simp) _))
      · cases hh : Maps.has D (kS x.f1)
        · have HH := Lib.hid (HHAS.out.symm.trans hh)
          go_wp2_with fail
          refine bodyPost_ret (results_ct rfl _ _ w.heap.size 30 #[.slice none 0 0, .slice none 0 0] (0, 0) _ rfl (blk_put (blk_put (blk_drewN HRK.out _) 0 _ rfl) 1 _ rfl) Try.underlying30 rfl (by kernel_rfl)) rfl ?_
          exact BuildPost.err (HB0.out.trans (HDI2.out 5 (by rw [HNB.out, HH.out]; rfl))) (by repeat (first | (with_reducible exact (pw_below_drewN HBF.out n5)) | refine Below.setCell ?_ (by simp) _))
        have HCC : Hid ((namedB x.f0 && !hasN L x.f1) = false) := Lib.hid (by rw [HNB.out, ← HHAS.out, hh]; rfl)
        go_wp2_with fail
        refine (item_any w.heap.size w2.heap.size vw vr c x dst _ (HC4.out.below (pw_below_drewN (Below.refl _ _) n5)) (by have := HREL.out.len; omega) (by have := HREL.out.len; omega) ht0 (by omega) hk0 hk1).mono ?_
        obtain ⟨⟨er, c'⟩, hit⟩ : ∃ p, itemR c x dst = p := ⟨_, rfl⟩
        have HIT := Lib.hid hit
        rw [hit]
        clear hit
        rintro e w6 ⟨vw6, vr6, rfl, hC6, hb6, hk6⟩
        have hlen6 := item_len c x dst
        rw [HIT.out] at hlen6
        have hl6 : c'.1.length ≤ c.1.length + 2 ∧ c'.2.length ≤ c.2.length + 1 := hlen6
        have HL6 := Lib.hid hl6
        clear hl6
        have HC6 := Lib.hid hC6
        have HB6 := Lib.hid ((pw_below_drewN HBF.out n5).trans hb6)
        have HK6 := Lib.hid ((HK4.out.trans (KM.of_below (pw_below_drewN (Below.refl _ _) n5))).trans hk6)
        have HS6 := Lib.hid (Nat.le_trans HS4.out hb6.size)
        clear hlen6 hC6 hb6 hk6 hy0 hy1 hf0 hf1 hz0 hz1 hz2 hz3 hz4 hz5 hz6 hz7 HRK
        by_cases her : er = 0
        · subst her
          go_wp2_with fail
          go_roundw
          case rel => exact ⟨i + 1, c', vw6, vr6, rfl, by omega, by omega, ⟨⟨by rw [HST2.out, HCC.out, HIT.out]; rfl, ⟨by have := HL6.out; have := HREL.out.len; omega, by have := HL6.out; have := HREL.out.len; omega⟩, HC6.out, HK6.out, HB6.out, HS6.out⟩⟩⟩
          case measure => simp [intOf]; omega
        · have hne : (er == 0) = false := beq_eq_false_iff_ne.mpr her
          have HER := Lib.hid her
          clear her
          have hrk : w6.heap[w.heap.size]? = some (.cells #[.slice none 0 0, .slice none 0 0] 30 (0, 0)) := HK6.out _ _ (blk_alloc HBK.out _) (by omega) (by rintro ⟨cur, e, f, h, ht⟩; cases h; revert ht; decide)
          have HRK := Lib.hid hrk
          have hy0 : w6.cell? ⟨w.heap.size, 0, none⟩ = some (.slice none 0 0) := blk_c hrk 0 rfl
          have hy1 : w6.cell? ⟨w.heap.size, 1, none⟩ = some (.slice none 0 0) := blk_c hrk 1 rfl
          have hf0 : w6.frozen? ⟨w.heap.size, 0, none⟩ = false := blk_frozen hrk 0
          have hf1 : w6.frozen? ⟨w.heap.size, 1, none⟩ = false := blk_frozen hrk 1
          clear hrk
          go_wp2_with fail
          refine bodyPost_ret (results_ct rfl _ _ w.heap.size 30 #[.slice none 0 0, .slice none 0 0] (0, 0) _ rfl (blk_put (blk_put (HRK.out) 0 _ rfl) 1 _ rfl) Try.underlying30 rfl (by kernel_rfl)) rfl ?_
          exact BuildPost.err (HB0.out.trans (HDI2.out er (by rw [HCC.out, HIT.out]; simp only; rw [if_neg (by decide), if_neg HER.out]))) (by repeat (first | (with_reducible exact HB6.out) | refine Below.setCell ?_ (by simp) _))
    · have hd : decide (i < (l.length : Int)) = false := decide_eq_false hlt
      have he : i.toNat = l.length := by omega
      have HE := Lib.hid he
      clear he
      have hg0 : wr.cell? ⟨w2.heap.size, 0, none⟩ = some vw := blk_c HREL.out.code.blk 0 rfl
      have hg1 : wr.cell? ⟨w2.heap.size, 1, none⟩ = some vr := blk_c HREL.out.code.blk 1 rfl
      have hrk : wr.heap[w.heap.size]? = some (.cells #[.slice none 0 0, .slice none 0 0] 30 (0, 0)) := HREL.out.keep _ _ (blk_alloc HBK.out _) (by omega) (by rintro ⟨cur, e, f, h, ht⟩; cases h; revert ht; decide)
      have HRK := Lib.hid hrk
      have hy0 : wr.cell? ⟨w.heap.size, 0, none⟩ = some (.slice none 0 0) := blk_c hrk 0 rfl
      have hy1 : wr.cell? ⟨w.heap.size, 1, none⟩ = some (.slice none 0 0) := blk_c hrk 1 rfl
      have hf0 : wr.frozen? ⟨w.heap.size, 0, none⟩ = false := blk_frozen hrk 0
      have hf1 : wr.frozen? ⟨w.heap.size, 1, none⟩ = false := blk_frozen hrk 1
      clear hrk
      obtain ⟨A1, c1, hv1⟩ := own_slice HREL.out.code.W
      obtain ⟨A2, c2, hv2⟩ := own_slice HREL.out.code.R
      subst hv1 hv2
      go_wp2_with fail
      refine bodyPost_ret (results_ct rfl _ _ w.heap.size 30 #[.slice A1 c.1.length c1, .slice A2 c.2.length c2] (0, 0) _ rfl (blk_put (blk_put HRK.out 0 _ rfl) 1 _ rfl) Try.underlying30 rfl (by kernel_rfl)) rfl ?_
      have hn1 := own_ne_blk HREL.out.code.W HRK.out (by decide)
      have hn2 := own_ne_blk HREL.out.code.R HRK.out (by decide)
      exact BuildPost.ok (c := c) (HB0.out.trans (by rw [← (show buTo L (l.take i.toNat) = buTo L l from by rw [HE.out, List.take_length])]; exact HREL.out.done)) ((HREL.out.low.setCell (Nat.le_refl _) _).setCell (Nat.le_refl _) _) _ _
        (own_other (own_other HREL.out.code.W (grown_set _ _ _ _) (Or.inr (fun e => hn1 e.symm))) (grown_set _ _ _ _) (Or.inr (fun e => hn1 e.symm)))
        (own_other (own_other HREL.out.code.R (grown_set _ _ _ _) (Or.inr (fun e => hn2 e.symm))) (grown_set _ _ _ _) (Or.inr (fun e => hn2 e.symm)))

end Go.Proofs.Ythnbpbmbpggadaa.Mine
