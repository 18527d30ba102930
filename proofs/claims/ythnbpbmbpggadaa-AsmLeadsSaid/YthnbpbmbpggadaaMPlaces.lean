/- What asm.Places answers. -/
import Derived.Test.YthnbpbmbpggadaaMNames
namespace Go.Proofs.Ythnbpbmbpggadaa.Mine
open Go.RowKit Go.Proofs.YthnbpbmbpggadaaW.PrintWords Go.Proofs.YthnbpbmbpggadaaW.PrintLast Go.Proofs.YthnbpbmbpggadaaW.PrintMore
open Go.Proofs.Ythnbpbmbpggadaa.PAsmLeads
open Go.WideMaps Go.Maps
set_option linter.unusedSimpArgs false
set_option linter.unusedVariables false

def PlacesPost (l : List S41) (w : World) (e : Ending) (w' : World) : Prop :=
  Below w.heap.size w w' ∧ match placesR l with
  | .error c => e = .returned (.tuple #[.map none, .int .i64 c])
  | .ok L => ∃ b D, e = .returned (.tuple #[.map (some b), .int .i64 0]) ∧ w.heap.size ≤ b ∧ w'.ownsMap Try.prog 9 (plainElem Try.prog 3) b l.length D ∧ Tells D L
theorem PlacesPost.err {l : List S41} {w w' : World} {c : Int} (h : placesR l = .error c) (hb : Below w.heap.size w w') : PlacesPost l w (.returned (.tuple #[.map none, .int .i64 c])) w' := by
  unfold PlacesPost; rw [h]; exact ⟨hb, rfl⟩
theorem PlacesPost.ok {l : List S41} {w w' : World} {L : Names} (h : placesR l = .ok L) (hb : Below w.heap.size w w') (b : Nat) (D : DataW Unit) (h1 : w.heap.size ≤ b) (h2 : w'.ownsMap Try.prog 9 (plainElem Try.prog 3) b l.length D) (h3 : Tells D L) :
    PlacesPost l w (.returned (.tuple #[.map (some b), .int .i64 0])) w' := by
  unfold PlacesPost; rw [h]; exact ⟨hb, b, D, rfl, h1, h2, h3⟩

theorem rd_mem {l : List S41} {i : Int} (h0 : 0 ≤ i) (h1 : i < l.length) : rd_T41 l i ∈ l := by
  unfold rd_T41
  have hl : i.toNat < l.length := by omega
  rw [List.getD_eq_getElem?_getD, List.getElem?_eq_getElem hl]
  exact List.getElem_mem hl
theorem own_map_lt {w : World} {b n : Nat} {D : DataW Unit} (h : w.ownsMap Try.prog 9 (plainElem Try.prog 3) b n D) : b < w.heap.size := by
  obtain ⟨es, c, hb, _⟩ := h; exact blk_lt hb
theorem own_map_at {w : World} {b n m : Nat} {D : DataW Unit} (h : w.ownsMap Try.prog 9 (plainElem Try.prog 3) b n D) (e : n = m) : w.ownsMap Try.prog 9 (plainElem Try.prog 3) b m D := e ▸ h
theorem own_map_more {w : World} {b n m : Nat} {D : DataW Unit} (h : w.ownsMap Try.prog 9 (plainElem Try.prog 3) b n D) (e : n ≤ m) : w.ownsMap Try.prog 9 (plainElem Try.prog 3) b m D := by
  obtain ⟨es, c, h1, h2, h3, h4⟩ := h; exact ⟨es, c, h1, h2, Nat.le_trans h3 e, h4⟩
theorem words_any (x : S41) (w : World) :
    Calls Try.prog 58 #[.agg #[.int .i64 x.f0, .string x.f1, .int .i64 x.f2.f0, .int .i64 x.f2.f1, .int .i64 x.f2.f2, .int .i64 x.f2.f3, .int .i64 x.f2.f4, .int .u32 x.f3]] w fun e w' =>
      e = .returned (.int .i64 (if x.f0 = 0 then 0 else if x.f0 = 3 then 2 else 1)) ∧ Below w.heap.size w w' :=
  asm_Item_words.calls _ _ _ _ _ _ _ _ _ w (by unfold asm_Item_words.f; split; rfl; split <;> rfl)

set_option maxHeartbeats 800000 in
theorem places_long (A : Option Addr) (cap : Nat) (l : List S41) (w : World) (hr : Kd.C k41 w A l.length l) (h : 4096 < l.length) :
    Calls Try.prog 16 #[.slice A l.length cap] w (PlacesPost l w) := by
  have hl := len41 hr
  clear hr
  have hp : placesR l = .error 4 := by unfold placesR; rw [if_pos h]
  have HP := Lib.hid hp
  clear hp
  go_enter Try.func16, Try.ntmps16
  go_wp2_with fail
  go_ret2
  exact PlacesPost.err HP.out (by repeat (first | exact Below.refl _ _ | apply below_alloc | apply pw_below_drewN | apply below_drew))

set_option maxHeartbeats 800000 in
theorem places_bad (A : Option Addr) (cap : Nat) (l : List S41) (w : World) (hr : Kd.C k41 w A l.length l) (h : l.length ≤ 4096) (hb : l.any badB = true) :
    Calls Try.prog 16 #[.slice A l.length cap] w (PlacesPost l w) := by
  have HR := Lib.hid hr
  clear hr
  have hp : placesR l = .error 1 := by unfold placesR; rw [if_neg (by omega), if_pos hb]
  have HP := Lib.hid hp
  have HBD := Lib.hid hb
  clear hp hb
  go_enter Try.func16, Try.ntmps16
  go_wp2_with fail
  refine (contains_any A cap l _ HR.out).mono ?_
  rw [HBD.out]
  rintro e w1 ⟨rfl, hb⟩
  go_wp2_with fail
  go_ret2
  exact PlacesPost.err HP.out hb

set_option maxHeartbeats 1600000 in
set_option maxRecDepth 100000 in
theorem places_good (A : Option Addr) (cap : Nat) (l : List S41) (w : World) (hr : Kd.C k41 w A l.length l) (h : l.length ≤ 4096) (hb : l.any badB = false) (hsz : ∀ x ∈ l, x.f1.size ≤ maxLen) :
    Calls Try.prog 16 #[.slice A l.length cap] w (PlacesPost l w) := by
  have HR := Lib.hid hr
  clear hr
  have HP : Hid (placesR l = doneN (plTo l)) := Lib.hid (by unfold placesR; rw [if_neg (by omega), if_neg (by rw [hb]; decide)])
  have HBD := Lib.hid hb
  have HSZ := Lib.hid hsz
  clear hb hsz
  have hmm := @run_makeMap Try.prog
  go_enter Try.func16, Try.ntmps16
  go_wp2_with fail
  refine (contains_any A cap l _ HR.out).mono ?_
  rw [HBD.out]
  rintro e w1 ⟨rfl, hb⟩
  have HB1 := Lib.hid hb
  clear hb
  go_wp2_with fail
  go_loopw [5, 18] (fun v5 v18 w' => ∃ (i at_ : Int) (L : Names) (D : DataW Unit), v18 = .int .i64 i ∧ v5 = .int .i64 at_ ∧ 0 ≤ i ∧ i ≤ l.length ∧ 0 ≤ at_ ∧ at_ ≤ 8 * i ∧
    Aside0 (plTo (l.take i.toNat) = some (L, at_)) ∧ Aside0 (Tells D L) ∧ Aside0 (w'.ownsMap Try.prog 9 (plainElem Try.prog 3) w1.heap.size i.toNat D) ∧ Aside0 (Below w.heap.size w w')) (fun _ v _ => l.length - (intOf v).toNat)
  case atStart => exact ⟨0, 0, [], .map [], rfl, rfl, Int.le_refl _, by omega, Int.le_refl _, by omega, ⟨rfl⟩, ⟨Tells.nil⟩, ⟨World.ownsMap_made _ _ _ _⟩, ⟨below_alloc HB1.out _⟩⟩
  case round =>
    obtain ⟨i, at_, L, D, rfl, rfl, h0, h1, ha0, ha1, HPL, HT, HM, HB⟩ := hrel
    by_cases hlt : i < l.length
    · have hd : decide (i < (l.length : Int)) = true := decide_eq_true hlt
      have hd0 : decide (0 ≤ i) = true := decide_eq_true h0
      obtain ⟨ad, e, hx0, hx1, hx2, hx3, hx4, hx5, hx6, hx7⟩ := at_T41 HR.out i h0 hlt
      cases e
      replace hx0 := (HB.out.cell (World.block_lt_of_cell? w _ hx0)).trans hx0
      replace hx1 := (HB.out.cell (World.block_lt_of_cell? w _ hx1)).trans hx1
      replace hx2 := (HB.out.cell (World.block_lt_of_cell? w _ hx2)).trans hx2
      replace hx3 := (HB.out.cell (World.block_lt_of_cell? w _ hx3)).trans hx3
      replace hx4 := (HB.out.cell (World.block_lt_of_cell? w _ hx4)).trans hx4
      replace hx5 := (HB.out.cell (World.block_lt_of_cell? w _ hx5)).trans hx5
      replace hx6 := (HB.out.cell (World.block_lt_of_cell? w _ hx6)).trans hx6
      replace hx7 := (HB.out.cell (World.block_lt_of_cell? w _ hx7)).trans hx7
      have hst := pl_step h0 hlt
      rw [HPL.out] at hst
      have hdie := fun h => pl_dies (l := l) h0 hlt (by rw [HPL.out]; exact h)
      obtain ⟨x, hx⟩ : ∃ x, rd_T41 l i = x := ⟨_, rfl⟩
      have hmem : x.f1.size ≤ maxLen := by rw [← hx]; exact HSZ.out _ (rd_mem h0 hlt)
      have hkey : keyOf Try.prog 9 (.string x.f1) = some (kS x.f1) := keyOf_string_mk Try.underlying9 hmem
      rw [hx] at hx0 hx1 hx2 hx3 hx4 hx5 hx6 hx7 hst hdie
      have HST := Lib.hid hst
      have HDIE := Lib.hid hdie
      have HKEY := Lib.hid hkey
      clear hst hdie hx hmem hkey
      have hbl : w1.heap.size < wr.heap.size := own_map_lt HM.out
      by_cases hk : x.f0 = 0
      · have hkb : (x.f0 == 0) = true := beq_iff_eq.mpr hk
        have HK := Lib.hid hk
        clear hk
        cases hh : Maps.has D (kS x.f1)
        · have HH := Lib.hid ((HT.out.has x.f1).symm.trans hh)
          go_wp2_with (first | (at_lookup; refine wpList_lookup_own_ok_int _ rfl _ _ 34 rfl 9 3 .i64 law34 Try.underlying34 Try.underlying3 (zero3 _) w1.heap.size i.toNat D rfl (HM.out.alloc _) _ _ rfl HKEY.out ?_; intro c hat hwc; clear hat hwc) | (at_mapUpdate; refine wpList_mapUpdate_own _ rfl _ _ _ 34 rfl 9 3 law34 Try.underlying34 _ w1.heap.size i.toNat D rfl (HM.out.alloc _) (by unfold maxLen; omega) _ _ _ rfl rfl HKEY.out _ [] (plainElem_int Try.underlying3 (WalkArith.wf_i64 (by omega))) ?_; intro w2 hown2 hgrow2; have hbx := blk_grown (blk_new wr (.cells #[.int .i64 x.f0, .string x.f1, .int .i64 x.f2.f0, .int .i64 x.f2.f1, .int .i64 x.f2.f2, .int .i64 x.f2.f3, .int .i64 x.f2.f4, .int .u32 x.f3] 41)) hgrow2 (by intro e; injection e with e; omega); have hb0 : w2.cell? ⟨wr.heap.size, 0, none⟩ = some (.int .i64 x.f0) := blk_c hbx 0 rfl; have hb1 : w2.cell? ⟨wr.heap.size, 1, none⟩ = some (.string x.f1) := blk_c hbx 1 rfl; have hb2 : w2.cell? ⟨wr.heap.size, 2, none⟩ = some (.int .i64 x.f2.f0) := blk_c hbx 2 rfl; have hb3 : w2.cell? ⟨wr.heap.size, 3, none⟩ = some (.int .i64 x.f2.f1) := blk_c hbx 3 rfl; have hb4 : w2.cell? ⟨wr.heap.size, 4, none⟩ = some (.int .i64 x.f2.f2) := blk_c hbx 4 rfl; have hb5 : w2.cell? ⟨wr.heap.size, 5, none⟩ = some (.int .i64 x.f2.f3) := blk_c hbx 5 rfl; have hb6 : w2.cell? ⟨wr.heap.size, 6, none⟩ = some (.int .i64 x.f2.f4) := blk_c hbx 6 rfl; have hb7 : w2.cell? ⟨wr.heap.size, 7, none⟩ = some (.int .u32 x.f3) := blk_c hbx 7 rfl))
          have HM2 := Lib.hid hown2
          have HB2 := Lib.hid (pw_below_grown (below_alloc HB.out (.cells #[.int .i64 x.f0, .string x.f1, .int .i64 x.f2.f0, .int .i64 x.f2.f1, .int .i64 x.f2.f2, .int .i64 x.f2.f3, .int .i64 x.f2.f4, .int .u32 x.f3] 41)) _ (by have := HB.out.size; simp; omega) hgrow2 (fun k hk => by injection hk with hk; have := HB1.out.size; omega))
          clear hown2 hgrow2 hbx
          go_wp2_with fail
          refine (words_any x _).mono ?_
          rw [if_pos HK.out]
          rintro e w3 ⟨rfl, hb3⟩
          have HB3 := Lib.hid (below_call HB2.out hb3)
          have HM3 := Lib.hid (HM2.out.kept (grown_of_below hb3 none) (by simp))
          clear hb3
          go_wp2_with fail
          go_roundw
          case rel => exact ⟨i + 1, at_, L ++ [(x.f1, at_)], D.put (kS x.f1) (.lit (.int .i64 at_)), rfl, by go_num, by omega, by omega, ha0, by omega, ⟨by rw [HST.out]; unfold plStep; simp only; rw [if_pos HK.out, if_neg (by rw [HH.out]; decide)]⟩, ⟨HT.out.put _ _ HH.out⟩, ⟨own_map_at HM3.out (show i.toNat + 1 = (i + 1).toNat by omega)⟩, ⟨HB3.out⟩⟩
          case measure => simp [intOf]; omega
        · have HH := Lib.hid ((HT.out.has x.f1).symm.trans hh)
          go_wp2_with (at_lookup; refine wpList_lookup_own_ok_int _ rfl _ _ 34 rfl 9 3 .i64 law34 Try.underlying34 Try.underlying3 (zero3 _) w1.heap.size i.toNat D rfl (HM.out.alloc _) _ _ rfl HKEY.out ?_; intro c hat hwc; clear hat hwc)
          go_ret2
          exact PlacesPost.err (by rw [HP.out, HDIE.out (by unfold plStep; simp only; rw [if_pos HK.out, if_pos HH.out])]; rfl) (by repeat (first | (with_reducible exact HB.out) | apply below_alloc | apply pw_below_drewN | apply below_drew))
      · have hkb : (x.f0 == 0) = false := beq_eq_false_iff_ne.mpr hk
        have HK := Lib.hid hk
        clear hk
        have hw0 : (0 : Int) ≤ (if x.f0 = 3 then 2 else 1) := by split <;> omega
        have hw1 : (if x.f0 = 3 then 2 else 1 : Int) ≤ 2 := by split <;> omega
        obtain ⟨n, hn⟩ : ∃ n : Int, (if x.f0 = 3 then 2 else 1 : Int) = n := ⟨_, rfl⟩
        rw [hn] at hw0 hw1
        have HN := Lib.hid hn
        clear hn
        go_wp2_with fail
        refine (words_any x _).mono ?_
        rw [if_neg HK.out, HN.out]
        rintro e w3 ⟨rfl, hb3⟩
        have HB3 := Lib.hid (below_call (below_alloc HB.out _) hb3)
        have HM3 := Lib.hid ((HM.out.alloc _).kept (grown_of_below hb3 none) (by simp))
        clear hb3
        go_wp2_with fail
        go_roundw
        case rel => exact ⟨i + 1, at_ + 4 * n, L, D, rfl, by go_num, by omega, by omega, by omega, by omega, ⟨by rw [HST.out]; unfold plStep; simp only; rw [if_neg HK.out, HN.out]⟩, ⟨HT.out⟩, ⟨own_map_more HM3.out (by omega)⟩, ⟨HB3.out⟩⟩
        case measure => simp [intOf]; omega
    · have hd : decide (i < (l.length : Int)) = false := decide_eq_false hlt
      have he : i.toNat = l.length := by omega
      have HE := Lib.hid he
      clear he
      go_wp2_with fail
      go_ret2
      exact PlacesPost.ok (L := L) (by rw [HP.out, ← (show plTo (l.take i.toNat) = plTo l from by rw [HE.out, List.take_length]), HPL.out]; rfl) HB.out w1.heap.size D HB1.out.size (by have := HM.out; rw [HE.out] at this; exact this) HT.out
end Go.Proofs.Ythnbpbmbpggadaa.Mine
