/- The row of AsmLeads. -/
import Derived.Test.YthnbpbmbpggadaaRows
import Derived.Test.YthnbpbmbpggadaaMLaw
import Derived.WalkKit
import Derived.ProofKit
import Derived.OpenShut
import Derived.ShutString
import Derived.ChangeOld
import Derived.Below
import Derived.SizedLaws
import Derived.Deep.Slices
import Derived.Deep.Fields
import Derived.ChangeSame
import Derived.ChangeArms
namespace Go.Proofs.Ythnbpbmbpggadaa.Mine
open Go.RowKit Go.Proofs.YthnbpbmbpggadaaW.PrintWords Go.Proofs.YthnbpbmbpggadaaW.PrintLast Go.Proofs.YthnbpbmbpggadaaW.PrintMore
open Go.Proofs.Ythnbpbmbpggadaa.PAsmLeads
open Go.ChangeShapes Go.WideShapes Go.Deep Go.ChangeAt
open Go.ChangeMaps (open_string shut_string)
set_option linter.unusedSimpArgs false
set_option linter.unusedVariables false
theorem list8 {α : Type} {l : List α} (h : l.length = 8) : ∃ a b c d e f g i, l = [a, b, c, d, e, f, g, i] := by
  match l, h with
  | [a, b, c, d, e, f, g, i], _ => exact ⟨a, b, c, d, e, f, g, i, rfl⟩
theorem list5 {α : Type} {l : List α} (h : l.length = 5) : ∃ a b c d e, l = [a, b, c, d, e] := by
  match l, h with
  | [a, b, c, d, e], _ => exact ⟨a, b, c, d, e, rfl⟩
theorem c41 : Try.prog.cellsOf 41 = 8 := by kernel_rfl
theorem c38 : Try.prog.cellsOf 38 = 5 := by kernel_rfl
theorem c3 : Try.prog.cellsOf 3 = 1 := by kernel_rfl
theorem c9 : Try.prog.cellsOf 9 = 1 := by kernel_rfl
theorem c39 : Try.prog.cellsOf 39 = 1 := by kernel_rfl
section
variable {H : Type} {enc : TypeId × Value → H} {w : World} {base : Nat} {spare : Nat → Bool} {held : Bool}
/-- an instruction's cells, opened -/
theorem open_inst {fuel : Nat} {cs : List Value} {y : DataW H × List MemPlace} (h : DataW.trod enc Try.prog w base spare held fuel 38 cs = some y) :
    ∃ x : S38, cs = [.int .i64 x.f0, .int .i64 x.f1, .int .i64 x.f2, .int .i64 x.f3, .int .i64 x.f4] := by
  obtain ⟨ys, n, _, _, hlen, hyl, hf⟩ := DataW.trod_struct Try.underlying38 h
  rw [c38] at hlen
  obtain ⟨c0, c1, c2, c3', c4, rfl⟩ := list5 hlen
  · skip
    have g0 : DataW.trod enc Try.prog w base spare held n 3 (([c0, c1, c2, c3', c4].drop 0).take (Try.prog.cellsOf 3)) = ys[0]? := hf 0 _ rfl
    rw [c3] at g0
    have g1 : DataW.trod enc Try.prog w base spare held n 3 (([c0, c1, c2, c3', c4].drop 1).take (Try.prog.cellsOf 3)) = ys[1]? := hf 1 _ rfl
    rw [c3] at g1
    have g2 : DataW.trod enc Try.prog w base spare held n 3 (([c0, c1, c2, c3', c4].drop 2).take (Try.prog.cellsOf 3)) = ys[2]? := hf 2 _ rfl
    rw [c3] at g2
    have g3 : DataW.trod enc Try.prog w base spare held n 3 (([c0, c1, c2, c3', c4].drop 3).take (Try.prog.cellsOf 3)) = ys[3]? := hf 3 _ rfl
    rw [c3] at g3
    have g4 : DataW.trod enc Try.prog w base spare held n 3 (([c0, c1, c2, c3', c4].drop 4).take (Try.prog.cellsOf 3)) = ys[4]? := hf 4 _ rfl
    rw [c3] at g4
    obtain ⟨y0, g0⟩ : ∃ q, DataW.trod enc Try.prog w base spare held n 3 [c0] = some q := ⟨_, g0.trans (List.getElem?_eq_getElem (by rw [hyl]; decide))⟩
    obtain ⟨y1, g1⟩ : ∃ q, DataW.trod enc Try.prog w base spare held n 3 [c1] = some q := ⟨_, g1.trans (List.getElem?_eq_getElem (by rw [hyl]; decide))⟩
    obtain ⟨y2, g2⟩ : ∃ q, DataW.trod enc Try.prog w base spare held n 3 [c2] = some q := ⟨_, g2.trans (List.getElem?_eq_getElem (by rw [hyl]; decide))⟩
    obtain ⟨y3, g3⟩ : ∃ q, DataW.trod enc Try.prog w base spare held n 3 [c3'] = some q := ⟨_, g3.trans (List.getElem?_eq_getElem (by rw [hyl]; decide))⟩
    obtain ⟨y4, g4⟩ : ∃ q, DataW.trod enc Try.prog w base spare held n 3 [c4] = some q := ⟨_, g4.trans (List.getElem?_eq_getElem (by rw [hyl]; decide))⟩
    obtain ⟨n0, e0, _⟩ := DataW.trod_int Try.underlying3 g0
    obtain ⟨n1, e1, _⟩ := DataW.trod_int Try.underlying3 g1
    obtain ⟨n2, e2, _⟩ := DataW.trod_int Try.underlying3 g2
    obtain ⟨n3, e3, _⟩ := DataW.trod_int Try.underlying3 g3
    obtain ⟨n4, e4, _⟩ := DataW.trod_int Try.underlying3 g4
    injection e0 with e0; injection e1 with e1; injection e2 with e2; injection e3 with e3; injection e4 with e4
    exact ⟨⟨n0, n1, n2, n3, n4⟩, by rw [e0, e1, e2, e3, e4]⟩
/-- an item's cells, opened -/
theorem open_item {fuel : Nat} {cs : List Value} {y : DataW H × List MemPlace} (h : DataW.trod enc Try.prog w base spare held fuel 41 cs = some y) :
    ∃ x : S41, cs = cells41 x ∧ x.f1.size ≤ maxLen := by
  obtain ⟨ys, n, _, _, hlen, hyl, hf⟩ := DataW.trod_struct Try.underlying41 h
  rw [c41] at hlen
  obtain ⟨c0, c1, c2, c3', c4, c5, c6, c7, rfl⟩ := list8 hlen
  · skip
    have g0 : DataW.trod enc Try.prog w base spare held n 3 (([c0, c1, c2, c3', c4, c5, c6, c7].drop 0).take (Try.prog.cellsOf 3)) = ys[0]? := hf 0 _ rfl
    rw [c3] at g0
    have g1 : DataW.trod enc Try.prog w base spare held n 9 (([c0, c1, c2, c3', c4, c5, c6, c7].drop 1).take (Try.prog.cellsOf 9)) = ys[1]? := hf 1 _ rfl
    rw [c9] at g1
    have g2 : DataW.trod enc Try.prog w base spare held n 38 (([c0, c1, c2, c3', c4, c5, c6, c7].drop 2).take (Try.prog.cellsOf 38)) = ys[2]? := hf 2 _ rfl
    rw [c38] at g2
    have g3 : DataW.trod enc Try.prog w base spare held n 39 (([c0, c1, c2, c3', c4, c5, c6, c7].drop 7).take (Try.prog.cellsOf 39)) = ys[3]? := hf 3 _ rfl
    rw [c39] at g3
    obtain ⟨y0, g0⟩ : ∃ q, DataW.trod enc Try.prog w base spare held n 3 [c0] = some q := ⟨_, g0.trans (List.getElem?_eq_getElem (by rw [hyl]; decide))⟩
    obtain ⟨y1, g1⟩ : ∃ q, DataW.trod enc Try.prog w base spare held n 9 [c1] = some q := ⟨_, g1.trans (List.getElem?_eq_getElem (by rw [hyl]; decide))⟩
    obtain ⟨y2, g2⟩ : ∃ q, DataW.trod enc Try.prog w base spare held n 38 [c2, c3', c4, c5, c6] = some q := ⟨_, g2.trans (List.getElem?_eq_getElem (by rw [hyl]; decide))⟩
    obtain ⟨y3, g3⟩ : ∃ q, DataW.trod enc Try.prog w base spare held n 39 [c7] = some q := ⟨_, g3.trans (List.getElem?_eq_getElem (by rw [hyl]; decide))⟩
    obtain ⟨n0, e0, _⟩ := DataW.trod_int Try.underlying3 g0
    obtain ⟨s, e1, _, hs⟩ := DataW.trod_string Try.underlying9 g1
    obtain ⟨v, e2⟩ := open_inst g2
    obtain ⟨n3, e3, _⟩ := DataW.trod_int Try.underlying39 g3
    injection e0 with e0; injection e1 with e1; injection e3 with e3
    refine ⟨⟨n0, s, v, n3⟩, ?_, hs⟩
    injection e2 with f0 e2; injection e2 with f1 e2; injection e2 with f2 e2; injection e2 with f3 e2; injection e2 with f4 e2
    rw [e0, e1, e3, f0, f1, f2, f3, f4]
    rfl
/-- a slice of items, opened -/
theorem open_items {a : Option Addr} {len cap : Nat} {d : DataW H} {p : List MemPlace} (h : DataW.Trod enc Try.prog w base spare held 22 (.slice a len cap) d p) :
    ∃ l : List S41, l.length = len ∧ len ≤ cap ∧ Kd.C k41 w a l.length l ∧ (∀ x ∈ l, x.f1.size ≤ maxLen) ∧ (len = 0 ∨ ∃ es sp, d = .slice es sp ∧ len ≤ es.length) := by
  obtain ⟨fuel, hf⟩ := h
  rcases open_slice Try.underlying22 hf with ⟨hcs, _⟩ | ⟨ad, l0, c0, m, n, D, Pl, hcs, _, hl, hm, hmm, hx, hi⟩
  · simp [Value.cells] at hcs
    obtain ⟨rfl, rfl, rfl⟩ := hcs
    exact ⟨[], rfl, Nat.le_refl _, ⟨rfl, by simp, fun h => absurd h (by decide)⟩, by simp, .inl rfl⟩
  · simp [Value.cells] at hcs
    obtain ⟨rfl, rfl, rfl⟩ := hcs
    have hlm : len ≤ m := by rw [hmm]; split <;> omega
    have hall : ∀ i, i < len → ∃ x : S41, w.cells? base (ad.add (i * 8)) 8 = some (cells41 x) ∧ x.f1.size ≤ maxLen := by
      intro i hil
      obtain ⟨cs, hc, ht⟩ := hi i (by omega)
      rw [c41] at hc
      obtain ⟨x, rfl, hsz⟩ := open_item ht
      exact ⟨x, hc, hsz⟩
    let g : Nat → S41 := fun i => if hil : i < len then Classical.choose (hall i hil) else z41
    have hg : ∀ i, i < len → w.cells? base (ad.add (i * 8)) 8 = some (cells41 (g i)) ∧ (g i).f1.size ≤ maxLen := by
      intro i hil
      have := Classical.choose_spec (hall i hil)
      simp only [g, dif_pos hil]
      exact this
    have hd : d = .slice ((List.range len).map D) ((List.range (m - len)).map fun j => D (len + j)) := (Prod.mk.inj hx).1
    refine ⟨(List.range len).map g, by simp, hl, ⟨by simp, by simp; unfold maxLen at hm; omega, fun h => ⟨ad, rfl, fun j p hj => ?_⟩⟩, ?_, .inr ⟨_, _, hd, by simp⟩⟩
    · have hjl : j < len := by
        rcases Nat.lt_or_ge j len with h | h
        · exact h
        · rw [List.getElem?_eq_none (by simpa using h)] at hj; cases hj
      have hjg : p = g j := by
        rw [List.getElem?_map, List.getElem?_range hjl] at hj
        injection hj with hj
        exact hj.symm
      subst hjg
      refine ⟨cells41 (g j), rfl, k41_mk w (g j), fun i u hu => ?_⟩
      have hc := (World.cells?_some (hg j hjl).1).2.2
      have hi8 : i < 8 := by
        rcases Nat.lt_or_ge i 8 with h | h
        · exact h
        · rw [List.getElem?_eq_none h] at hu; cases hu
      have := hc i hi8
      rw [← Go.Deep.add_add]
      have h2 : w.cell? ((ad.add (j * 8)).add i) = some u := by rw [this]; exact hu
      exact h2
    · intro x hx'
      rw [List.mem_map] at hx'
      obtain ⟨i, hi', rfl⟩ := hx'
      exact (hg i (by simpa using hi')).2
end
theorem bytes41 : Try.prog.bytesOf 41 = 72 := by kernel_rfl
theorem laidOut : laidOutB Try.prog = true := by kernel_rfl
theorem own : ownKnob Try.prog.godebug = none := by kernel_rfl
set_option maxRecDepth 100000 in
theorem lifted (os : Os) (started : os.Started) (H : Type) (enc : TypeId × Value → H) :
    ReturnsInHanded {} Try.checked os 3 .any (Rows.asmLeadsSpec.pre6 enc Try.prog Try.f3 Rows.asmLeadsRow.domain false) (Rows.asmLeadsSpec.post enc Try.prog Try.f3 false true false false) := by
  refine returnsInHanded_of_change_sized (C := Try.checked) own started (by kernel_rfl) Try.func3
    (ChangeSpec.witness6 (enc := enc) (C := Try.checked) false ⟨#[], #[.slice none 0 0], []⟩ 8 (by kernel_rfl) (by kernel_rfl) (by kernel_rfl) (by kernel_rfl)) ?_
  intro W base args ds gs before hval0 hW hcnd hsz0 _
  have hsz : (DataW.weightsEach Try.prog (Try.f3.params.toList ++ Rows.asmLeadsSpec.plain.varTypes Try.prog) (ds ++ gs)).all (· ≤ reachBytes) = true := hsz0
  have hval : ∀ (j : Nat) t v, Try.f3.params[j]? = some t → args[j]? = some v → Value.okWide Try.prog W .any base t v := hval0
  have hW' := hW
  obtain ⟨p, q, hA0, hV, rfl, hfz, hnd⟩ := hW
  have hA : DataW.TrodAll enc Try.prog W 0 (fun _ => true) true Try.f3.params.toList args.toList ds p := hA0
  rw [Try.params3] at hA hval hsz
  obtain ⟨v0, vs0, d0, ds0, p0, q0, hargs, rfl, rfl, h0, r0⟩ := trodAll_cons hA
  obtain ⟨rfl, rfl, rfl⟩ := trodAll_nil r0
  obtain rfl : args = #[v0] := by cases args; simp_all
  obtain ⟨rfl, rfl⟩ := trodVars_none hV
  obtain ⟨a0, len0, cap0, rfl⟩ := okWide_slice Try.underlying22 (hval 0 22 v0 rfl rfl)
  have k0 := h0
  have lt0 : ∀ x ∈ p0, x.block < W.heap.size := by obtain ⟨m, hm⟩ := k0; exact DataW.trod_lt m _ _ _ hm
  obtain ⟨l, rfl, hcap, hC, hS, hd⟩ := open_items h0
  have hlen : l.length < 1954687338268 := by
    rcases hd with h | ⟨es, sp, rfl, hes⟩
    · omega
    · have z := sized_slice hsz (j := 0) (t := 22) rfl rfl Try.underlying22
      rw [bytes41] at z
      unfold reachBytes at z
      omega
  clear hA0 hval0 hsz0 hsz
  refine (law_any a0 cap0 l W hC hcap hlen hS).mono fun e W' ⟨he, bel⟩ => ?_
  subst he
  exact ⟨_, rfl, _, _, _, [], _, [], hW', trodAll_mk1 (shut_bool Try.underlying4 _), (trodAll_cons_mk (Below.trod laidOut (by kernel_rfl) (of_decide_eq_true (by kernel_rfl)) k0 bel lt0) trodAll_mk0), rfl, bel.frame _, fun h => by cases h⟩
theorem over : Rows.asmLeadsRow.holds Try.pinned (OpenSpec.ofChange Rows.asmLeadsSpec) :=
  OpenClaim.holds_of_wide 3 Try.f3 rfl rfl rfl rfl rfl rfl rfl ⟨rfl, rfl, rfl, rfl, rfl⟩ rfl rfl rfl rfl rfl (by kernel_rfl) Try.func3 (by kernel_rfl)
    (of_decide_eq_true (by kernel_rfl)) (by unfold Func.isWrapper; first | (rw [if_pos (by decide +kernel)]; kernel_rfl) | (rw [if_neg (by decide +kernel)]; exact ⟨rfl, rfl⟩))
    (fun os started H enc _ => lifted os started H enc)
end Go.Proofs.Ythnbpbmbpggadaa.Mine
namespace Go.Proofs.Ythnbpbmbpggadaa
/-- The row, under a short name, for the claim. -/
theorem asmLeads_holds : Rows.AsmLeadsSaid := Mine.over
#print axioms asmLeads_holds
end Go.Proofs.Ythnbpbmbpggadaa
