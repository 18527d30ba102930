/- Places in plain lists, and what a map tells of them. -/
import Derived.Test.YthnbpbmbpggadaaMBad
import Derived.Maps.Own
import Derived.Maps.OwnOps
import Derived.Maps.OwnSet
import Derived.Maps.Views
namespace Go.Proofs.Ythnbpbmbpggadaa.Mine
open Go.RowKit Go.Proofs.YthnbpbmbpggadaaW.PrintWords Go.Proofs.YthnbpbmbpggadaaW.PrintLast Go.Proofs.YthnbpbmbpggadaaW.PrintMore
open Go.Proofs.Ythnbpbmbpggadaa.PAsmLeads
open Go.WideMaps Go.Maps
set_option linter.unusedSimpArgs false
set_option linter.unusedVariables false

def kS (s : ByteArray) : Lit := .string s.data.toList
theorem kS_inj {a b : ByteArray} (h : kS a = kS b) : a = b := by
  unfold kS at h; injection h with h
  cases a; cases b; congr 1; exact Array.ext' h
theorem kS_key (s : ByteArray) : WideAt.IsKeyLit (kS s) := trivial
abbrev Names := List (ByteArray × Int)
def hasN (L : Names) (s : ByteArray) : Bool := L.any fun p => decide (p.1 = s)
def lookN (L : Names) (s : ByteArray) : Int := ((L.find? fun p => decide (p.1 = s)).map (·.2)).getD 0
structure Tells (D : DataW Unit) (L : Names) : Prop where
  tidy : Tidy D
  has : ∀ s, Maps.has D (kS s) = hasN L s
  get : ∀ s, D.atKey (kS s) (.lit (.int .i64 0)) = .lit (.int .i64 (lookN L s))
  size : Maps.size D = L.length
theorem Tells.nil : Tells (.map []) [] := ⟨tidy_empty, fun s => rfl, fun s => atKey_of_not_has rfl _, rfl⟩
theorem Tells.put {D : DataW Unit} {L : Names} (h : Tells D L) (s : ByteArray) (n : Int) (hn : hasN L s = false) : Tells (D.put (kS s) (.lit (.int .i64 n))) (L ++ [(s, n)]) := by
  have hnone : L.find? (fun p => decide (p.1 = s)) = none := by
    rw [List.find?_eq_none]
    intro p hp
    have := List.any_eq_false.mp hn p hp
    simpa using this
  refine ⟨h.tidy.put (kS_key s) _, fun t => ?_, fun t => ?_, ?_⟩
  · by_cases e : t = s
    · subst e
      rw [has_put_same h.tidy.isMap (kS_key t)]
      simp [hasN]
    · rw [has_put_other (fun hk => e (kS_inj hk)), h.has]
      unfold hasN
      rw [List.any_append]
      simp [Ne.symm e]
  · by_cases e : t = s
    · subst e
      rw [atKey_put_same h.tidy.isMap (kS_key t)]
      unfold lookN
      rw [List.find?_append, hnone]
      simp
    · rw [atKey_put_other (fun hk => e (kS_inj hk)), h.get]
      unfold lookN
      rw [List.find?_append]
      cases hf : L.find? (fun p => decide (p.1 = t)) with
      | some p => simp
      | none => simp [Ne.symm e]
  · rw [size_put h.tidy, h.has, hn, h.size]
    simp

/-- a step of Places: the labels' places so far, and the next place; none: a label that is there already -/
def plStep (st : Option (Names × Int)) (x : S41) : Option (Names × Int) :=
  match st with
  | none => none
  | some (L, at_) => if x.f0 = 0 then (if hasN L x.f1 = true then none else some (L ++ [(x.f1, at_)], at_)) else some (L, at_ + 4 * (if x.f0 = 3 then 2 else 1))
def plTo (l : List S41) : Option (Names × Int) := l.foldl plStep (some ([], 0))
theorem pl_none (l : List S41) : l.foldl plStep none = none := by
  induction l with
  | nil => rfl
  | cons x t ih => exact ih
theorem pl_snoc (l : List S41) (x : S41) : plTo (l ++ [x]) = plStep (plTo l) x := by unfold plTo; rw [List.foldl_append]; rfl
theorem take_snoc (l : List S41) (i : Int) (h0 : 0 ≤ i) (h1 : i < l.length) : l.take (i + 1).toNat = l.take i.toNat ++ [rd_T41 l i] := by
  have e : (i + 1).toNat = i.toNat + 1 := by omega
  have hl : i.toNat < l.length := by omega
  rw [e, List.take_succ_eq_append_getElem hl]
  unfold rd_T41
  rw [List.getD_eq_getElem?_getD, List.getElem?_eq_getElem hl]
  rfl
theorem pl_step {l : List S41} {i : Int} (h0 : 0 ≤ i) (h1 : i < l.length) : plTo (l.take (i + 1).toNat) = plStep (plTo (l.take i.toNat)) (rd_T41 l i) := by
  rw [take_snoc l i h0 h1, pl_snoc]
theorem pl_dies {l : List S41} {i : Int} (h0 : 0 ≤ i) (h1 : i < l.length) (h : plStep (plTo (l.take i.toNat)) (rd_T41 l i) = none) : plTo l = none := by
  have e : l = l.take (i + 1).toNat ++ l.drop (i + 1).toNat := (List.take_append_drop _ _).symm
  rw [e]
  unfold plTo
  rw [List.foldl_append]
  show List.foldl plStep (plTo _) _ = none
  rw [pl_step h0 h1, h, pl_none]

def doneN : Option (Names × Int) → Except Int Names
  | none => .error 7
  | some p => .ok p.1
/-- what Places answers: an error's number, or the labels' places -/
def placesR (l : List S41) : Except Int Names :=
  if 4096 < l.length then .error 4 else if l.any badB = true then .error 1 else
  doneN (plTo l)
theorem law34 : Keyed Try.prog 9 := string_keyed Try.underlying9
theorem zero3 (w : World) : (zeroValue 3).run Try.prog w = .ok (.int .i64 0) w := by kernel_rfl
end Go.Proofs.Ythnbpbmbpggadaa.Mine
