/-
  Layer 14: what came, as an object; what Take, Full, Apply say.
-/
import Derived.Test.YtidekbijkknlmaaS1
import Derived.Test.YtidekbijkknlmaaG2
set_option linter.unusedVariables false
set_option maxRecDepth 100000
namespace Go.Proofs.Ytidekbijkknlmaa
open Go.RowKit
attribute [local irreducible] TL TC TQ TK TO Qt TA
/-- What came of a list. -/
structure PartV where
  v : Value
  vs : List Value
  bs : List (List Int)
def partA (x : PartV) : Asn := starL [row 30 1 x.v x.vs.length x.vs, pureA (x.vs.length = x.bs.length), starL (List.zipWith bytesA x.vs x.bs)]
def nilP : PartV := ⟨.slice none 0 0, [], []⟩
def stimL (t : TypeId) (p : Nat) (x : List PartV) : List Asn := [blk p (x.map (·.v)) t, pureA (x.length = 4), starL (x.map partA)]
def stimA (t : TypeId) (p : Nat) (x : List PartV) : Asn := starL (stimL t p x)
abbrev Sm := List (List (List Int))
def absS (x : List PartV) : Sm := x.map (·.bs)
def nilS : Sm := [[], [], [], []]
def tabM (ls : List ListI) (i k : Nat) : List EntryI := match ls[i]? with
  | some l => l.tabs.getD k []
  | none => []
def takeS (X : Sm) (ls : List ListI) (code : Nat) (b : List Int) : Sm × Bool :=
  match ofM code ls with
  | none => (X, false)
  | some (i, k) =>
    if b.length < needsM (tabM ls i k) then (X, false)
    else if k = 0 then (X.set i [b], true)
    else if k = (X.getD i []).length then (X.set i (X.getD i [] ++ [b]), true)
    else (X.set i [], false)
def fullS (X : Sm) (list : Int) (tabs : List (List EntryI)) : Bool := decide (0 ≤ list ∧ list < 4 ∧ 0 < tabs.length ∧ (X.getD list.toNat []).length = tabs.length)
def stepE (y : Mm × List Int) (e : EntryI) : Option (Mm × List Int) :=
  if (writeM y.1 1 e.area e.at_ (y.2.take e.size)).2 = 0 then some ((writeM y.1 1 e.area e.at_ (y.2.take e.size)).1, y.2.drop e.size) else none
def stepT (M : Mm) (y : List EntryI × List Int) : Option Mm := if y.2.length < needsM y.1 then none else (y.1.foldlM stepE (M, y.2)).map (·.1)
def writesM (M : Mm) (tabs : List (List EntryI)) (parts : List (List Int)) : Option Mm := (tabs.zip parts).foldlM stepT M
def applyS (X : Sm) (M : Mm) (list : Int) (tabs : List (List EntryI)) : Sm × Mm × Bool :=
  if fullS X list tabs then match writesM M tabs (X.getD list.toNat []) with
    | some M' => (X.set list.toNat [], M', true)
    | none => (X.set list.toNat [], M, false)
  else (X, M, false)
/-! ### Plain facts -/
theorem ofFrom_some {code : Nat} : ∀ {i : Nat} {ls : List ListI} {a k : Nat}, ofFrom code i ls = some (a, k) → ∃ l, i ≤ a ∧ ls[a - i]? = some l ∧ hitM code l = true ∧ k = (kM code l.first).toNat
  | i, [], a, k, h => by cases h
  | i, l :: r, a, k, h => by
    rw [ofFrom] at h
    split at h
    · rename_i hh
      simp only [Option.some.injEq, Prod.mk.injEq] at h
      obtain ⟨rfl, rfl⟩ := h
      exact ⟨l, Nat.le_refl _, by simp, hh, rfl⟩
    · obtain ⟨l', h1, h2, h3, h4⟩ := ofFrom_some h
      exact ⟨l', by omega, by rw [show a - i = a - (i + 1) + 1 by omega]; simpa using h2, h3, h4⟩
theorem ofM_some {code : Nat} {ls : List ListI} {a k : Nat} (h : ofM code ls = some (a, k)) : ∃ l t, ls[a]? = some l ∧ a < 4 ∧ l.tabs[k]? = some t ∧ hitM code l = true ∧ k = (kM code l.first).toNat ∧ tabM ls a k = t := by
  obtain ⟨l, _, h2, h3, h4⟩ := ofFrom_some h
  rw [Nat.sub_zero] at h2
  have ha := (List.getElem?_eq_some_iff.1 h2).1
  rw [List.length_take] at ha
  rw [List.getElem?_take_of_lt (by omega)] at h2
  have hk : k < l.tabs.length := by
    simp only [hitM, Bool.and_eq_true, decide_eq_true_eq] at h3
    omega
  have ht := List.getElem?_eq_getElem hk
  exact ⟨l, _, h2, by omega, ht, h3, h4, by simp [tabM, h2, List.getD_eq_getElem?_getD, ht]⟩
theorem length_takeS {X : Sm} {ls : List ListI} {code : Nat} {b : List Int} : (takeS X ls code b).1.length = X.length := by
  unfold takeS
  split
  · rfl
  · split
    · rfl
    · split
      · simp
      · split <;> simp
theorem foldlM_ok {α β : Type} {P : β → Prop} {f : β → α → Option β} (hf : ∀ b a b', P b → f b a = some b' → P b') : ∀ {l : List α} {b b' : β}, P b → l.foldlM f b = some b' → P b'
  | [], b, b', hb, h => by simp at h; subst h; exact hb
  | a :: l, b, b', hb, h => by
    simp only [List.foldlM_cons, Option.bind_eq_bind, Option.bind_eq_some_iff] at h
    obtain ⟨c, h1, h2⟩ := h
    exact foldlM_ok hf (hf b a c hb h1) h2
theorem stepE_ok {y y' : Mm × List Int} {e : EntryI} (hk : MmOk y.1) (h : stepE y e = some y') : MmOk y'.1 := by
  unfold stepE at h
  split at h
  · injection h with h
    subst h
    exact writeM_ok hk (by omega)
  · cases h
theorem stepT_ok {M M' : Mm} {y : List EntryI × List Int} (hk : MmOk M) (h : stepT M y = some M') : MmOk M' := by
  unfold stepT at h
  split at h
  · cases h
  · obtain ⟨z, h1, rfl⟩ := Option.map_eq_some_iff.1 h
    exact foldlM_ok (P := fun y : Mm × List Int => MmOk y.1) (fun _ _ _ => stepE_ok) (b := (M, y.2)) hk h1
theorem writesM_ok {M M' : Mm} {tabs : List (List EntryI)} {parts : List (List Int)} (hk : MmOk M) (h : writesM M tabs parts = some M') : MmOk M' := foldlM_ok (P := MmOk) (fun _ _ _ => stepT_ok) hk h
theorem applyS_ok {X : Sm} {M : Mm} {list : Int} {tabs : List (List EntryI)} (hk : MmOk M) : MmOk (applyS X M list tabs).2.1 := by
  unfold applyS
  split
  · split
    · rename_i h; exact writesM_ok hk h
    · exact hk
  · exact hk
theorem length_applyS {X : Sm} {M : Mm} {list : Int} {tabs : List (List EntryI)} : (applyS X M list tabs).1.length = X.length := by
  unfold applyS
  split
  · split <;> simp
  · rfl
theorem foldlM_snoc {α β : Type} {f : β → α → Option β} {l : List α} {a : α} {b : β} : (l ++ [a]).foldlM f b = (l.foldlM f b).bind fun c => f c a := by
  rw [List.foldlM_append]
  simp
theorem foldlM_take {α β : Type} {f : β → α → Option β} {l : List α} {k : Nat} {a : α} {b c : β} (ha : l[k]? = some a) (hb : (l.take k).foldlM f b = some c) : (l.take (k + 1)).foldlM f b = f c a := by
  rw [List.take_add_one, ha]
  show (l.take k ++ [a]).foldlM f b = _
  rw [foldlM_snoc, hb]
  rfl
theorem foldlM_stop {α β : Type} {f : β → α → Option β} {l : List α} {k : Nat} {b : β} (h : (l.take k).foldlM f b = none) : l.foldlM f b = none := by
  rw [← List.take_append_drop k l, List.foldlM_append, h]
  rfl
theorem SubL.refl : ∀ l : List Asn, SubL l l
  | [] => .nil
  | _ :: l => .keep (SubL.refl l)
theorem st_packs2 {S : Nat → Prop} {w0 w : World} {Xs F : List Asn} (h : St S w0 (Xs ++ F) w) : St S w0 (starL Xs :: F) w := by
  have h1 : St S w0 (Xs ++ starL [] :: F) w := (st_star0 h).perm List.perm_middle.symm
  have := st_pack h1
  rwa [List.append_nil] at this
/-! ### Parts of what stays; and of what is changed -/
section
variable {S : Nat → Prop} {w0 w : World} {t : TypeId} {p i : Nat} {x : List PartV} {y : PartV}
theorem Ro.stimBlk (h : Ro S w0 (stimA t p x)) : Ro S w0 (blk p (x.map (·.v)) t) := Ro.star h (i := 0) rfl
theorem Ro.stimLen (h : Ro S w0 (stimA t p x)) : x.length = 4 := (Ro.star h (i := 1) (X := pureA (x.length = 4)) rfl).is
theorem Ro.stimPart (h : Ro S w0 (stimA t p x)) (hi : x[i]? = some y) : Ro S w0 (partA y) := Ro.star (Ro.star h (i := 2) rfl) (i := i) (by simp [hi])
theorem Ro.partRow (h : Ro S w0 (partA y)) : Ro S w0 (row 30 1 y.v y.vs.length y.vs) := Ro.star h (i := 0) rfl
theorem Ro.partLen (h : Ro S w0 (partA y)) : y.vs.length = y.bs.length := (Ro.star h (i := 1) (X := pureA (y.vs.length = y.bs.length)) rfl).is
theorem Ro.partOne (h : Ro S w0 (partA y)) {j : Nat} {v : Value} {l : List Int} (hv : y.vs[j]? = some v) (hl : y.bs[j]? = some l) : Ro S w0 (bytesA v l) := Ro.star (Ro.star h (i := 2) rfl) (i := j) (by simp [List.getElem?_zipWith, hv, hl])
theorem stim_len (h : (stimA t p x).C w) : x.length = 4 := starL_get h (i := 1) (X := pureA (x.length = 4)) rfl
theorem part_v (h : (partA y).C w) : ∃ A c, y.v = .slice A y.bs.length c ∧ y.bs.length ≤ c ∧ c ≤ maxLen ∧ y.vs.length = y.bs.length := by
  have hm : Ro (fps []) w (partA y) := Ro.empty h
  obtain ⟨A, c, h1, h2, h3, -⟩ := row_slice hm.partRow.is
  rw [hm.partLen] at h1 h2
  exact ⟨A, c, h1, h2, h3, hm.partLen⟩
/-- One list's part, taken out, and put back. -/
theorem stim_focus {F : List Asn} (hi : x[i]? = some y) (h : St S w0 (stimA t p x :: F) w) : St S w0 (partA y :: blk p (x.map (·.v)) t :: starL ((x.map partA).set i emp) :: starL [emp, pureA (x.length = 4), emp] :: F) w := by
  have h1 : St S w0 (starL (x.map partA) :: starL ((stimL t p x).set 2 emp) :: F) w := st_take (j := 0) (i := 2) h rfl rfl
  have h2 : St S w0 (partA y :: starL ((x.map partA).set i emp) :: starL ((stimL t p x).set 2 emp) :: F) w := st_take (j := 0) (i := i) h1 rfl (by simp [hi])
  have h3 : St S w0 (blk p (x.map (·.v)) t :: partA y :: starL ((x.map partA).set i emp) :: starL (((stimL t p x).set 2 emp).set 0 emp) :: F) w := st_take (j := 2) (i := 0) h2 rfl rfl
  exact h3.perm (.swap _ _ _)
theorem stim_unfocus {F : List Asn} {z : PartV} (hi : i < x.length) (h : St S w0 (partA z :: blk p ((x.map (·.v)).set i z.v) t :: starL ((x.map partA).set i emp) :: starL [emp, pureA (x.length = 4), emp] :: F) w) : St S w0 (stimA t p (x.set i z) :: F) w := by
  have hx : (x.map partA)[i]? = some (partA x[i]) := by simp [List.getElem?_eq_getElem hi]
  have h1 : St S w0 (starL ((x.map partA).set i (partA z)) :: blk p ((x.map (·.v)).set i z.v) t :: starL [emp, pureA (x.length = 4), emp] :: F) w := by
    have h0 : St S w0 (partA z :: starL ((x.map partA).set i emp) :: blk p ((x.map (·.v)).set i z.v) t :: starL [emp, pureA (x.length = 4), emp] :: F) w := h.perm (.cons _ (.swap _ _ _))
    exact st_back hx h0
  have h2 : St S w0 (blk p ((x.map (·.v)).set i z.v) t :: starL [emp, pureA (x.length = 4), starL ((x.map partA).set i (partA z))] :: F) w := by
    have := st_put (j := 1) (i := 2) h1 rfl rfl
    exact this
  have h3 : St S w0 (starL [blk p ((x.map (·.v)).set i z.v) t, pureA (x.length = 4), starL ((x.map partA).set i (partA z))] :: F) w := by
    have := st_put (j := 0) (i := 0) h2 rfl rfl
    exact this
  refine h3.see (i := 0) rfl (fun h => ?_) (fun b hb => ?_)
  · show Hold (stimL t p (x.set i z)) w
    rw [stimL, List.map_set, List.map_set, List.length_set]
    exact h
  · have hb : fps (stimL t p (x.set i z)) b := hb
    rw [stimL, List.map_set, List.map_set, List.length_set] at hb
    exact hb
theorem part_mk {F : List Asn} (h : St S w0 (row 30 1 y.v y.vs.length y.vs :: pureA (y.vs.length = y.bs.length) :: starL (List.zipWith bytesA y.vs y.bs) :: F) w) : St S w0 (partA y :: F) w := st_packs2 (Xs := [row 30 1 y.v y.vs.length y.vs, pureA (y.vs.length = y.bs.length), starL (List.zipWith bytesA y.vs y.bs)]) h
theorem part_nil {F : List Asn} (h : St S w0 F w) : St S w0 (partA nilP :: F) w := part_mk (y := nilP) ((st_nil (st_pure rfl (st_star0 h)) 30 1))
theorem part_open {F : List Asn} (h : St S w0 (partA y :: F) w) : St S w0 (row 30 1 y.v y.vs.length y.vs :: starL (List.zipWith bytesA y.vs y.bs) :: F) w := by
  have h1 : St S w0 (row 30 1 y.v y.vs.length y.vs :: starL [emp, pureA (y.vs.length = y.bs.length), starL (List.zipWith bytesA y.vs y.bs)] :: F) w := st_take (j := 0) (i := 0) h rfl rfl
  have h2 : St S w0 (starL (List.zipWith bytesA y.vs y.bs) :: row 30 1 y.v y.vs.length y.vs :: starL [emp, pureA (y.vs.length = y.bs.length), emp] :: F) w := st_take (j := 1) (i := 2) h1 rfl rfl
  exact (h2.perm (.swap _ _ _)).subl (.keep (.keep (.skip (SubL.refl F))))
end
end Go.Proofs.Ytidekbijkknlmaa
