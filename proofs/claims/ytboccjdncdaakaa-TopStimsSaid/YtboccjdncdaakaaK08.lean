/-
  Part 8 of the proof of QJ: the texts S2 S3 S4.
-/
import Derived.Test.YtboccjdncdaakaaK07

/-
  Layer 14: what came, as an object; what Take, Full, Apply say.
-/

set_option linter.unusedVariables false
set_option maxRecDepth 100000
namespace Go.Proofs.Ytboccjdncdaakaa
open Go.RowKit
attribute [local irreducible] TL TC TQ TK TO Qt TA
/-- What came of a list. -/
structure PartV where
  v : Value
  vs : List Value
  bs : List (List Int)
def partA (x : PartV) : Asn := starL [row 38 1 x.v x.vs.length x.vs, pureA (x.vs.length = x.bs.length), starL (List.zipWith bytesA x.vs x.bs)]
def nilP : PartV := ⟨.slice none 0 0, [], []⟩
def stimL (t : TypeId) (p : Nat) (x : List PartV) : List Asn := [blk p (x.map (·.v)) t, pureA (x.length = 4), starL (x.map partA)]
def stimA (t : TypeId) (p : Nat) (x : List PartV) : Asn := starL (stimL t p x)
abbrev Sm := List (List (List Int))
def absS (x : List PartV) : Sm := x.map (·.bs)
def nilS : Sm := [[], [], [], []]
def tabM (ls : List ListI) (i k : Nat) : List EntryI := match ls[i]? with
  | some l => l.tabs.getD k []
  | none => []
def takeS (X : Sm) (ls : List ListI) (code : Nat) (b : List Int) : Sm × Bool :=
  match ofM code ls with
  | none => (X, false)
  | some (i, k) =>
    if b.length < needsM (tabM ls i k) then (X, false)
    else if k = 0 then (X.set i [b], true)
    else if k = (X.getD i []).length then (X.set i (X.getD i [] ++ [b]), true)
    else (X.set i [], false)
def fullS (X : Sm) (list : Int) (tabs : List (List EntryI)) : Bool := decide (0 ≤ list ∧ list < 4 ∧ 0 < tabs.length ∧ (X.getD list.toNat []).length = tabs.length)
def stepE (y : Mm × List Int) (e : EntryI) : Option (Mm × List Int) :=
  if (writeM y.1 1 e.area e.at_ (y.2.take e.size)).2 = 0 then some ((writeM y.1 1 e.area e.at_ (y.2.take e.size)).1, y.2.drop e.size) else none
def stepT (M : Mm) (y : List EntryI × List Int) : Option Mm := if y.2.length < needsM y.1 then none else (y.1.foldlM stepE (M, y.2)).map (·.1)
def writesM (M : Mm) (tabs : List (List EntryI)) (parts : List (List Int)) : Option Mm := (tabs.zip parts).foldlM stepT M
def applyS (X : Sm) (M : Mm) (list : Int) (tabs : List (List EntryI)) : Sm × Mm × Bool :=
  if fullS X list tabs then match writesM M tabs (X.getD list.toNat []) with
    | some M' => (X.set list.toNat [], M', true)
    | none => (X.set list.toNat [], M, false)
  else (X, M, false)
/-! ### Plain facts -/
theorem ofFrom_some {code : Nat} : ∀ {i : Nat} {ls : List ListI} {a k : Nat}, ofFrom code i ls = some (a, k) → ∃ l, i ≤ a ∧ ls[a - i]? = some l ∧ hitM code l = true ∧ k = (kM code l.first).toNat
  | i, [], a, k, h => by cases h
  | i, l :: r, a, k, h => by
    rw [ofFrom] at h
    split at h
    · rename_i hh
      simp only [Option.some.injEq, Prod.mk.injEq] at h
      obtain ⟨rfl, rfl⟩ := h
      exact ⟨l, Nat.le_refl _, by simp, hh, rfl⟩
    · obtain ⟨l', h1, h2, h3, h4⟩ := ofFrom_some h
      exact ⟨l', by omega, by rw [show a - i = a - (i + 1) + 1 by omega]; simpa using h2, h3, h4⟩
theorem ofM_some {code : Nat} {ls : List ListI} {a k : Nat} (h : ofM code ls = some (a, k)) : ∃ l t, ls[a]? = some l ∧ a < 4 ∧ l.tabs[k]? = some t ∧ hitM code l = true ∧ k = (kM code l.first).toNat ∧ tabM ls a k = t := by
  obtain ⟨l, _, h2, h3, h4⟩ := ofFrom_some h
  rw [Nat.sub_zero] at h2
  have ha := (List.getElem?_eq_some_iff.1 h2).1
  rw [List.length_take] at ha
  rw [List.getElem?_take_of_lt (by omega)] at h2
  have hk : k < l.tabs.length := by
    simp only [hitM, Bool.and_eq_true, decide_eq_true_eq] at h3
    omega
  have ht := List.getElem?_eq_getElem hk
  exact ⟨l, _, h2, by omega, ht, h3, h4, by simp [tabM, h2, List.getD_eq_getElem?_getD, ht]⟩
theorem length_takeS {X : Sm} {ls : List ListI} {code : Nat} {b : List Int} : (takeS X ls code b).1.length = X.length := by
  unfold takeS
  split
  · rfl
  · split
    · rfl
    · split
      · simp
      · split <;> simp
theorem foldlM_ok {α β : Type} {P : β → Prop} {f : β → α → Option β} (hf : ∀ b a b', P b → f b a = some b' → P b') : ∀ {l : List α} {b b' : β}, P b → l.foldlM f b = some b' → P b'
  | [], b, b', hb, h => by simp at h; subst h; exact hb
  | a :: l, b, b', hb, h => by
    simp only [List.foldlM_cons, Option.bind_eq_bind, Option.bind_eq_some_iff] at h
    obtain ⟨c, h1, h2⟩ := h
    exact foldlM_ok hf (hf b a c hb h1) h2
theorem stepE_ok {y y' : Mm × List Int} {e : EntryI} (hk : MmOk y.1) (h : stepE y e = some y') : MmOk y'.1 := by
  unfold stepE at h
  split at h
  · injection h with h
    subst h
    exact writeM_ok hk (by omega)
  · cases h
theorem stepT_ok {M M' : Mm} {y : List EntryI × List Int} (hk : MmOk M) (h : stepT M y = some M') : MmOk M' := by
  unfold stepT at h
  split at h
  · cases h
  · obtain ⟨z, h1, rfl⟩ := Option.map_eq_some_iff.1 h
    exact foldlM_ok (P := fun y : Mm × List Int => MmOk y.1) (fun _ _ _ => stepE_ok) (b := (M, y.2)) hk h1
theorem writesM_ok {M M' : Mm} {tabs : List (List EntryI)} {parts : List (List Int)} (hk : MmOk M) (h : writesM M tabs parts = some M') : MmOk M' := foldlM_ok (P := MmOk) (fun _ _ _ => stepT_ok) hk h
theorem applyS_ok {X : Sm} {M : Mm} {list : Int} {tabs : List (List EntryI)} (hk : MmOk M) : MmOk (applyS X M list tabs).2.1 := by
  unfold applyS
  split
  · split
    · rename_i h; exact writesM_ok hk h
    · exact hk
  · exact hk
theorem length_applyS {X : Sm} {M : Mm} {list : Int} {tabs : List (List EntryI)} : (applyS X M list tabs).1.length = X.length := by
  unfold applyS
  split
  · split <;> simp
  · rfl
theorem foldlM_snoc {α β : Type} {f : β → α → Option β} {l : List α} {a : α} {b : β} : (l ++ [a]).foldlM f b = (l.foldlM f b).bind fun c => f c a := by
  rw [List.foldlM_append]
  simp
theorem foldlM_take {α β : Type} {f : β → α → Option β} {l : List α} {k : Nat} {a : α} {b c : β} (ha : l[k]? = some a) (hb : (l.take k).foldlM f b = some c) : (l.take (k + 1)).foldlM f b = f c a := by
  rw [List.take_add_one, ha]
  show (l.take k ++ [a]).foldlM f b = _
  rw [foldlM_snoc, hb]
  rfl
theorem foldlM_stop {α β : Type} {f : β → α → Option β} {l : List α} {k : Nat} {b : β} (h : (l.take k).foldlM f b = none) : l.foldlM f b = none := by
  rw [← List.take_append_drop k l, List.foldlM_append, h]
  rfl
theorem SubL.refl : ∀ l : List Asn, SubL l l
  | [] => .nil
  | _ :: l => .keep (SubL.refl l)
theorem st_packs2 {S : Nat → Prop} {w0 w : World} {Xs F : List Asn} (h : St S w0 (Xs ++ F) w) : St S w0 (starL Xs :: F) w := by
  have h1 : St S w0 (Xs ++ starL [] :: F) w := (st_star0 h).perm List.perm_middle.symm
  have := st_pack h1
  rwa [List.append_nil] at this
/-! ### Parts of what stays; and of what is changed -/
section
variable {S : Nat → Prop} {w0 w : World} {t : TypeId} {p i : Nat} {x : List PartV} {y : PartV}
theorem Ro.stimBlk (h : Ro S w0 (stimA t p x)) : Ro S w0 (blk p (x.map (·.v)) t) := Ro.star h (i := 0) rfl
theorem Ro.stimLen (h : Ro S w0 (stimA t p x)) : x.length = 4 := (Ro.star h (i := 1) (X := pureA (x.length = 4)) rfl).is
theorem Ro.stimPart (h : Ro S w0 (stimA t p x)) (hi : x[i]? = some y) : Ro S w0 (partA y) := Ro.star (Ro.star h (i := 2) rfl) (i := i) (by simp [hi])
theorem Ro.partRow (h : Ro S w0 (partA y)) : Ro S w0 (row 38 1 y.v y.vs.length y.vs) := Ro.star h (i := 0) rfl
theorem Ro.partLen (h : Ro S w0 (partA y)) : y.vs.length = y.bs.length := (Ro.star h (i := 1) (X := pureA (y.vs.length = y.bs.length)) rfl).is
theorem Ro.partOne (h : Ro S w0 (partA y)) {j : Nat} {v : Value} {l : List Int} (hv : y.vs[j]? = some v) (hl : y.bs[j]? = some l) : Ro S w0 (bytesA v l) := Ro.star (Ro.star h (i := 2) rfl) (i := j) (by simp [List.getElem?_zipWith, hv, hl])
theorem stim_len (h : (stimA t p x).C w) : x.length = 4 := starL_get h (i := 1) (X := pureA (x.length = 4)) rfl
theorem part_v (h : (partA y).C w) : ∃ A c, y.v = .slice A y.bs.length c ∧ y.bs.length ≤ c ∧ c ≤ maxLen ∧ y.vs.length = y.bs.length := by
  have hm : Ro (fps []) w (partA y) := Ro.empty h
  obtain ⟨A, c, h1, h2, h3, -⟩ := row_slice hm.partRow.is
  rw [hm.partLen] at h1 h2
  exact ⟨A, c, h1, h2, h3, hm.partLen⟩
/-- One list's part, taken out, and put back. -/
theorem stim_focus {F : List Asn} (hi : x[i]? = some y) (h : St S w0 (stimA t p x :: F) w) : St S w0 (partA y :: blk p (x.map (·.v)) t :: starL ((x.map partA).set i emp) :: starL [emp, pureA (x.length = 4), emp] :: F) w := by
  have h1 : St S w0 (starL (x.map partA) :: starL ((stimL t p x).set 2 emp) :: F) w := st_take (j := 0) (i := 2) h rfl rfl
  have h2 : St S w0 (partA y :: starL ((x.map partA).set i emp) :: starL ((stimL t p x).set 2 emp) :: F) w := st_take (j := 0) (i := i) h1 rfl (by simp [hi])
  have h3 : St S w0 (blk p (x.map (·.v)) t :: partA y :: starL ((x.map partA).set i emp) :: starL (((stimL t p x).set 2 emp).set 0 emp) :: F) w := st_take (j := 2) (i := 0) h2 rfl rfl
  exact h3.perm (.swap _ _ _)
theorem stim_unfocus {F : List Asn} {z : PartV} (hi : i < x.length) (h : St S w0 (partA z :: blk p ((x.map (·.v)).set i z.v) t :: starL ((x.map partA).set i emp) :: starL [emp, pureA (x.length = 4), emp] :: F) w) : St S w0 (stimA t p (x.set i z) :: F) w := by
  have hx : (x.map partA)[i]? = some (partA x[i]) := by simp [List.getElem?_eq_getElem hi]
  have h1 : St S w0 (starL ((x.map partA).set i (partA z)) :: blk p ((x.map (·.v)).set i z.v) t :: starL [emp, pureA (x.length = 4), emp] :: F) w := by
    have h0 : St S w0 (partA z :: starL ((x.map partA).set i emp) :: blk p ((x.map (·.v)).set i z.v) t :: starL [emp, pureA (x.length = 4), emp] :: F) w := h.perm (.cons _ (.swap _ _ _))
    exact st_back hx h0
  have h2 : St S w0 (blk p ((x.map (·.v)).set i z.v) t :: starL [emp, pureA (x.length = 4), starL ((x.map partA).set i (partA z))] :: F) w := by
    have := st_put (j := 1) (i := 2) h1 rfl rfl
    exact this
  have h3 : St S w0 (starL [blk p ((x.map (·.v)).set i z.v) t, pureA (x.length = 4), starL ((x.map partA).set i (partA z))] :: F) w := by
    have := st_put (j := 0) (i := 0) h2 rfl rfl
    exact this
  refine h3.see (i := 0) rfl (fun h => ?_) (fun b hb => ?_)
  · show Hold (stimL t p (x.set i z)) w
    rw [stimL, List.map_set, List.map_set, List.length_set]
    exact h
  · have hb : fps (stimL t p (x.set i z)) b := hb
    rw [stimL, List.map_set, List.map_set, List.length_set] at hb
    exact hb
theorem part_mk {F : List Asn} (h : St S w0 (row 38 1 y.v y.vs.length y.vs :: pureA (y.vs.length = y.bs.length) :: starL (List.zipWith bytesA y.vs y.bs) :: F) w) : St S w0 (partA y :: F) w := st_packs2 (Xs := [row 38 1 y.v y.vs.length y.vs, pureA (y.vs.length = y.bs.length), starL (List.zipWith bytesA y.vs y.bs)]) h
theorem part_nil {F : List Asn} (h : St S w0 F w) : St S w0 (partA nilP :: F) w := part_mk (y := nilP) ((st_nil (st_pure rfl (st_star0 h)) 38 1))
theorem part_open {F : List Asn} (h : St S w0 (partA y :: F) w) : St S w0 (row 38 1 y.v y.vs.length y.vs :: starL (List.zipWith bytesA y.vs y.bs) :: F) w := by
  have h1 : St S w0 (row 38 1 y.v y.vs.length y.vs :: starL [emp, pureA (y.vs.length = y.bs.length), starL (List.zipWith bytesA y.vs y.bs)] :: F) w := st_take (j := 0) (i := 0) h rfl rfl
  have h2 : St S w0 (starL (List.zipWith bytesA y.vs y.bs) :: row 38 1 y.v y.vs.length y.vs :: starL [emp, pureA (y.vs.length = y.bs.length), emp] :: F) w := st_take (j := 1) (i := 2) h1 rfl rfl
  exact (h2.perm (.swap _ _ _)).subl (.keep (.keep (.skip (SubL.refl F))))
end
end Go.Proofs.Ytboccjdncdaakaa

/-
  Layer 14: New, Clear, Full, Take, walked.
-/

set_option linter.unusedVariables false
set_option maxRecDepth 100000
namespace Go.Proofs.Ytboccjdncdaakaa
open Go.RowKit
attribute [local irreducible] TL TC TQ TK TO Qt TA
abbrev sT : TypeId := 74
/-- What a list has, small enough. -/
def SmallL (l : ListI) : Prop := l.tabs.length ≤ 1000 ∧ ∀ t ∈ l.tabs, t.length ≤ 1000
theorem absS_get {x : List PartV} {i : Nat} {y : PartV} (h : x[i]? = some y) : (absS x).getD i [] = y.bs := by simp [absS, List.getD_eq_getElem?_getD, h]
theorem absS_set (x : List PartV) (i : Nat) (y : PartV) : absS (x.set i y) = (absS x).set i y.bs := by simp [absS, List.map_set]
theorem InTab.len {S : Nat → Prop} {w0 : World} {A : Option Addr} {n c : Nat} {t : List EntryI} (h : InTab S w0 [.slice A n c] t) : InS S w0 3 InEntry A n t ∧ n ≤ c ∧ c ≤ maxLen := by
  obtain ⟨A', n', c', e, h1, h2, h3⟩ := h
  simp only [List.cons.injEq, Value.slice.injEq, and_true] at e
  obtain ⟨rfl, rfl, rfl⟩ := e
  exact ⟨h1, h2, h3⟩
theorem stim_nil {S : Nat → Prop} {w0 w : World} {t : TypeId} {p : Nat} {F : List Asn} (h : St S w0 (blk p [.slice none 0 0, .slice none 0 0, .slice none 0 0, .slice none 0 0] t :: F) w) : St S w0 (stimA t p [nilP, nilP, nilP, nilP] :: F) w := by
  have h1 := st_packs2 (Xs := [partA nilP, partA nilP, partA nilP, partA nilP]) (part_nil (part_nil (part_nil (part_nil h))))
  have h2 : St S w0 (blk p [.slice none 0 0, .slice none 0 0, .slice none 0 0, .slice none 0 0] t :: starL [partA nilP, partA nilP, partA nilP, partA nilP] :: F) w := h1.perm (.swap _ _ _)
  have h3 : St S w0 (blk p [.slice none 0 0, .slice none 0 0, .slice none 0 0, .slice none 0 0] t :: pureA (4 = 4) :: starL [partA nilP, partA nilP, partA nilP, partA nilP] :: F) w := (st_pure rfl h2).perm (.swap _ _ _)
  exact st_packs2 (Xs := stimL t p [nilP, nilP, nilP, nilP]) h3
attribute [local irreducible] blk row bytesA starL memA segA roB
attribute [local irreducible] stimA partA
theorem snew_spec (w : World) : Calls Try.prog 7 #[] w (Ret w [] fun v B => ∃ p, v = .pointer (some ⟨p, 0, none⟩) ∧ B = [stimA sT p [nilP, nilP, nilP, nilP]]) := by
  refine enter (vs := []) Try.func7 rfl Try.ntmps7 rfl (Hold.nil w) ?_
  (repeat (first | (refine i_dst ?_; (first | (refine i_assign ?_; refine l_q rfl rfl rfl (q_assign rfl) ?_) | (refine i_box ?_; (refine l_boxA rfl rfl (fun _ => ?_))) | (refine l_q rfl rfl rfl (by ((apply iq_bld; ((exact q_bld tab rfl rfl rfl (by first | ((repeat (first | exact FillR.nil | exact LSets.nil | exact LSet.zero | exact CellsOf.agg | exact rfl | exact CellsOf.one rfl | apply FillR.cons | apply LSets.cons | apply LSet.succ)); done) | fail) (fun w => by kernel_rfl)))))) ?_))) | refine d_seq ?_ | refine c_region ?_ | refine l_nil ?_ | (refine i_q ?_; (refine d_then ?_)) | refine c_ret ?_))
  rename_i p
  exact t_hp (fun w h => stim_nil h) (t_ret1 Try.results7 rfl ⟨p, rfl, rfl⟩)
set_option maxHeartbeats 4000000 in
theorem sfull_spec {p : Nat} {x : List PartV} {w : World} (hm : Ro (fps []) w (stimA sT p x)) (list : Int) (v : List Value) (l : ListI) (hl : InList (fps []) w v l) :
    Calls Try.prog 22 #[.pointer (some ⟨p, 0, none⟩), .int .i64 list, .agg v.toArray] w (Ret w [] fun v B => v = .bool (fullS (absS x) list l.tabs) ∧ B = []) := by
  obtain ⟨⟨A, n, c, rfl, htab, hnc, hcm⟩, hl1, hl2, hl3, hl4⟩ := hl
  have htl := htab.len
  have hx4 := stim_len hm.is
  have hb := hm.stimBlk
  refine enter (vs := [.pointer (some ⟨p, 0, none⟩), .int .i64 list, .agg #[.int .i64 l.first, .slice A n c, .bool l.stim, .int .u8 l.ev, .int .u8 l.pre, .int .u8 l.pri, .bool l.on, .bool l.ch]]) Try.func22 rfl Try.ntmps22 rfl (Hold.nil w) ?_
  (repeat (first | (refine i_dst ?_; (first | (refine i_assign ?_; refine l_q rfl rfl rfl (q_assign rfl) ?_) | (refine i_box ?_; (refine l_boxA rfl rfl (fun _ => ?_))))) | refine d_seq ?_ | refine c_region ?_ | refine l_nil ?_ | (refine i_q ?_; (refine d_then ?_))))
  rename_i b5
  by_cases h0 : 0 ≤ list
  · by_cases h4 : list < 4
    · by_cases hn : 0 < n
      · obtain ⟨y, hy⟩ : ∃ y, x[list.toNat]? = some y := ⟨_, List.getElem?_eq_getElem (by omega)⟩
        obtain ⟨Ay, cy, e1, e2, e3, e4⟩ := part_v (hm.stimPart hy).is
        have hv : (x.map (·.v))[0 + 0 + list.toNat]? = some (.slice Ay y.bs.length cy) := by simp [hy, e1]
        have ef : fullS (absS x) list l.tabs = decide ((y.bs.length : Int) = (n : Int)) := by
          rw [fullS, absS_get hy, htl]
          congr 1
          simp only [eq_iff_iff]
          omega
        (refine a_begin mixed _ 30 rfl (fun w h => h) ?_)
        ((refine a_q 0 rfl rfl rfl rfl rfl (by decide +kernel) (q_move rfl) ?_; refine a_q 1 rfl rfl rfl rfl rfl (by decide +kernel) (by (exact q_nenil tab rfl rfl rfl)) ?_; refine a_q 2 rfl rfl rfl rfl rfl (by decide +kernel) (q_move rfl) ?_; (refine a_gt 3 rfl rfl rfl rfl rfl rfl rfl (by decide +kernel) (q_move rfl) ?_); (refine a_gt 4 rfl rfl rfl rfl rfl rfl rfl (by decide +kernel) (by (exact q_geq rfl rfl)) ?_); refine a_q 5 rfl rfl rfl rfl rfl (by decide +kernel) (by (exact q_pick_t rfl rfl)) ?_; refine a_q 6 rfl rfl rfl rfl rfl (by decide +kernel) (q_move rfl) ?_; ((refine a_known 13 true rfl (by (exact decide_eq_true (by omega))) ?_; (refine a_gt 7 rfl rfl rfl rfl rfl rfl rfl (by decide +kernel) (q_move rfl) ?_))); (refine a_gt 8 rfl rfl rfl rfl rfl rfl rfl (by decide +kernel) (by (exact q_lss rfl rfl)) ?_); refine a_q 9 rfl rfl rfl rfl rfl (by decide +kernel) (by (exact q_pick_t rfl rfl)) ?_; refine a_q 10 rfl rfl rfl rfl rfl (by decide +kernel) (q_move rfl) ?_; ((refine a_known 17 true rfl (by (exact decide_eq_true (by omega))) ?_; ((refine a_gt 11 rfl rfl rfl rfl rfl rfl rfl (by decide +kernel) (by ((apply iq_fld; (exact q_fieldAddr tab rfl rfl rfl rfl rfl rfl rfl)))) ?_)))); ((refine a_gt 12 rfl rfl rfl rfl rfl rfl rfl (by decide +kernel) (by ((exact q_ld1 tab rfl rfl rfl (by first | ((repeat (first | exact List.Mem.head _ | apply List.Mem.tail)); done) | fail) (by (rfl))))) ?_)); (refine a_gt 13 rfl rfl rfl rfl rfl rfl rfl (by decide +kernel) (by (exact q_len tab rfl rfl)) ?_); (refine a_gt 14 rfl rfl rfl rfl rfl rfl rfl (by decide +kernel) (by (exact q_gtr rfl rfl)) ?_); refine a_q 15 rfl rfl rfl rfl rfl (by decide +kernel) (by (exact q_pick_t rfl rfl)) ?_; refine a_q 16 rfl rfl rfl rfl rfl (by decide +kernel) (q_move rfl) ?_; ((refine a_known 23 true rfl (by (exact decide_eq_true (by omega))) ?_; (refine a_gt 17 rfl rfl rfl rfl rfl rfl rfl (by decide +kernel) (q_move rfl) ?_))); (refine a_gt 18 rfl rfl rfl rfl rfl rfl rfl (by decide +kernel) (q_move rfl) ?_); ((refine a_gt 19 rfl rfl rfl rfl rfl rfl rfl (by decide +kernel) (by ((apply iq_nck; (exact q_nilck rfl)))) ?_)); ((refine a_gt 20 rfl rfl rfl rfl rfl rfl rfl (by decide +kernel) (by ((apply iq_fld; (exact q_fieldAddr tab rfl rfl rfl rfl rfl rfl rfl)))) ?_)); (refine a_gt 21 rfl rfl rfl rfl rfl rfl rfl (by decide +kernel) (by (exact q_indexAddrA1 tab rfl rfl rfl rfl (by omega))) ?_); (refine a_gt 22 rfl rfl rfl rfl rfl rfl rfl (by decide +kernel) (by (exact q_ldRo tab rfl rfl rfl (by assumption) (by assumption))) ?_); (refine a_gt 23 rfl rfl rfl rfl rfl rfl rfl (by decide +kernel) (by (exact q_len tab rfl rfl)) ?_); ((refine a_gt 24 rfl rfl rfl rfl rfl rfl rfl (by decide +kernel) (by ((apply iq_fld; (exact q_fieldAddr tab rfl rfl rfl rfl rfl rfl rfl)))) ?_)); ((refine a_gt 25 rfl rfl rfl rfl rfl rfl rfl (by decide +kernel) (by ((exact q_ld1 tab rfl rfl rfl (by first | ((repeat (first | exact List.Mem.head _ | apply List.Mem.tail)); done) | fail) (by (rfl))))) ?_)); (refine a_gt 26 rfl rfl rfl rfl rfl rfl rfl (by decide +kernel) (by (exact q_len tab rfl rfl)) ?_); (refine a_gt 27 rfl rfl rfl rfl rfl rfl rfl (by decide +kernel) (by (exact q_eql rfl rfl)) ?_); refine a_q 28 rfl rfl rfl rfl rfl (by decide +kernel) (by (exact q_pick_t rfl rfl)) ?_; refine a_q 29 rfl rfl rfl rfl rfl (by decide +kernel) (q_assign rfl) ?_))
        refine a_done (by decide +kernel) ?_
        (repeat (first | (refine i_q ?_; (refine d_then ?_)) | refine c_ret ?_))
        exact t_hp (hp' := []) (fun w h => h.subl (by first | ((repeat (first | exact SubL.nil | apply SubL.keep | apply SubL.skip)); done) | fail)) (t_ret1 Try.results22 rfl ⟨by rw [ef], rfl⟩)
      · have ef : fullS (absS x) list l.tabs = false := by simp [fullS]; omega
        (refine a_begin mixed _ 30 rfl (fun w h => h) ?_)
        ((refine a_q 0 rfl rfl rfl rfl rfl (by decide +kernel) (q_move rfl) ?_; refine a_q 1 rfl rfl rfl rfl rfl (by decide +kernel) (by (exact q_nenil tab rfl rfl rfl)) ?_; refine a_q 2 rfl rfl rfl rfl rfl (by decide +kernel) (q_move rfl) ?_; (refine a_gt 3 rfl rfl rfl rfl rfl rfl rfl (by decide +kernel) (q_move rfl) ?_); (refine a_gt 4 rfl rfl rfl rfl rfl rfl rfl (by decide +kernel) (by (exact q_geq rfl rfl)) ?_); refine a_q 5 rfl rfl rfl rfl rfl (by decide +kernel) (by (exact q_pick_t rfl rfl)) ?_; refine a_q 6 rfl rfl rfl rfl rfl (by decide +kernel) (q_move rfl) ?_; ((refine a_known 13 true rfl (by (exact decide_eq_true (by omega))) ?_; (refine a_gt 7 rfl rfl rfl rfl rfl rfl rfl (by decide +kernel) (q_move rfl) ?_))); (refine a_gt 8 rfl rfl rfl rfl rfl rfl rfl (by decide +kernel) (by (exact q_lss rfl rfl)) ?_); refine a_q 9 rfl rfl rfl rfl rfl (by decide +kernel) (by (exact q_pick_t rfl rfl)) ?_; refine a_q 10 rfl rfl rfl rfl rfl (by decide +kernel) (q_move rfl) ?_; ((refine a_known 17 true rfl (by (exact decide_eq_true (by omega))) ?_; ((refine a_gt 11 rfl rfl rfl rfl rfl rfl rfl (by decide +kernel) (by ((apply iq_fld; (exact q_fieldAddr tab rfl rfl rfl rfl rfl rfl rfl)))) ?_)))); ((refine a_gt 12 rfl rfl rfl rfl rfl rfl rfl (by decide +kernel) (by ((exact q_ld1 tab rfl rfl rfl (by first | ((repeat (first | exact List.Mem.head _ | apply List.Mem.tail)); done) | fail) (by (rfl))))) ?_)); (refine a_gt 13 rfl rfl rfl rfl rfl rfl rfl (by decide +kernel) (by (exact q_len tab rfl rfl)) ?_); (refine a_gt 14 rfl rfl rfl rfl rfl rfl rfl (by decide +kernel) (by (exact q_gtr rfl rfl)) ?_); refine a_q 15 rfl rfl rfl rfl rfl (by decide +kernel) (by (exact q_pick_t rfl rfl)) ?_; refine a_q 16 rfl rfl rfl rfl rfl (by decide +kernel) (q_move rfl) ?_; ((refine a_known 23 false rfl (by (exact decide_eq_false (by omega))) ?_; (refine a_gf 17 rfl rfl rfl rfl rfl rfl rfl rfl (by decide +kernel) ?_))); (refine a_gf 18 rfl rfl rfl rfl rfl rfl rfl rfl (by decide +kernel) ?_); (refine a_gf 19 rfl rfl rfl rfl rfl rfl rfl rfl (by decide +kernel) ?_); (refine a_gf 20 rfl rfl rfl rfl rfl rfl rfl rfl (by decide +kernel) ?_); (refine a_gf 21 rfl rfl rfl rfl rfl rfl rfl rfl (by decide +kernel) ?_); (refine a_gf 22 rfl rfl rfl rfl rfl rfl rfl rfl (by decide +kernel) ?_); (refine a_gf 23 rfl rfl rfl rfl rfl rfl rfl rfl (by decide +kernel) ?_); (refine a_gf 24 rfl rfl rfl rfl rfl rfl rfl rfl (by decide +kernel) ?_); (refine a_gf 25 rfl rfl rfl rfl rfl rfl rfl rfl (by decide +kernel) ?_); (refine a_gf 26 rfl rfl rfl rfl rfl rfl rfl rfl (by decide +kernel) ?_); (refine a_gf 27 rfl rfl rfl rfl rfl rfl rfl rfl (by decide +kernel) ?_); refine a_q 28 rfl rfl rfl rfl rfl (by decide +kernel) (by (exact q_pick_f rfl rfl)) ?_; refine a_q 29 rfl rfl rfl rfl rfl (by decide +kernel) (q_assign rfl) ?_))
        refine a_done (by decide +kernel) ?_
        (repeat (first | (refine i_q ?_; (refine d_then ?_)) | refine c_ret ?_))
        exact t_hp (hp' := []) (fun w h => h.subl (by first | ((repeat (first | exact SubL.nil | apply SubL.keep | apply SubL.skip)); done) | fail)) (t_ret1 Try.results22 rfl ⟨by rw [ef], rfl⟩)
    · have ef : fullS (absS x) list l.tabs = false := by simp [fullS]; omega
      (refine a_begin mixed _ 30 rfl (fun w h => h) ?_)
      ((refine a_q 0 rfl rfl rfl rfl rfl (by decide +kernel) (q_move rfl) ?_; refine a_q 1 rfl rfl rfl rfl rfl (by decide +kernel) (by (exact q_nenil tab rfl rfl rfl)) ?_; refine a_q 2 rfl rfl rfl rfl rfl (by decide +kernel) (q_move rfl) ?_; (refine a_gt 3 rfl rfl rfl rfl rfl rfl rfl (by decide +kernel) (q_move rfl) ?_); (refine a_gt 4 rfl rfl rfl rfl rfl rfl rfl (by decide +kernel) (by (exact q_geq rfl rfl)) ?_); refine a_q 5 rfl rfl rfl rfl rfl (by decide +kernel) (by (exact q_pick_t rfl rfl)) ?_; refine a_q 6 rfl rfl rfl rfl rfl (by decide +kernel) (q_move rfl) ?_; ((refine a_known 13 true rfl (by (exact decide_eq_true (by omega))) ?_; (refine a_gt 7 rfl rfl rfl rfl rfl rfl rfl (by decide +kernel) (q_move rfl) ?_))); (refine a_gt 8 rfl rfl rfl rfl rfl rfl rfl (by decide +kernel) (by (exact q_lss rfl rfl)) ?_); refine a_q 9 rfl rfl rfl rfl rfl (by decide +kernel) (by (exact q_pick_t rfl rfl)) ?_; refine a_q 10 rfl rfl rfl rfl rfl (by decide +kernel) (q_move rfl) ?_; ((refine a_known 17 false rfl (by (exact decide_eq_false (by omega))) ?_; (refine a_gf 11 rfl rfl rfl rfl rfl rfl rfl rfl (by decide +kernel) ?_))); (refine a_gf 12 rfl rfl rfl rfl rfl rfl rfl rfl (by decide +kernel) ?_); (refine a_gf 13 rfl rfl rfl rfl rfl rfl rfl rfl (by decide +kernel) ?_); (refine a_gf 14 rfl rfl rfl rfl rfl rfl rfl rfl (by decide +kernel) ?_); refine a_q 15 rfl rfl rfl rfl rfl (by decide +kernel) (by (exact q_pick_f rfl rfl)) ?_; refine a_q 16 rfl rfl rfl rfl rfl (by decide +kernel) (q_move rfl) ?_; (refine a_gf 17 rfl rfl rfl rfl rfl rfl rfl rfl (by decide +kernel) ?_); (refine a_gf 18 rfl rfl rfl rfl rfl rfl rfl rfl (by decide +kernel) ?_); (refine a_gf 19 rfl rfl rfl rfl rfl rfl rfl rfl (by decide +kernel) ?_); (refine a_gf 20 rfl rfl rfl rfl rfl rfl rfl rfl (by decide +kernel) ?_); (refine a_gf 21 rfl rfl rfl rfl rfl rfl rfl rfl (by decide +kernel) ?_); (refine a_gf 22 rfl rfl rfl rfl rfl rfl rfl rfl (by decide +kernel) ?_); (refine a_gf 23 rfl rfl rfl rfl rfl rfl rfl rfl (by decide +kernel) ?_); (refine a_gf 24 rfl rfl rfl rfl rfl rfl rfl rfl (by decide +kernel) ?_); (refine a_gf 25 rfl rfl rfl rfl rfl rfl rfl rfl (by decide +kernel) ?_); (refine a_gf 26 rfl rfl rfl rfl rfl rfl rfl rfl (by decide +kernel) ?_); (refine a_gf 27 rfl rfl rfl rfl rfl rfl rfl rfl (by decide +kernel) ?_); refine a_q 28 rfl rfl rfl rfl rfl (by decide +kernel) (by (exact q_pick_f rfl rfl)) ?_; refine a_q 29 rfl rfl rfl rfl rfl (by decide +kernel) (q_assign rfl) ?_))
      refine a_done (by decide +kernel) ?_
      (repeat (first | (refine i_q ?_; (refine d_then ?_)) | refine c_ret ?_))
      exact t_hp (hp' := []) (fun w h => h.subl (by first | ((repeat (first | exact SubL.nil | apply SubL.keep | apply SubL.skip)); done) | fail)) (t_ret1 Try.results22 rfl ⟨by rw [ef], rfl⟩)
  · have ef : fullS (absS x) list l.tabs = false := by simp [fullS]; omega
    (refine a_begin mixed _ 30 rfl (fun w h => h) ?_)
    ((refine a_q 0 rfl rfl rfl rfl rfl (by decide +kernel) (q_move rfl) ?_; refine a_q 1 rfl rfl rfl rfl rfl (by decide +kernel) (by (exact q_nenil tab rfl rfl rfl)) ?_; refine a_q 2 rfl rfl rfl rfl rfl (by decide +kernel) (q_move rfl) ?_; (refine a_gt 3 rfl rfl rfl rfl rfl rfl rfl (by decide +kernel) (q_move rfl) ?_); (refine a_gt 4 rfl rfl rfl rfl rfl rfl rfl (by decide +kernel) (by (exact q_geq rfl rfl)) ?_); refine a_q 5 rfl rfl rfl rfl rfl (by decide +kernel) (by (exact q_pick_t rfl rfl)) ?_; refine a_q 6 rfl rfl rfl rfl rfl (by decide +kernel) (q_move rfl) ?_; ((refine a_known 13 false rfl (by (exact decide_eq_false (by omega))) ?_; (refine a_gf 7 rfl rfl rfl rfl rfl rfl rfl rfl (by decide +kernel) ?_))); (refine a_gf 8 rfl rfl rfl rfl rfl rfl rfl rfl (by decide +kernel) ?_); refine a_q 9 rfl rfl rfl rfl rfl (by decide +kernel) (by (exact q_pick_f rfl rfl)) ?_; refine a_q 10 rfl rfl rfl rfl rfl (by decide +kernel) (q_move rfl) ?_; (refine a_gf 11 rfl rfl rfl rfl rfl rfl rfl rfl (by decide +kernel) ?_); (refine a_gf 12 rfl rfl rfl rfl rfl rfl rfl rfl (by decide +kernel) ?_); (refine a_gf 13 rfl rfl rfl rfl rfl rfl rfl rfl (by decide +kernel) ?_); (refine a_gf 14 rfl rfl rfl rfl rfl rfl rfl rfl (by decide +kernel) ?_); refine a_q 15 rfl rfl rfl rfl rfl (by decide +kernel) (by (exact q_pick_f rfl rfl)) ?_; refine a_q 16 rfl rfl rfl rfl rfl (by decide +kernel) (q_move rfl) ?_; (refine a_gf 17 rfl rfl rfl rfl rfl rfl rfl rfl (by decide +kernel) ?_); (refine a_gf 18 rfl rfl rfl rfl rfl rfl rfl rfl (by decide +kernel) ?_); (refine a_gf 19 rfl rfl rfl rfl rfl rfl rfl rfl (by decide +kernel) ?_); (refine a_gf 20 rfl rfl rfl rfl rfl rfl rfl rfl (by decide +kernel) ?_); (refine a_gf 21 rfl rfl rfl rfl rfl rfl rfl rfl (by decide +kernel) ?_); (refine a_gf 22 rfl rfl rfl rfl rfl rfl rfl rfl (by decide +kernel) ?_); (refine a_gf 23 rfl rfl rfl rfl rfl rfl rfl rfl (by decide +kernel) ?_); (refine a_gf 24 rfl rfl rfl rfl rfl rfl rfl rfl (by decide +kernel) ?_); (refine a_gf 25 rfl rfl rfl rfl rfl rfl rfl rfl (by decide +kernel) ?_); (refine a_gf 26 rfl rfl rfl rfl rfl rfl rfl rfl (by decide +kernel) ?_); (refine a_gf 27 rfl rfl rfl rfl rfl rfl rfl rfl (by decide +kernel) ?_); refine a_q 28 rfl rfl rfl rfl rfl (by decide +kernel) (by (exact q_pick_f rfl rfl)) ?_; refine a_q 29 rfl rfl rfl rfl rfl (by decide +kernel) (q_assign rfl) ?_))
    refine a_done (by decide +kernel) ?_
    (repeat (first | (refine i_q ?_; (refine d_then ?_)) | refine c_ret ?_))
    exact t_hp (hp' := []) (fun w h => h.subl (by first | ((repeat (first | exact SubL.nil | apply SubL.keep | apply SubL.skip)); done) | fail)) (t_ret1 Try.results22 rfl ⟨by rw [ef], rfl⟩)
end Go.Proofs.Ytboccjdncdaakaa

/-
  Layer 14: Take, walked.
-/

set_option linter.unusedVariables false
set_option maxRecDepth 100000
namespace Go.Proofs.Ytboccjdncdaakaa
open Go.RowKit
attribute [local irreducible] TL TC TQ TK TO Qt TA
theorem takeS_some {X : Sm} {ls : List ListI} {code i k : Nat} {b : List Int} (h : ofM code ls = some (i, k)) (hb : ¬ b.length < needsM (tabM ls i k)) : takeS X ls code b = (if k = 0 then (X.set i [b], true) else if k = (X.getD i []).length then (X.set i (X.getD i [] ++ [b]), true) else (X.set i [], false)) := by
  rw [takeS, h]
  dsimp only
  rw [if_neg hb]
theorem part_shut {S : Nat → Prop} {w0 w : World} {F : List Asn} {v u : Value} {n : Nat} {vs : List Value} {bs : List (List Int)} {b : List Int} (hn : vs.length = n) (hl : vs.length = bs.length) (h : St S w0 (row 38 1 v (n + 1) (vs ++ [u]) :: bytesA u b :: starL (List.zipWith bytesA vs bs) :: F) w) : St S w0 (partA ⟨v, vs ++ [u], bs ++ [b]⟩ :: F) w := by
  have h1 : St S w0 (bytesA u b :: starL (List.zipWith bytesA vs bs) :: row 38 1 v (n + 1) (vs ++ [u]) :: F) w := h.perm (by
    refine .trans (.swap _ _ _) (.cons _ ?_)
    exact .swap _ _ _)
  have h2 := st_starS hl h1
  refine part_mk (y := ⟨v, vs ++ [u], bs ++ [b]⟩) ?_
  dsimp only
  rw [List.length_append, List.length_append, hn, List.length_singleton, List.length_singleton]
  have h3 : St S w0 (pureA (n + 1 = bs.length + 1) :: starL (List.zipWith bytesA (vs ++ [u]) (bs ++ [b])) :: row 38 1 v (n + 1) (vs ++ [u]) :: F) w := st_pure (by omega) h2
  exact h3.perm (.trans (.cons _ (.swap _ _ _)) (.swap _ _ _))
def TakeOut (t : TypeId) (p : Nat) (r : Sm × Bool) (v : Value) (B : List Asn) : Prop := ∃ x', v = .bool r.2 ∧ B = [stimA t p x'] ∧ absS x' = r.1
attribute [local irreducible] blk row bytesA starL memA segA roB
attribute [local irreducible] stimA partA
set_option maxHeartbeats 4000000 in
theorem stake_spec {p : Nat} {x : List PartV} {w : World} (hA : Hold [stimA sT p x] w) (A : Option Addr) (n c : Nat) (ls : List ListI) (hls : InS (fps [stimA sT p x]) w 8 (InList (fps [stimA sT p x]) w) A n ls) (hnc : n ≤ c) (hcm : c ≤ maxLen) (hsm : ∀ l ∈ ls, SmallL l)
    (kind code : Nat) (hc : code ≤ 255) (B : Option Addr) (k cb : Nat) (b : List Int) (hr : Ro (fps [stimA sT p x]) w (roB B k b)) (hk : k ≤ 1000000) :
    Calls Try.prog 8 #[.pointer (some ⟨p, 0, none⟩), .slice A n c, .agg #[.int .u8 kind, .int .u8 code, .slice B k cb]] w (Ret w [stimA sT p x] (TakeOut sT p (takeS (absS x) ls code b))) := by
  refine enter (vs := [.pointer (some ⟨p, 0, none⟩), .slice A n c, .agg #[.int .u8 kind, .int .u8 code, .slice B k cb]]) Try.func8 rfl Try.ntmps8 rfl hA ?_
  have hx4 : x.length = 4 := stim_len (t := sT) (p := p) (hA.all _ (by simp))
  have hbl : b.length = k := roB_len hr.is
  have hmx : maxLen = 2 ^ 63 - 1 := rfl
  (repeat (first | (refine i_dst ?_; (first | (refine i_move ?_; refine l_q rfl rfl rfl (q_move rfl) ?_) | (refine i_assign ?_; refine l_q rfl rfl rfl (q_assign rfl) ?_) | (refine i_load ?_; refine l_q rfl rfl rfl (by ((exact q_ld1 tab rfl rfl rfl (by first | ((repeat (first | exact List.Mem.head _ | apply List.Mem.tail)); done) | fail) (by (rfl))))) ?_) | (refine i_box ?_; (refine l_boxA rfl rfl (fun _ => ?_))) | (refine l_q rfl rfl rfl (by ((apply iq_fld; (exact q_fieldAddr tab rfl rfl rfl rfl rfl rfl rfl)))) ?_))) | refine d_seq ?_ | refine c_region ?_ | refine l_nil ?_ | (refine i_q ?_; (refine d_then ?_))))
  rename_i b5
  (refine l_call0 rfl rfl Try.func18 rfl (by decide) (fun w' h => of_stim_spec (hls.to (fun r hr => roOf0 h hr) (fun r x hx => hx.to (fun r hr => roOf0 h hr))) hnc hcm code hc) (fun v B hv => ?_); obtain ⟨rfl, rfl⟩ := hv)
  cases hof : ofM code ls with
  | none =>
    have et : takeS (absS x) ls code b = (absS x, false) := by rw [takeS, hof]
    rw [ofRes, et]
    (repeat (first | (refine i_dst ?_; (first | (refine i_move ?_; refine l_q rfl rfl rfl (q_move rfl) ?_) | (refine i_assign ?_; refine l_q rfl rfl rfl (q_assign rfl) ?_) | refine l_q rfl rfl rfl (by (exact q_extract rfl rfl)) ?_)) | refine d_seq ?_ | refine l_nil ?_ | (refine i_q ?_; (refine d_then ?_))))
    (refine a_begin mixed [blk b5 [.int .u8 kind, .int .u8 code, .slice B k cb] 41] 21 rfl (fun w h => h.subl (by first | ((repeat (first | exact SubL.nil | apply SubL.keep | apply SubL.skip)); done) | fail)) ?_)
    ((refine a_q 0 rfl rfl rfl rfl rfl (by decide +kernel) (q_move rfl) ?_; refine a_q 1 rfl rfl rfl rfl rfl (by decide +kernel) (by (exact q_eqnil tab rfl rfl rfl)) ?_; refine a_q 2 rfl rfl rfl rfl rfl (by decide +kernel) (q_move rfl) ?_; (refine a_gt 3 rfl rfl rfl rfl rfl rfl rfl (by decide +kernel) (q_move rfl) ?_); (refine a_gt 4 rfl rfl rfl rfl rfl rfl rfl (by decide +kernel) (by (exact q_not rfl)) ?_); refine a_q 5 rfl rfl rfl rfl rfl (by decide +kernel) (by (exact q_pick_f rfl rfl)) ?_; refine a_q 6 rfl rfl rfl rfl rfl (by decide +kernel) (q_move rfl) ?_; (refine a_gf 7 rfl rfl rfl rfl rfl rfl rfl rfl (by decide +kernel) ?_); (refine a_gf 8 rfl rfl rfl rfl rfl rfl rfl rfl (by decide +kernel) ?_); (refine a_gf 9 rfl rfl rfl rfl rfl rfl rfl rfl (by decide +kernel) ?_); (refine a_gf 10 rfl rfl rfl rfl rfl rfl rfl rfl (by decide +kernel) ?_); (refine a_gf 11 rfl rfl rfl rfl rfl rfl rfl rfl (by decide +kernel) ?_); (refine a_gf 12 rfl rfl rfl rfl rfl rfl rfl rfl (by decide +kernel) ?_); (refine a_gf 13 rfl rfl rfl rfl rfl rfl rfl rfl (by decide +kernel) ?_); (refine a_gf 14 rfl rfl rfl rfl rfl rfl rfl rfl (by decide +kernel) ?_); (refine a_gf 15 rfl rfl rfl rfl rfl rfl rfl rfl (by decide +kernel) ?_); (refine a_gf 16 rfl rfl rfl rfl rfl rfl rfl rfl (by decide +kernel) ?_); (refine a_gf 17 rfl rfl rfl rfl rfl rfl rfl rfl (by decide +kernel) ?_)))
    refine a_gf 18 rfl rfl rfl rfl rfl rfl rfl rfl (by decide +kernel) ?_
    (((refine a_gf 19 rfl rfl rfl rfl rfl rfl rfl rfl (by decide +kernel) ?_); refine a_q 20 rfl rfl rfl rfl rfl (by decide +kernel) (by (exact q_pick_t rfl rfl)) ?_))
    refine a_done (by decide +kernel) ?_
    (repeat (first | (refine i_dst ?_; ((refine i_assign ?_; refine l_q rfl rfl rfl (q_assign rfl) ?_))) | refine d_seq ?_ | refine c_region ?_ | refine l_nil ?_ | (refine i_q ?_; (first | refine d_then ?_ | refine d_then_ret ?_)) | refine c_ret ?_ | (refine i_cond ?_; (refine c_ct rfl (by (rfl)) ?_))))
    exact t_hp (hp' := [stimA sT p x]) (fun w h => h.subl (by first | ((repeat (first | exact SubL.nil | apply SubL.keep | apply SubL.skip)); done) | fail)) (t_ret1 Try.results8 rfl ⟨x, rfl, rfl, rfl⟩)
  | some q =>
    obtain ⟨i, j⟩ := q
    obtain ⟨l, t, hl, hi4, ht, hhit, hj, htab⟩ := ofM_some hof
    have hil := (List.getElem?_eq_some_iff.1 hl).1
    have hjl := (List.getElem?_eq_some_iff.1 ht).1
    obtain ⟨hs1, hs2⟩ := hsm l (List.mem_of_getElem? hl)
    have ht1000 := hs2 t (List.mem_of_getElem? ht)
    obtain ⟨bA, oA, r, rfl, hrl, hL, hcell⟩ := hls.get (by omega) hl
    obtain ⟨⟨At, nt, ct, rfl, htabs, ht1, ht2⟩, -, -, -, -⟩ := hL
    obtain ⟨bT, oT, r2, rfl, hrl2, hT, hcell2⟩ := htabs.get (by omega) ht
    obtain ⟨Ae, ne, ce, rfl, hE, he1, he2⟩ := hT
    have hlen := hls.len
    have htl := htabs.len
    have hel := hE.len
    have hc1 : ∀ hp w', St (fps [stimA sT p x]) w hp w' → w'.cell? ⟨bA, oA + (i : Int).toNat * 8 + 1, none⟩ = some (.slice (some ⟨bT, oT, none⟩) nt ct) := fun hp w' h => (hcell hp w' h) 1 _ rfl
    have hc2 : ∀ hp w', St (fps [stimA sT p x]) w hp w' → w'.cell? ⟨bT, oT + (j : Int).toNat, none⟩ = some (.slice Ae ne ce) := fun hp w' h => by
      have := (hcell2 hp w' h) 0 _ rfl
      simpa using this
    rw [ofRes]
    (repeat (first | (refine i_dst ?_; (first | (refine i_move ?_; refine l_q rfl rfl rfl (q_move rfl) ?_) | (refine i_assign ?_; refine l_q rfl rfl rfl (q_assign rfl) ?_) | refine l_q rfl rfl rfl (by (exact q_extract rfl rfl)) ?_)) | refine d_seq ?_ | refine l_nil ?_ | (refine i_q ?_; (refine d_then ?_))))
    (refine a_begin mixed [blk b5 [.int .u8 kind, .int .u8 code, .slice B k cb] 41] 21 rfl (fun w h => h.subl (by first | ((repeat (first | exact SubL.nil | apply SubL.keep | apply SubL.skip)); done) | fail)) ?_)
    ((refine a_q 0 rfl rfl rfl rfl rfl (by decide +kernel) (q_move rfl) ?_; refine a_q 1 rfl rfl rfl rfl rfl (by decide +kernel) (by (exact q_eqnil tab rfl rfl rfl)) ?_; refine a_q 2 rfl rfl rfl rfl rfl (by decide +kernel) (q_move rfl) ?_; (refine a_gt 3 rfl rfl rfl rfl rfl rfl rfl (by decide +kernel) (q_move rfl) ?_); (refine a_gt 4 rfl rfl rfl rfl rfl rfl rfl (by decide +kernel) (by (exact q_not rfl)) ?_); refine a_q 5 rfl rfl rfl rfl rfl (by decide +kernel) (by (exact q_pick_f rfl rfl)) ?_; refine a_q 6 rfl rfl rfl rfl rfl (by decide +kernel) (q_move rfl) ?_; ((refine a_gt 7 rfl rfl rfl rfl rfl rfl rfl (by decide +kernel) (by ((apply iq_fld; (exact q_fieldAddr tab rfl rfl rfl rfl rfl rfl rfl)))) ?_)); ((refine a_gt 8 rfl rfl rfl rfl rfl rfl rfl (by decide +kernel) (by ((exact q_ld1 tab rfl rfl rfl (by first | ((repeat (first | exact List.Mem.head _ | apply List.Mem.tail)); done) | fail) (by (rfl))))) ?_)); (refine a_gt 9 rfl rfl rfl rfl rfl rfl rfl (by decide +kernel) (by (exact q_len tab rfl rfl)) ?_); (refine a_gt 10 rfl rfl rfl rfl rfl rfl rfl (by decide +kernel) (q_move rfl) ?_); (refine a_gt 11 rfl rfl rfl rfl rfl rfl rfl (by decide +kernel) (q_move rfl) ?_); (refine a_gt 12 rfl rfl rfl rfl rfl rfl rfl (by decide +kernel) (by (exact q_indexAddr tab rfl rfl rfl rfl (by omega))) ?_); ((refine a_gt 13 rfl rfl rfl rfl rfl rfl rfl (by decide +kernel) (by ((apply iq_fld; (exact q_fieldAddr tab rfl rfl rfl rfl rfl rfl rfl)))) ?_)); (refine a_gt 14 rfl rfl rfl rfl rfl rfl rfl (by decide +kernel) (by (exact q_ldc tab rfl rfl rfl (by assumption))) ?_); (refine a_gt 15 rfl rfl rfl rfl rfl rfl rfl (by decide +kernel) (q_move rfl) ?_); (refine a_gt 16 rfl rfl rfl rfl rfl rfl rfl (by decide +kernel) (by (exact q_indexAddr1 tab rfl rfl rfl rfl (by omega))) ?_); (refine a_gt 17 rfl rfl rfl rfl rfl rfl rfl (by decide +kernel) (by (exact q_ldc tab rfl rfl rfl (by assumption))) ?_)))
    refine a_eg 18 rfl (by decide +kernel) rfl rfl rfl (fun K hK => e_call0 rfl rfl Try.func19 rfl (by decide) (fun w' h => needs_spec (hE.to (fun r hr => roOf0 h hr) (fun _ _ hx => hx)) (by omega)) (fun v B hv => ?_))
    obtain ⟨rfl, rfl⟩ := hv
    refine hK _ _ (fun w h => h.subl (by first | ((repeat (first | exact SubL.nil | apply SubL.keep | apply SubL.skip)); done) | fail)) ?_
    clear hK
    by_cases hb : b.length < needsM t
    · have et : takeS (absS x) ls code b = (absS x, false) := by
        rw [takeS, hof]
        dsimp only
        rw [if_pos (by rw [htab]; exact hb)]
      rw [et]
      (((refine a_gt 19 rfl rfl rfl rfl rfl rfl rfl (by decide +kernel) (by (exact q_lss rfl rfl)) ?_); refine a_q 20 rfl rfl rfl rfl rfl (by decide +kernel) (by (exact q_pick_f rfl rfl)) ?_))
      refine a_done (by decide +kernel) ?_
      (repeat (first | (refine i_dst ?_; ((refine i_assign ?_; refine l_q rfl rfl rfl (q_assign rfl) ?_))) | refine d_seq ?_ | refine c_region ?_ | refine l_nil ?_ | (refine i_q ?_; (first | refine d_then ?_ | refine d_then_ret ?_)) | refine c_ret ?_ | (refine i_cond ?_; (refine c_ct rfl (by (exact decide_eq_true (by omega))) ?_))))
      exact t_hp (hp' := [stimA sT p x]) (fun w h => h.subl (by first | ((repeat (first | exact SubL.nil | apply SubL.keep | apply SubL.skip)); done) | fail)) (t_ret1 Try.results8 rfl ⟨x, rfl, rfl, rfl⟩)
    · rw [takeS_some hof (by rw [htab]; exact hb)]
      (((refine a_gt 19 rfl rfl rfl rfl rfl rfl rfl (by decide +kernel) (by (exact q_lss rfl rfl)) ?_); refine a_q 20 rfl rfl rfl rfl rfl (by decide +kernel) (by (exact q_pick_f rfl rfl)) ?_))
      refine a_done (by decide +kernel) ?_
      obtain ⟨y, hy⟩ : ∃ y, x[i]? = some y := ⟨_, List.getElem?_eq_getElem (by omega)⟩
      refine t_hp (hp' := partA y :: blk p (x.map (·.v)) sT :: starL ((x.map partA).set i emp) :: starL [emp, pureA (x.length = 4), emp] :: [blk b5 [.int .u8 kind, .int .u8 code, .slice B k cb] 41]) (fun w h => stim_focus hy (h.ext (by first | ((repeat (first | exact Ext.head | apply Ext.tail)); done) | fail))) ?_
      have hxl : i < (x.map (·.v)).length := by rw [List.length_map]; omega
      by_cases hj0 : j = 0
      · subst hj0
        rw [if_pos rfl]
        have hmx' : 0 + 0 + (i : Int).toNat < (x.map (·.v)).length := by omega
        have hset : ((x.map (·.v)).set (0 + 0 + (i : Int).toNat) (.slice none 0 0))[0 + 0 + (i : Int).toNat]? = some (.slice none 0 0) := List.getElem?_set_self hmx'
        have hmx2 : 0 + 0 + (i : Int).toNat < ((x.map (·.v)).set (0 + 0 + (i : Int).toNat) (.slice none 0 0)).length := by rw [List.length_set]; exact hmx'
        (repeat (first | (refine i_dst ?_; (first | (refine i_move ?_; refine l_q rfl rfl rfl (q_move rfl) ?_) | (refine i_assign ?_; refine l_q rfl rfl rfl (q_assign rfl) ?_) | (refine i_load ?_; refine l_q rfl rfl rfl (by ((exact q_ld1 tab rfl rfl rfl (by first | ((repeat (first | exact List.Mem.head _ | apply List.Mem.tail)); done) | fail) (by (assumption))))) ?_) | (refine i_bin ?_; refine l_q rfl rfl rfl (by (first | exact q_eql rfl rfl | exact q_neq rfl rfl)) ?_) | (refine i_blt ?_; refine l_q rfl rfl rfl (by (exact q_len tab rfl rfl)) ?_) | (refine i_ix ?_; refine l_q rfl rfl rfl (by (exact q_indexAddrA1 tab rfl rfl rfl rfl (by omega))) ?_) | (refine l_q rfl rfl rfl (by (first | (apply iq_fld; (exact q_fieldAddr tab rfl rfl rfl rfl rfl rfl rfl)) | (apply iq_nck; (exact q_nilck rfl)))) ?_))) | refine d_seq ?_ | refine c_region ?_ | refine l_nil ?_ | (refine i_q ?_; (refine d_then ?_)) | refine c_skip ?_ | (refine i_store ?_; ((refine l_setI tab rfl rfl rfl rfl (by first | ((repeat (first | exact Upd.head | apply Upd.tail)); done) | fail) (by (omega)) ?_))) | (refine i_cond ?_; (first | refine c_ct rfl (by (rfl)) ?_ | refine c_cf rfl (by (first | rfl | exact decide_eq_false (by omega))) ?_))))
        refine c_hp (hp' := row 38 1 (.slice none 0 0) 0 [] :: starL (List.zipWith bytesA [] []) :: blk p ((x.map (·.v)).set (0 + 0 + (i : Int).toNat) (.slice none 0 0)) sT :: starL ((x.map partA).set i emp) :: starL [emp, pureA (x.length = 4), emp] :: [blk b5 [.int .u8 kind, .int .u8 code, .slice B k cb] 41]) (fun w h => st_nil (st_star0 (h.subl (by first | ((repeat (first | exact SubL.nil | apply SubL.keep | apply SubL.skip)); done) | fail))) _ 1) ?_
        (refine a_beginE mixed [blk p ((x.map (·.v)).set (0 + 0 + (i : Int).toNat) (.slice none 0 0)) sT, blk b5 [.int .u8 kind, .int .u8 code, .slice B k cb] 41] [blk b5 [.int .u8 kind, .int .u8 code, .slice B k cb] 41] 11 10 rfl (fun w h => h.subl (by first | ((repeat (first | exact SubL.nil | apply SubL.keep | apply SubL.skip)); done) | fail)) (fun w h => h.subl (by first | ((repeat (first | exact SubL.nil | apply SubL.keep | apply SubL.skip)); done) | fail)) ?_)
        ((refine a_q 0 rfl rfl rfl rfl rfl (by decide +kernel) (q_move rfl) ?_; refine a_q 1 rfl rfl rfl rfl rfl (by decide +kernel) (q_move rfl) ?_; refine a_q 2 rfl rfl rfl rfl rfl (by decide +kernel) (by ((apply iq_nck; (exact q_nilck rfl)))) ?_; ((refine a_y 3 rfl rfl rfl rfl rfl (by decide +kernel) (by ((exact q_ld1 tab rfl rfl rfl (by first | ((repeat (first | exact List.Mem.head _ | apply List.Mem.tail)); done) | fail) (by (assumption))))) ?_)); refine a_q 4 rfl rfl rfl rfl rfl (by decide +kernel) (by ((apply iq_fld; (exact q_fieldAddr tab rfl rfl rfl rfl rfl rfl rfl)))) ?_; ((refine a_q 5 rfl rfl rfl rfl rfl (by decide +kernel) (by ((exact q_ld1 tab rfl rfl rfl (by first | ((repeat (first | exact List.Mem.head _ | apply List.Mem.tail)); done) | fail) (by (rfl))))) ?_))))
        (refine a_e 6 rfl (by decide +kernel) rfl (fun K hK => e_call0 rfl rfl Try.func20 rfl (by decide) (fun w' h => clone_spec B k cb b w' (roOf0 h hr) hk) (fun v B hv => ?_)); obtain ⟨A', c', rfl, rfl⟩ := hv; refine hK _ _ (fun w h => h.subl (by first | ((repeat (first | exact SubL.nil | apply SubL.keep | apply SubL.skip)); done) | fail)) ?_; clear hK)
        (skip)
        (refine a_e 7 rfl (by decide +kernel) rfl (fun K hK => e_bldS tab rfl rfl rfl rfl (by first | exact CellsOf.agg | exact CellsOf.one rfl) (by first | ((repeat (first | exact RepR.zero | exact AppR.nil | apply RepR.succ | apply AppR.cons)); done) | fail) (by first | ((repeat (first | exact FillR.nil | exact LSets.nil | exact LSet.zero | exact CellsOf.agg | exact rfl | exact CellsOf.one rfl | apply FillR.cons | apply LSets.cons | apply LSet.succ)); done) | fail) (fun w => by kernel_rfl) (fun g8 => hK _ _ (fun w h => h.subl (by first | ((repeat (first | exact SubL.nil | apply SubL.keep | apply SubL.skip)); done) | fail)) ?_)); clear hK)
        (skip)
        (refine a_e 8 rfl (by decide +kernel) rfl (fun K hK => e_app tab rfl rfl rfl rowBB (by first | ((repeat (first | exact Ext.head | apply Ext.tail)); done) | fail) (news := [.slice A' b.length c']) (fun w h => SrcAt.blk (h.mem (by first | ((repeat (first | exact List.Mem.head _ | apply List.Mem.tail)); done) | fail)) rfl) (by simp [Value.oneCell']) (by omega) (by omega) (fun A3 c3 hA1 hA2 => hK _ _ (fun w h => h.subl (by first | ((repeat (first | exact SubL.nil | apply SubL.keep | apply SubL.skip)); done) | fail)) ?_)); clear hK)
        ((refine a_q 9 rfl rfl rfl rfl rfl (by decide +kernel) (by ((apply iq_nck; (exact q_nilck rfl)))) ?_))
        refine a_e 10 rfl (by decide +kernel) rfl (fun K hK => e_setI tab rfl rfl rfl rfl (by first | ((repeat (first | exact Upd.head | apply Upd.tail)); done) | fail) hmx2 (hK _ _ (fun w h => h.subl (by first | ((repeat (first | exact SubL.nil | apply SubL.keep | apply SubL.skip)); done) | fail)) ?_))
        clear hK
        refine a_done (by decide +kernel) ?_
        (repeat (first | (refine i_dst ?_; ((refine i_assign ?_; refine l_q rfl rfl rfl (q_assign rfl) ?_))) | refine d_seq ?_ | refine c_region ?_ | refine l_nil ?_ | (refine i_q ?_; (refine d_then ?_)) | refine c_ret ?_))
        refine t_hp (hp' := [stimA sT p (x.set i ⟨.slice A3 (0 + 1) c3, [] ++ [.slice A' b.length c'], [] ++ [b]⟩)]) (fun w h => ?_) (t_ret1 Try.results8 rfl ⟨_, rfl, rfl, by rw [absS_set]; rfl⟩)
        have e0 : 0 + 0 + (i : Int).toNat = i := by omega
        rw [e0, List.set_set] at h
        exact stim_unfocus (by omega) (part_shut rfl rfl (h.subl (by first | ((repeat (first | exact SubL.nil | apply SubL.keep | apply SubL.skip)); done) | fail)))
      · rw [if_neg hj0, absS_get hy]
        refine t_fact (p := ∃ Ay cy, y.v = .slice Ay y.bs.length cy ∧ y.bs.length ≤ cy ∧ cy ≤ maxLen ∧ y.vs.length = y.bs.length) (fun w h => part_v (h.get (i := 0) rfl)) ?_
        rintro ⟨Ay, cy, hyv, hy2, hy3, hy4⟩
        have hv : (x.map (·.v))[0 + 0 + (i : Int).toNat]? = some (.slice Ay y.bs.length cy) := by simp [hy, hyv]
        have hmx' : 0 + 0 + (i : Int).toNat < (x.map (·.v)).length := by omega
        by_cases hjm : j = y.bs.length
        · rw [if_pos hjm]
          (repeat (first | (refine i_dst ?_; (first | (refine i_move ?_; refine l_q rfl rfl rfl (q_move rfl) ?_) | (refine i_assign ?_; refine l_q rfl rfl rfl (q_assign rfl) ?_) | (refine i_load ?_; refine l_q rfl rfl rfl (by ((exact q_ld1 tab rfl rfl rfl (by first | ((repeat (first | exact List.Mem.head _ | apply List.Mem.tail)); done) | fail) (by (assumption))))) ?_) | (refine i_bin ?_; refine l_q rfl rfl rfl (by (first | exact q_eql rfl rfl | exact q_neq rfl rfl)) ?_) | (refine i_blt ?_; refine l_q rfl rfl rfl (by (exact q_len tab rfl rfl)) ?_) | (refine i_ix ?_; refine l_q rfl rfl rfl (by (exact q_indexAddrA1 tab rfl rfl rfl rfl (by omega))) ?_) | (refine l_q rfl rfl rfl (by (first | (apply iq_fld; (exact q_fieldAddr tab rfl rfl rfl rfl rfl rfl rfl)) | (apply iq_nck; (exact q_nilck rfl)))) ?_))) | refine d_seq ?_ | refine c_region ?_ | refine l_nil ?_ | (refine i_q ?_; (refine d_then ?_)) | refine c_skip ?_ | (refine i_cond ?_; (refine c_cf rfl (by (exact decide_eq_false (by omega))) ?_))))
          refine c_hp (hp' := row 38 1 (.slice Ay y.bs.length cy) y.bs.length y.vs :: starL (List.zipWith bytesA y.vs y.bs) :: blk p (x.map (·.v)) sT :: starL ((x.map partA).set i emp) :: starL [emp, pureA (x.length = 4), emp] :: [blk b5 [.int .u8 kind, .int .u8 code, .slice B k cb] 41]) (fun w h => by rw [← hyv, ← hy4]; exact part_open h) ?_
          (refine a_beginE mixed [blk p (x.map (·.v)) sT, blk b5 [.int .u8 kind, .int .u8 code, .slice B k cb] 41] [blk b5 [.int .u8 kind, .int .u8 code, .slice B k cb] 41] 11 10 rfl (fun w h => h.subl (by first | ((repeat (first | exact SubL.nil | apply SubL.keep | apply SubL.skip)); done) | fail)) (fun w h => h.subl (by first | ((repeat (first | exact SubL.nil | apply SubL.keep | apply SubL.skip)); done) | fail)) ?_)
          ((refine a_q 0 rfl rfl rfl rfl rfl (by decide +kernel) (q_move rfl) ?_; refine a_q 1 rfl rfl rfl rfl rfl (by decide +kernel) (q_move rfl) ?_; refine a_q 2 rfl rfl rfl rfl rfl (by decide +kernel) (by ((apply iq_nck; (exact q_nilck rfl)))) ?_; ((refine a_y 3 rfl rfl rfl rfl rfl (by decide +kernel) (by ((exact q_ld1 tab rfl rfl rfl (by first | ((repeat (first | exact List.Mem.head _ | apply List.Mem.tail)); done) | fail) (by (assumption))))) ?_)); refine a_q 4 rfl rfl rfl rfl rfl (by decide +kernel) (by ((apply iq_fld; (exact q_fieldAddr tab rfl rfl rfl rfl rfl rfl rfl)))) ?_; ((refine a_q 5 rfl rfl rfl rfl rfl (by decide +kernel) (by ((exact q_ld1 tab rfl rfl rfl (by first | ((repeat (first | exact List.Mem.head _ | apply List.Mem.tail)); done) | fail) (by (rfl))))) ?_))))
          (refine a_e 6 rfl (by decide +kernel) rfl (fun K hK => e_call0 rfl rfl Try.func20 rfl (by decide) (fun w' h => clone_spec B k cb b w' (roOf0 h hr) hk) (fun v B hv => ?_)); obtain ⟨A', c', rfl, rfl⟩ := hv; refine hK _ _ (fun w h => h.subl (by first | ((repeat (first | exact SubL.nil | apply SubL.keep | apply SubL.skip)); done) | fail)) ?_; clear hK)
          (skip)
          (refine a_e 7 rfl (by decide +kernel) rfl (fun K hK => e_bldS tab rfl rfl rfl rfl (by first | exact CellsOf.agg | exact CellsOf.one rfl) (by first | ((repeat (first | exact RepR.zero | exact AppR.nil | apply RepR.succ | apply AppR.cons)); done) | fail) (by first | ((repeat (first | exact FillR.nil | exact LSets.nil | exact LSet.zero | exact CellsOf.agg | exact rfl | exact CellsOf.one rfl | apply FillR.cons | apply LSets.cons | apply LSet.succ)); done) | fail) (fun w => by kernel_rfl) (fun g8 => hK _ _ (fun w h => h.subl (by first | ((repeat (first | exact SubL.nil | apply SubL.keep | apply SubL.skip)); done) | fail)) ?_)); clear hK)
          (skip)
          (refine a_e 8 rfl (by decide +kernel) rfl (fun K hK => e_app tab rfl rfl rfl rowBB (by first | ((repeat (first | exact Ext.head | apply Ext.tail)); done) | fail) (news := [.slice A' b.length c']) (fun w h => SrcAt.blk (h.mem (by first | ((repeat (first | exact List.Mem.head _ | apply List.Mem.tail)); done) | fail)) rfl) (by simp [Value.oneCell']) (by omega) (by omega) (fun A3 c3 hA1 hA2 => hK _ _ (fun w h => h.subl (by first | ((repeat (first | exact SubL.nil | apply SubL.keep | apply SubL.skip)); done) | fail)) ?_)); clear hK)
          ((refine a_q 9 rfl rfl rfl rfl rfl (by decide +kernel) (by ((apply iq_nck; (exact q_nilck rfl)))) ?_))
          refine a_e 10 rfl (by decide +kernel) rfl (fun K hK => e_setI tab rfl rfl rfl rfl (by first | ((repeat (first | exact Upd.head | apply Upd.tail)); done) | fail) hmx' (hK _ _ (fun w h => h.subl (by first | ((repeat (first | exact SubL.nil | apply SubL.keep | apply SubL.skip)); done) | fail)) ?_))
          clear hK
          refine a_done (by decide +kernel) ?_
          (repeat (first | (refine i_dst ?_; ((refine i_assign ?_; refine l_q rfl rfl rfl (q_assign rfl) ?_))) | refine d_seq ?_ | refine c_region ?_ | refine l_nil ?_ | (refine i_q ?_; (refine d_then ?_)) | refine c_ret ?_))
          refine t_hp (hp' := [stimA sT p (x.set i ⟨.slice A3 (y.bs.length + 1) c3, y.vs ++ [.slice A' b.length c'], y.bs ++ [b]⟩)]) (fun w h => ?_) (t_ret1 Try.results8 rfl ⟨_, rfl, rfl, by rw [absS_set]⟩)
          have e0 : 0 + 0 + (i : Int).toNat = i := by omega
          rw [e0] at h
          exact stim_unfocus (by omega) (part_shut hy4 hy4 (h.subl (by first | ((repeat (first | exact SubL.nil | apply SubL.keep | apply SubL.skip)); done) | fail)))
        · rw [if_neg hjm]
          (repeat (first | (refine i_dst ?_; (first | (refine i_move ?_; refine l_q rfl rfl rfl (q_move rfl) ?_) | (refine i_assign ?_; refine l_q rfl rfl rfl (q_assign rfl) ?_) | (refine i_load ?_; refine l_q rfl rfl rfl (by ((exact q_ld1 tab rfl rfl rfl (by first | ((repeat (first | exact List.Mem.head _ | apply List.Mem.tail)); done) | fail) (by (assumption))))) ?_) | (refine i_bin ?_; refine l_q rfl rfl rfl (by (first | exact q_eql rfl rfl | exact q_neq rfl rfl)) ?_) | (refine i_blt ?_; refine l_q rfl rfl rfl (by (exact q_len tab rfl rfl)) ?_) | (refine i_ix ?_; refine l_q rfl rfl rfl (by (exact q_indexAddrA1 tab rfl rfl rfl rfl (by omega))) ?_) | (refine l_q rfl rfl rfl (by (first | (apply iq_fld; (exact q_fieldAddr tab rfl rfl rfl rfl rfl rfl rfl)) | (apply iq_nck; (exact q_nilck rfl)))) ?_))) | refine d_seq ?_ | refine c_region ?_ | refine l_nil ?_ | (refine i_q ?_; (first | refine d_then ?_ | refine d_then_ret ?_)) | refine c_skip ?_ | refine c_ret ?_ | (refine i_store ?_; ((refine l_setI tab rfl rfl rfl rfl (by first | ((repeat (first | exact Upd.head | apply Upd.tail)); done) | fail) (by (omega)) ?_))) | (refine i_cond ?_; (first | refine c_ct rfl (by (exact decide_eq_true (by omega))) ?_ | refine c_cf rfl (by (exact decide_eq_false (by omega))) ?_))))
          refine t_hp (hp' := [stimA sT p (x.set i nilP)]) (fun w h => ?_) (t_ret1 Try.results8 rfl ⟨_, rfl, rfl, by rw [absS_set]; rfl⟩)
          have e0 : 0 + 0 + (i : Int).toNat = i := by omega
          rw [e0] at h
          exact stim_unfocus (by omega) (part_nil (h.subl (by first | ((repeat (first | exact SubL.nil | apply SubL.keep | apply SubL.skip)); done) | fail)))
end Go.Proofs.Ytboccjdncdaakaa
