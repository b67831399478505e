/-
  Layer 14: StimAll's plain law; tables of one's own.
-/
import Derived.Test.YtkeekkdaielipaaS6
import Derived.Test.YtkeekkdaielipaaS7
import Derived.Test.YtkeekkdaielipaaM9
import Derived.Test.YtkeekkdaielipaaSLh
set_option linter.unusedVariables false
set_option maxRecDepth 100000
namespace Go.Proofs.Ytkeekkdaielipaa
open Go.RowKit
attribute [local irreducible] TL TC TQ TK TO Qt TA
/-! ### The plain law -/
theorem take_one {l : ListI} (ho : l.on = true) (hs : l.stim = true) (hf : l.first = 0) {i : Nat} {t : List EntryI} (ht : l.tabs[i]? = some t) (hl : l.tabs.length ≤ 4) {b : List Int} (hb : needsM t ≤ b.length) (X0 : List (List Int)) :
    takeS [X0, [], [], []] [l] i b = if i = 0 then ([[b], [], [], []], true) else if i = X0.length then ([X0 ++ [b], [], [], []], true) else ([[], [], [], []], false) := by
  have hi := (List.getElem?_eq_some_iff.1 ht).1
  have hk : kM i l.first = i := by
    rw [kM, hf, Int.sub_zero]
    exact wr_i64 (by omega)
  have hh : hitM i l = true := by
    rw [hitM, ho, hs, hk]
    simp
    omega
  have ho1 : ofM i [l] = some (0, i) := by
    rw [ofM]
    show ofFrom i 0 [l] = _
    rw [ofFrom, if_pos hh, hk, Int.toNat_natCast]
  have htm : tabM [l] 0 i = t := by simp [tabM, List.getD_eq_getElem?_getD, ht]
  rw [takeS, ho1]
  dsimp only
  rw [htm, if_neg (by omega)]
  by_cases h0 : i = 0
  · rw [if_pos h0, if_pos h0]; rfl
  · rw [if_neg h0, if_neg h0]
    show (if i = X0.length then _ else _) = _
    split <;> rfl
theorem full_one (X0 : List (List Int)) (tabs : List (List EntryI)) : fullS [X0, [], [], []] 0 tabs = decide (0 < tabs.length ∧ X0.length = tabs.length) := by
  rw [fullS]
  show decide (_ ∧ _ ∧ _ ∧ X0.length = tabs.length) = _
  simp
/-- Of 16 plain bytes, and a segment of 4. -/
structure Shp (M : Mm) : Prop where
  ok : MmOk M
  ram : M.ram.length = 16
  seg : ∃ s, M.segs = [s] ∧ s.ln = 4
theorem spl_len {l x : List Int} {a : Nat} (h : a + x.length ≤ l.length) : (spl l a x).length = l.length := by
  unfold spl
  simp
  omega
theorem Shp.write {M : Mm} (h : Shp M) {area : Nat} {at_ : Int} {x : List Int} (h0 : 0 ≤ at_) : Shp (writeM M 1 area at_ x).1 := by
  obtain ⟨h1, h2, s, h3, h4⟩ := h
  refine ⟨writeM_ok h1 h0, ?_, ?_⟩
  · unfold writeM
    split
    · exact h2
    · split
      · exact h2
      · rename_i l f ha
        split
        · exact h2
        · split
          · exact h2
          · split
            · exact h2
            · dsimp only
              unfold setArea
              by_cases h5 : area = 0
              · rw [if_pos h5]
                unfold areaM at ha
                rw [if_pos h5] at ha
                injection ha with ha
                injection ha with ha _
                subst ha
                dsimp only
                rw [spl_len (by omega)]
                exact h2
              · rw [if_neg h5]
                split
                · exact h2
                · exact h2
  · unfold writeM
    split
    · exact ⟨s, h3, h4⟩
    · split
      · exact ⟨s, h3, h4⟩
      · split
        · exact ⟨s, h3, h4⟩
        · split
          · exact ⟨s, h3, h4⟩
          · split
            · exact ⟨s, h3, h4⟩
            · dsimp only
              unfold setArea
              by_cases h5 : area = 0
              · rw [if_pos h5]; exact ⟨s, h3, h4⟩
              · rw [if_neg h5]
                split
                · exact ⟨s, h3, h4⟩
                · rename_i s' hs'
                  dsimp only
                  rw [h3] at hs' ⊢
                  have h6 : area - 1 = 0 := by
                    have := (List.getElem?_eq_some_iff.1 hs').1
                    rw [List.length_singleton] at this
                    omega
                  rw [h6] at hs' ⊢
                  injection hs' with hs'
                  subst hs'
                  exact ⟨_, rfl, h4⟩
theorem Shp.read0 {M : Mm} (h : Shp M) : (readM M 1 0 0 16).2 = 0 := by
  unfold readM
  rw [if_neg (by omega)]
  show (match areaM M 1 0 with | none => (([] : List Int), (80 : Int)) | some (l, _) => _).2 = 0
  have ha : areaM M 1 0 = some (M.ram, false) := rfl
  rw [ha]
  dsimp only
  rw [h.ram, if_neg (by omega)]
theorem Shp.read1 {M : Mm} (h : Shp M) : (readM M 1 1 0 4).2 = 0 := by
  obtain ⟨h1, h2, s, h3, h4⟩ := h
  have hk := h1.segs s (by rw [h3]; simp)
  obtain ⟨l, hl⟩ : ∃ l, s.dat[s.s0]? = some l := ⟨_, List.getElem?_eq_getElem hk.h0⟩
  have hll : l.length = 4 := (hk.len l (List.mem_of_getElem? hl)).trans h4
  have ha : areaM M 1 1 = some (l, decide (s.s0 = 0)) := by
    unfold areaM
    rw [if_neg (by omega), h3]
    show (match s.dat[s.s0]? with | some l => some (l, decide (s.s0 = 0)) | none => none) = _
    rw [hl]
  unfold readM
  rw [if_neg (by omega), ha]
  dsimp only
  rw [hll, if_neg (by omega)]
section
variable {M0 : Mm} {tabs : List (List EntryI)} {bs : List (List Int)}
/-- What was written of the first i tables. -/
structure WrI (M0 : Mm) (tabs : List (List EntryI)) (bs : List (List Int)) (i : Nat) (M : Mm) (g : Bool) : Prop where
  shp : Shp M
  yes : g = true → ((tabs.zip bs).take i).foldlM stepT M0 = some M
  no : g = false → writesM M0 tabs bs = none
theorem WrI.start (h : Shp M0) : WrI M0 tabs bs 0 M0 true := ⟨h, fun _ => rfl, fun h => by cases h⟩
theorem WrI.done {M : Mm} {g : Bool} (h : WrI M0 tabs bs tabs.length M g) (hl : bs.length = tabs.length) : writesM M0 tabs bs = if g = true then some M else none := by
  cases g with
  | true =>
    have := h.yes rfl
    rw [List.take_of_length_le (by rw [List.length_zip]; omega)] at this
    rw [if_pos rfl]
    exact this
  | false => rw [if_neg (by simp)]; exact h.no rfl
/-- And of the first k entries of the next table. -/
structure WrE (M0 : Mm) (tabs : List (List EntryI)) (bs : List (List Int)) (i : Nat) (M : Mm) (t : List EntryI) (b : List Int) (k : Nat) (M' : Mm) (g : Bool) : Prop where
  shp : Shp M'
  yes : g = true → ((tabs.zip bs).take i).foldlM stepT M0 = some M ∧ (t.take k).foldlM stepE (M, b) = some (M', b.drop (needsM (t.take k)))
  no : g = false → writesM M0 tabs bs = none
theorem WrI.enter {i : Nat} {M : Mm} {g : Bool} (h : WrI M0 tabs bs i M g) (t : List EntryI) (b : List Int) : WrE M0 tabs bs i M t b 0 M g := ⟨h.shp, fun e => ⟨h.yes e, rfl⟩, h.no⟩
theorem WrE.skip {i k : Nat} {M M' : Mm} {t : List EntryI} {b : List Int} (h : WrE M0 tabs bs i M t b k M' false) : WrE M0 tabs bs i M t b (k + 1) M' false := ⟨h.shp, fun e => (by cases e), h.no⟩
theorem WrE.step {i k : Nat} {M M' : Mm} {t : List EntryI} {b : List Int} {e : EntryI} (h : WrE M0 tabs bs i M t b k M' true) (ht : tabs[i]? = some t) (hb : bs[i]? = some b) (hn : needsM t ≤ b.length) (he : t[k]? = some e) (h0 : (0 : Int) ≤ e.at_) :
    WrE M0 tabs bs i M t b (k + 1) (writeM M' 1 e.area e.at_ ((b.drop (needsM (t.take k))).take e.size)).1 (decide ((writeM M' 1 e.area e.at_ ((b.drop (needsM (t.take k))).take e.size)).2 = 0)) := by
  obtain ⟨h1, h2⟩ := h.yes rfl
  have h3 := foldlM_take he h2
  rw [stepE] at h3
  dsimp only at h3
  refine ⟨h.shp.write h0, fun hg => ⟨h1, ?_⟩, fun hg => ?_⟩
  · rw [h3, if_pos (of_decide_eq_true hg), needsM_take he, List.drop_drop]
  · rw [if_neg (of_decide_eq_false hg)] at h3
    have h4 : stepT M (t, b) = none := by
      rw [stepT, if_neg (by dsimp only; omega)]
      dsimp only
      rw [foldlM_stop h3]
      rfl
    have h5 := foldlM_take (zip_get ht hb) h1
    rw [h4] at h5
    exact foldlM_stop h5
theorem WrE.leave {i : Nat} {M M' : Mm} {t : List EntryI} {b : List Int} {g : Bool} (h : WrE M0 tabs bs i M t b t.length M' g) (ht : tabs[i]? = some t) (hb : bs[i]? = some b) (hn : needsM t ≤ b.length) : WrI M0 tabs bs (i + 1) M' g := by
  refine ⟨h.shp, fun hg => ?_, h.no⟩
  obtain ⟨h1, h2⟩ := h.yes hg
  rw [List.take_length] at h2
  rw [foldlM_take (zip_get ht hb) h1, stepT, if_neg (by dsimp only; omega)]
  dsimp only
  rw [h2]
  rfl
end
/-! ### Tables of one's own -/
def enC (e : EntryI) : List Value := [.int .u8 e.size, .int .u8 e.area, .int .u32 e.at_]
def entA (v : Value) (t : List EntryI) : Asn := row 38 3 v t.length (t.flatMap enC)
structure OT where
  tv : Value
  tvs : List Value
  tabs : List (List EntryI)
def otL (y : OT) : List Asn := [row 39 1 y.tv y.tvs.length y.tvs, pureA (y.tvs.length = y.tabs.length), starL (List.zipWith entA y.tvs y.tabs)]
def otA (y : OT) : Asn := starL (otL y)
def EntOk (t : List EntryI) : Prop := ∀ e ∈ t, e.size ≤ 255 ∧ e.area ≤ 255 ∧ e.at_ ≤ 4294967295
theorem rowEn : RowT tab 39 38 3 8 (.agg #[.int .u8 0, .int .u8 0, .int .u32 0]) := ⟨rfl, rfl, rfl, by decide⟩
section
variable {S : Nat → Prop} {w0 w : World} {F : List Asn} {y : OT}
theorem ot_mk (h : St S w0 (row 39 1 y.tv y.tvs.length y.tvs :: pureA (y.tvs.length = y.tabs.length) :: starL (List.zipWith entA y.tvs y.tabs) :: F) w) : St S w0 (otA y :: F) w := st_packs2 (Xs := otL y) h
theorem ot_nil (h : St S w0 F w) : St S w0 (otA ⟨.slice none 0 0, [], []⟩ :: F) w := ot_mk (y := ⟨.slice none 0 0, [], []⟩) ((st_nil (st_pure rfl (st_star0 h)) 39 1))
theorem ot_open (h : St S w0 (otA y :: F) w) : St S w0 (row 39 1 y.tv y.tvs.length y.tvs :: starL (List.zipWith entA y.tvs y.tabs) :: F) w := by
  have h1 : St S w0 (row 39 1 y.tv y.tvs.length y.tvs :: starL [emp, pureA (y.tvs.length = y.tabs.length), starL (List.zipWith entA y.tvs y.tabs)] :: F) w := st_take (j := 0) (i := 0) h rfl rfl
  have h2 : St S w0 (starL (List.zipWith entA y.tvs y.tabs) :: row 39 1 y.tv y.tvs.length y.tvs :: starL [emp, pureA (y.tvs.length = y.tabs.length), emp] :: F) w := st_take (j := 1) (i := 2) h1 rfl rfl
  exact (h2.perm (.swap _ _ _)).subl (.keep (.keep (.skip (SubL.refl F))))
theorem ot_shut {v u : Value} {n : Nat} {vs : List Value} {ts : List (List EntryI)} {t : List EntryI} (hn : vs.length = n) (hl : vs.length = ts.length) (h : St S w0 (row 39 1 v (n + 1) (vs ++ [u]) :: entA u t :: starL (List.zipWith entA vs ts) :: F) w) : St S w0 (otA ⟨v, vs ++ [u], ts ++ [t]⟩ :: F) w := by
  have h1 : St S w0 (starL (List.zipWith entA vs ts ++ [entA u t]) :: row 39 1 v (n + 1) (vs ++ [u]) :: F) w := st_snoc (h.perm (.trans (.swap _ _ _) (.cons _ (.swap _ _ _))))
  have e : List.zipWith entA (vs ++ [u]) (ts ++ [t]) = List.zipWith entA vs ts ++ [entA u t] := by
    rw [List.zipWith_append hl]
    rfl
  refine ot_mk ?_
  dsimp only
  rw [List.length_append, List.length_singleton, hn, e]
  refine (st_pure (p := n + 1 = (ts ++ [t]).length) (by rw [List.length_append, List.length_singleton]; omega) h1).perm ?_
  exact .trans (.cons _ (.swap _ _ _)) (.swap _ _ _)
end
theorem Ro.otLen {S : Nat → Prop} {w0 : World} {y : OT} (h : Ro S w0 (otA y)) : y.tvs.length = y.tabs.length := (Ro.star h (i := 1) (X := pureA (y.tvs.length = y.tabs.length)) rfl).is
theorem ent_in {S : Nat → Prop} {w : World} {v : Value} {t : List EntryI} (h : Ro S w (entA v t)) (ho : EntOk t) : InTab S w [v] t := by
  obtain ⟨A, c, rfl, e2, e3, -⟩ := row_slice h.is
  refine ⟨A, t.length, c, rfl, ?_, e2, e3⟩
  refine InS.rows (t.map enC) rfl (by simp) (fun r hr => by obtain ⟨x, _, rfl⟩ := List.mem_map.1 hr; rfl) (by rw [← List.flatMap_def]; exact h.rowV) (fun i r x hr hx => ?_)
  simp only [List.getElem?_map, hx, Option.map_some, Option.some.injEq] at hr
  exact ⟨hr.symm, ho x (List.mem_of_getElem? hx)⟩
def olI (y : OT) : ListI := ⟨0, y.tabs, true, 0, 0, 0, true, false⟩
def olV (y : OT) : List Value := [.int .i64 0, y.tv, .bool true, .int .u8 0, .int .u8 0, .int .u8 0, .bool true, .bool false]
theorem ol_in {S : Nat → Prop} {w : World} {y : OT} (h : Ro S w (otA y)) (ho : ∀ t ∈ y.tabs, EntOk t) : InList S w (olV y) (olI y) := by
  have hl := h.otLen
  have hrow : Ro S w (row 39 1 y.tv y.tvs.length y.tvs) := Ro.star h (i := 0) rfl
  obtain ⟨At, ct, e1, e2, e3, -⟩ := row_slice hrow.is
  have hrow' : Ro S w (row 39 1 (.slice At y.tvs.length ct) y.tvs.length y.tvs) := by rw [← e1]; exact hrow
  refine ⟨⟨At, y.tvs.length, ct, by rw [olV, e1]; rfl, ?_, e2, e3⟩, by show _ ∧ _; simp [olI], Nat.zero_le _, Nat.zero_le _, Nat.zero_le _⟩
  refine InS.rows (y.tvs.map fun v => [v]) hl.symm (by simp) (fun r hr => ?_) (by rw [flatten_singles]; exact hrow'.rowV) (fun j r x hr hx => ?_)
  · obtain ⟨v, _, rfl⟩ := List.mem_map.1 hr
    rfl
  · rw [List.getElem?_map, Option.map_eq_some_iff] at hr
    obtain ⟨v, hv, rfl⟩ := hr
    have hx' : y.tabs[j]? = some x := hx
    have h1 : Ro S w (entA v x) := Ro.star (Ro.star h (i := 2) rfl) (i := j) (by simp [List.getElem?_zipWith, hv, hx'])
    exact ent_in h1 (ho x (List.mem_of_getElem? hx'))
end Go.Proofs.Ytkeekkdaielipaa
