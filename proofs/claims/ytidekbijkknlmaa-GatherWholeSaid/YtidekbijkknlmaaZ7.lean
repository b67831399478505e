/-
  Layer 19: GatherWhole: what holds through its rounds.
-/
import Derived.Test.YtidekbijkknlmaaZ5
import Derived.Test.YtidekbijkknlmaaZ6
set_option linter.unusedVariables false
set_option maxRecDepth 100000
namespace Go.Proofs.Ytidekbijkknlmaa
open Go.RowKit
attribute [local irreducible] TL TC TQ TK TO Qt TA
structure GWi (P : List (Option (Nat × Nat))) (mm m0 m1 : Nat) (q : QV) (g : GaV) (n0 n1 : Nat) (ws0 ws1 : List WS) : Prop where
  most : q.most = mm
  len : q.es.length ≤ mm
  ent : ∀ e ∈ absQ q.es, e.1 ≤ 255 ∧ e.2.1 ≤ 255 ∧ e.2.2.length ≤ 1000000
  hP : g.P = P
  pl : PlOk g.P g.xs.length
  gk : GOk (absG g.xs)
  qi : QInv P (absG g.xs) (absQ q.es) m0 m1 ws0 ws1 n0 n1
section
variable {P : List (Option (Nat × Nat))} {mm m0 m1 : Nat} {q : QV} {g : GaV} {n0 n1 : Nat} {ws0 ws1 : List WS}
theorem GWi.ents (h : GWi P mm m0 m1 q g n0 n1 ws0 ws1) : ∀ e ∈ q.es, e.kind ≤ 255 ∧ e.code ≤ 255 ∧ e.b.length ≤ 1000000 := fun e he => h.ent (e.kind, e.code, e.b) (List.mem_map.2 ⟨e, he, rfl⟩)
theorem GWi.wants (h : GWi P mm m0 m1 q g n0 n1 ws0 ws1) : ∀ e es, q.es = e :: es → Wants (takeG g.P (absG g.xs) e.kind e.code e.b).2 ws0 ws1 n0 n1 := fun e es he => by
  have h1 := h.qi
  rw [he] at h1
  rw [h.hP]
  exact h1.next.1
theorem GWi.step (h : GWi P mm m0 m1 q g n0 n1 ws0 ws1) {p pg bq bg bn bw : Nat} {wv0 wv1 : Value} {B : List Asn} (hB : (q.es = [] ∧ B = [blk bq [.pointer (some ⟨p, 0, none⟩)] 46, blk bg [.pointer (some ⟨pg, 0, none⟩)] 26, blk bn [.int .i64 (n0 : Nat), .int .i64 (n1 : Nat)] 42, blk bw [wv0, wv1] 51, qA p q, gaA pg g, row 35 3 wv0 ws0.length (ws0.flatMap (smC 0)), starL (ws0.map smP), row 35 3 wv1 ws1.length (ws1.flatMap (smC 1)), starL (ws1.map smP)]) ∨ ∃ e es lv' g', q.es = e :: es ∧ g'.P = g.P ∧ absG g'.xs = (takeG g.P (absG g.xs) e.kind e.code e.b).1 ∧ GOk (absG g'.xs) ∧ PlOk g'.P g'.xs.length ∧ B = [blk bq [.pointer (some ⟨p, 0, none⟩)] 46, blk bg [.pointer (some ⟨pg, 0, none⟩)] 26, blk bn [.int .i64 ((bump (takeG g.P (absG g.xs) e.kind e.code e.b).2 n0 n1).1 : Nat), .int .i64 ((bump (takeG g.P (absG g.xs) e.kind e.code e.b).2 n0 n1).2 : Nat)] 42, blk bw [wv0, wv1] 51, qA p ⟨lv', es, q.most, q.l0, q.l1⟩, gaA pg g', row 35 3 wv0 ws0.length (ws0.flatMap (smC 0)), starL (ws0.map smP), row 35 3 wv1 ws1.length (ws1.flatMap (smC 1)), starL (ws1.map smP)]) :
    ∃ q' g' n0' n1', GWi P mm m0 m1 q' g' n0' n1' ws0 ws1 ∧ q'.l0 = q.l0 ∧ q'.l1 = q.l1 ∧ (q.es = [] ∨ q'.es.length < q.es.length) ∧ B = [blk bq [.pointer (some ⟨p, 0, none⟩)] 46, blk bg [.pointer (some ⟨pg, 0, none⟩)] 26, blk bn [.int .i64 (n0' : Nat), .int .i64 (n1' : Nat)] 42, blk bw [wv0, wv1] 51, qA p q', gaA pg g', row 35 3 wv0 ws0.length (ws0.flatMap (smC 0)), starL (ws0.map smP), row 35 3 wv1 ws1.length (ws1.flatMap (smC 1)), starL (ws1.map smP)] := by
  rcases hB with ⟨he, rfl⟩ | ⟨e, es, lv', g', he, h1, h2, h3, h4, rfl⟩
  · exact ⟨q, g, n0, n1, h, rfl, rfl, .inl he, rfl⟩
  · refine ⟨⟨lv', es, q.most, q.l0, q.l1⟩, g', _, _, ⟨h.most, ?_, fun x hx => h.ent x ?_, h1.trans h.hP, h4, h3, ?_⟩, rfl, rfl, .inr ?_, rfl⟩
    · have := h.len
      rw [he, List.length_cons] at this
      dsimp only
      omega
    · rw [he]
      exact List.mem_cons_of_mem _ hx
    · have h5 := h.qi
      rw [he] at h5
      rw [h2, h.hP]
      exact h5.next.2
    · rw [he]
      exact Nat.lt_succ_self _
theorem GWi.n_le (h : GWi P mm m0 m1 q g n0 n1 ws0 ws1) : n0 ≤ ws0.length ∧ n1 ≤ ws1.length := ⟨h.qi.le0, h.qi.le1⟩
theorem GWi.notPut (h : GWi P mm m0 m1 q g n0 n1 ws0 ws1) {q' : QV} (hm : q'.most = q.most) (ha : absQ q'.es = absQ q.es) : GWi P mm m0 m1 q' g n0 n1 ws0 ws1 := by
  have hl : q'.es.length = q.es.length := by
    have := congrArg List.length ha
    simpa [absQ] using this
  exact ⟨hm.trans h.most, by rw [hl]; exact h.len, by rw [ha]; exact h.ent, h.hP, h.pl, h.gk, by rw [ha]; exact h.qi⟩
theorem zc_ok : ∀ (l : List (List Int)) (c : Nat), c + l.length ≤ 64 → (∀ b ∈ l, b.length ≤ 1000000) → ∀ e ∈ zc c l, e.1 ≤ 255 ∧ e.2.1 ≤ 255 ∧ e.2.2.length ≤ 1000000
  | [], c, _, _, e, he => by cases he
  | b :: l, c, hc, hb, e, he => by
    rw [zc] at he
    rw [List.length_cons] at hc
    rcases List.mem_cons.1 he with rfl | he
    · exact ⟨by show 4 ≤ 255; omega, by show c ≤ 255; omega, hb b (by simp)⟩
    · exact zc_ok l (c + 1) (by omega) (fun b hb' => hb b (by simp [hb'])) e he
theorem zf_ok {lo : Bool} {l : List (List Int)} {c : Nat} (hc : c + l.length ≤ 64) (hb : ∀ b ∈ l, b.length ≤ 1000000) : ∀ e ∈ zf lo c l, e.1 ≤ 255 ∧ e.2.1 ≤ 255 ∧ e.2.2.length ≤ 1000000 := fun e he => by
  cases l with
  | nil => cases he
  | cons b l =>
    rw [zf] at he
    rw [List.length_cons] at hc
    rcases List.mem_cons.1 he with rfl | he
    · refine ⟨by show 4 ≤ 255; omega, ?_, hb b (by simp)⟩
      show (if lo = true then c + 64 else c) ≤ 255
      split <;> omega
    · exact zc_ok l (c + 1) (by omega) (fun b hb' => hb b (by simp [hb'])) e he
theorem zc_len : ∀ (l : List (List Int)) (c : Nat), (zc c l).length = l.length
  | [], c => rfl
  | b :: l, c => by rw [zc, List.length_cons, List.length_cons, zc_len l]
theorem zf_len {lo : Bool} {l : List (List Int)} {c : Nat} : (zf lo c l).length = l.length := by
  cases l with
  | nil => rfl
  | cons b l => rw [zf, List.length_cons, List.length_cons, zc_len]
theorem GWi.put (h : GWi P mm m0 m1 q g n0 n1 ws0 ws1) {q' : QV} {lo : Bool} {c : Nat} {l : List (List Int)} {ws0' ws1' : List WS} (hm : q'.most = q.most) (ha : absQ q'.es = absQ q.es ++ zf lo c l) (hc : c + l.length ≤ 64) (hb : ∀ b ∈ l, b.length ≤ 1000000) (hn : ¬ q.most < q.es.length + l.length) (hq : QInv P (absG g.xs) (absQ q.es ++ zf lo c l) m0 m1 ws0' ws1' n0 n1) : GWi P mm m0 m1 q' g n0 n1 ws0' ws1' := by
  have hl : q'.es.length = q.es.length + l.length := by
    have := congrArg List.length ha
    simpa [absQ, zf_len] using this
  have := h.most
  exact ⟨hm.trans h.most, by omega, by
    rw [ha]
    intro e he
    rcases List.mem_append.1 he with he | he
    · exact h.ent e he
    · exact zf_ok hc hb e he, h.hP, h.pl, h.gk, by rw [ha]; exact hq⟩
end
/-- The packets of one sample. -/
def rsl (r : RepI) : Value := .slice r.A r.n r.m
def rcel (r : RepI) : List Value := [.int .u8 r.k, .int .u8 r.c, rsl r]
def RsOk (c i : Nat) (rs : List RepI) : Prop := ∀ (j : Nat) (r : RepI), rs[j]? = some r → r.k = 4 ∧ r.c = c + j ∧ r.n = 2 ∧ r.m = 2 ∧ r.b = [(i : Int), (j : Int)]
def rsP (v : Value) (rs : List RepI) : PartV := ⟨v, rs.map rsl, rs.map (·.b)⟩
theorem RsOk.nil (c i : Nat) : RsOk c i [] := fun j r h => by simp at h
theorem RsOk.snoc {c i : Nat} {rs : List RepI} (h : RsOk c i rs) (A : Option Addr) : RsOk c i (rs ++ [⟨4, c + rs.length, A, 2, 2, [(i : Int), (rs.length : Int)]⟩]) := fun j r hj => by
  by_cases hlt : j < rs.length
  · rw [List.getElem?_append_left hlt] at hj
    exact h j r hj
  · rw [List.getElem?_append_right (by omega)] at hj
    have hz : j - rs.length = 0 := by
      have := (List.getElem?_eq_some_iff.1 hj).1
      rw [List.length_singleton] at this
      omega
    rw [hz] at hj
    simp at hj
    subst hj
    have : j = rs.length := by omega
    subst this
    exact ⟨rfl, rfl, rfl, rfl, rfl⟩
theorem RsOk.bl {c i : Nat} {rs : List RepI} (h : RsOk c i rs) : ∀ b ∈ rs.map (·.b), b.length ≤ 1000000 := fun b hb => by
  obtain ⟨r, hr, rfl⟩ := List.mem_map.1 hb
  obtain ⟨j, hj⟩ := List.getElem?_of_mem hr
  rw [(h j r hj).2.2.2.2]
  show 2 ≤ 1000000
  omega
section
variable {S : Nat → Prop} {w0 w : World} {F : List Asn}
theorem st_bytes2 {g : Nat} {a b : Int} (ho : Oct [a, b]) (h : St S w0 (blk g [.int .u8 a, .int .u8 b] 5 :: F) w) : St S w0 (bytesA (.slice (some ⟨g, 0, none⟩) 2 2) [a, b] :: F) w :=
  h.see (i := 0) rfl (fun h => bytesA_of (n := 2) rfl ho (row_of_blk h 1 2 2 (Nat.le_refl _) (by show 2 ≤ 2 ^ 63 - 1; omega) rfl (bv [a, b]) rfl)) (fun b' hb => by injection hb with hb; exact hb.symm)
theorem rs_in {c i n cr : Nat} {rs : List RepI} (hok : RsOk c i rs) (hc : c + rs.length ≤ 64) {Ar : Option Addr} {v : Value} (hn : rs.length = n) (hr : Ro S w (row 32 3 (.slice Ar n cr) n (rs.flatMap rcel))) (hp : Ro S w (partA (rsP v rs))) : InS S w 3 (InRepI S w) Ar n rs :=
  InS.rows (rs.map rcel) hn (by simpa using hn) (fun r hr => by obtain ⟨x, _, rfl⟩ := List.mem_map.1 hr; rfl) (by rw [← List.flatMap_def]; exact hr.rowV) (fun i' r x hr' hx' => by
    simp only [List.getElem?_map, hx', Option.map_some, Option.some.injEq] at hr'
    obtain ⟨e1, e2, e3, e4, e5⟩ := hok i' x hx'
    have hl := (List.getElem?_eq_some_iff.1 hx').1
    refine ⟨hr'.symm, ⟨by omega, by omega, ?_, by omega, by rw [e4]; show 2 ≤ 2 ^ 63 - 1; omega⟩⟩
    have h1 := hp.partOne (j := i') (v := rsl x) (l := x.b) (by simp [rsP, hx']) (by simp [rsP, hx'])
    exact h1.bytes)
end
theorem rowSm : RowT tab 50 35 3 40 (.agg #[.int .i64 0, .bool false, .slice none 0 0]) := ⟨rfl, rfl, rfl, by decide⟩
end Go.Proofs.Ytidekbijkknlmaa
