/-
  Who hangs on cells, by a queue and counts: the plain law of the program's After.
-/
import Derived.Test.YtdibiongjkmlpaaGl
namespace Go.Proofs.Ytdibiongjkmlpaa
open Go Go.RowKit
theorem pRising_len (l : List Int) : (pRising l).length ≤ l.length := by
  unfold pRising
  refine Nat.le_trans (compact_len _) ?_
  rw [List.length_mergeSort]; exact List.length_filter_le _ _
theorem compact_mem {l : List Int} {x : Int} (h : x ∈ Lib.compact l) : x ∈ l := by
  unfold Lib.compact Lib.compactUpTo at h
  obtain ⟨i, hi, rfl⟩ := List.mem_map.1 h
  have hi := List.mem_range.1 (List.mem_filter.1 hi).1
  rw [getElem!_pos _ i (by simpa using hi)]
  simp
theorem pRising_mem {l : List Int} {x : Int} (h : x ∈ pRising l) : x ∈ l := by
  have := compact_mem h
  rw [List.mem_mergeSort] at this
  exact (List.mem_filter.1 this).1
theorem pRising_64 {l : List Int} (h : I64s l) : I64s (pRising l) := fun x hx => h x (pRising_mem hx)
theorem idxOf_nonneg {α : Type} {p : α → Bool} {l : List α} (h : ¬ idxOf p l < 0) : l.any p = true ∧ idxOf p l = (lead (fun x => !p x) l : Nat) := by
  unfold idxOf at h ⊢
  split
  · rename_i ha; exact ⟨ha, rfl⟩
  · rename_i ha; rw [if_neg ha] at h; omega
/-! ### counts -/
abbrev KC := List (Int × Int)
def kents (K : KC) : List (Int × AV) := K.map fun e => (e.1, .int .i64 e.2)
def kGet : KC → Int → Int
  | [], _ => 0
  | (d, n) :: r, c => if d = c then n else kGet r c
def kSet : KC → Int → Int → KC
  | [], c, n => [(c, n)]
  | (d, m) :: r, c, n => if d = c then (c, n) :: r else (d, m) :: kSet r c n
def kKeys (K : KC) : List Int := K.map (·.1)
theorem kKeys_cons (d m : Int) (K : KC) : kKeys ((d, m) :: K) = d :: kKeys K := rfl
theorem kents_keys (K : KC) : (kents K).map (·.1) = kKeys K := by simp [kents, kKeys, Function.comp_def]
theorem kents_len (K : KC) : (kents K).length = K.length := by simp [kents]
theorem kKeys_len (K : KC) : (kKeys K).length = K.length := by simp [kKeys]
theorem kget_kents (K : KC) (c : Int) : (mget (kents K) c).getD (.int .i64 0) = .int .i64 (kGet K c) := by
  induction K with
  | nil => rfl
  | cons e K ih =>
    obtain ⟨d, n⟩ := e
    simp only [kents, List.map_cons, mget, kGet] at ih ⊢
    split
    · rfl
    · exact ih
theorem mset_kents (K : KC) (c n : Int) : mset (kents K) c (.int .i64 n) = kents (kSet K c n) := by
  induction K with
  | nil => rfl
  | cons e K ih =>
    obtain ⟨d, m⟩ := e
    simp only [kents, List.map_cons, mset, kSet] at ih ⊢
    split
    · rfl
    · simp only [List.map_cons]; rw [ih]
theorem kKeys_set (K : KC) (c n : Int) : kKeys (kSet K c n) = if c ∈ kKeys K then kKeys K else kKeys K ++ [c] := by
  induction K with
  | nil => simp [kKeys, kSet]
  | cons e K ih =>
    obtain ⟨d, m⟩ := e
    simp only [kSet]
    by_cases hd : d = c
    · subst hd; simp [kKeys]
    · rw [if_neg hd]
      have hd' : ¬ c = d := fun h => hd h.symm
      rw [kKeys_cons, kKeys_cons, ih]
      by_cases hc : c ∈ kKeys K
      · rw [if_pos hc, if_pos (List.mem_cons_of_mem _ hc)]
      · rw [if_neg hc, if_neg (fun h => (List.mem_cons.1 h).elim hd' hc)]; rfl
theorem kGet_set (K : KC) (c n : Int) : kGet (kSet K c n) c = n := by
  induction K with
  | nil => simp [kSet, kGet]
  | cons e K ih =>
    obtain ⟨d, m⟩ := e
    simp only [kSet]
    split
    · simp [kGet]
    · rename_i hd; simp only [kGet, if_neg hd]; exact ih
def kOK (K : KC) (B : Int) : Prop := ∀ e, e ∈ K → 1 ≤ e.2 ∧ e.2 ≤ B
theorem kGet_ok {K : KC} {B : Int} (h : kOK K B) (c : Int) : (c ∈ kKeys K → 1 ≤ kGet K c ∧ kGet K c ≤ B) ∧ (c ∉ kKeys K → kGet K c = 0) := by
  induction K with
  | nil => simp [kKeys, kGet]
  | cons e K ih =>
    obtain ⟨d, m⟩ := e
    have ih := ih (fun e he => h e (by simp [he]))
    simp only [kKeys, List.map_cons, List.mem_cons, kGet] at ih ⊢
    by_cases hd : d = c
    · subst hd; simp only [if_true]
      exact ⟨fun _ => h (d, m) (by simp), fun hn => (hn (Or.inl trivial)).elim⟩
    · rw [if_neg hd]
      exact ⟨fun hm => ih.1 (hm.resolve_left fun h => hd h.symm), fun hn => ih.2 fun h => hn (.inr h)⟩
theorem kOK_set {K : KC} {B B' : Int} (h : kOK K B) (hB : B ≤ B') (c : Int) {n : Int} (hn : 1 ≤ n ∧ n ≤ B') : kOK (kSet K c n) B' := by
  induction K with
  | nil => intro e he; simp [kSet] at he; subst he; exact hn
  | cons e K ih =>
    obtain ⟨d, m⟩ := e
    have ih := ih (fun e he => h e (by simp [he]))
    intro e he
    simp only [kSet] at he
    split at he
    · rcases List.mem_cons.1 he with rfl | he
      · exact hn
      · have := h e (by simp [he]); omega
    · rcases List.mem_cons.1 he with rfl | he
      · have := h (d, m) (by simp); omega
      · exact ih e he
theorem kOK_mono {K : KC} {B B' : Int} (h : kOK K B) (hB : B ≤ B') : kOK K B' := fun e he => by have := h e he; omega

/-! ### the queue -/
structure QIn (needs : Int → Int → Bool) (cells l d K0 q0 : List Int) (B0 : Int) (j : Nat) (K : KC) (q : List Int) : Prop where
  nodup : (kKeys K).Nodup
  ok : kOK K (B0 + j)
  hang : ∀ x, x ∈ kKeys K → Hangs needs cells l x
  old : ∀ x, x ∈ K0 → x ∈ kKeys K
  done : ∀ x, x ∈ d.take j → x ∈ kKeys K
  row : ∃ r, q = q0 ++ r ∧ r.length + K0.length = K.length ∧ (∀ x, x ∈ r → x ∈ kKeys K) ∧ ∀ x, x ∈ kKeys K → x ∈ K0 ∨ x ∈ r
theorem QIn.start {needs : Int → Int → Bool} {cells l d q0 : List Int} {B0 : Int} {K : KC} (h1 : (kKeys K).Nodup) (h2 : kOK K B0) (h3 : ∀ x, x ∈ kKeys K → Hangs needs cells l x) : QIn needs cells l d (kKeys K) q0 B0 0 K q0 :=
  ⟨h1, kOK_mono h2 (by omega), h3, fun _ h => h, fun x hx => by simp at hx, [], by simp, by simp [kKeys_len], fun x hx => by simp at hx, fun x hx => .inl hx⟩
theorem QIn.step {needs : Int → Int → Bool} {cells l d K0 q0 : List Int} {B0 : Int} {j : Nat} {K : KC} {q : List Int} (h : QIn needs cells l d K0 q0 B0 j K q) (hB : 0 ≤ B0) (hj : j < d.length) (hd : ∀ x, x ∈ d → Hangs needs cells l x) :
    QIn needs cells l d K0 q0 B0 (j + 1) (kSet K d[j] (kGet K d[j] + 1)) (if kGet K d[j] + 1 = 1 then q ++ [d[j]] else q) := by
  obtain ⟨r, hr1, hr2, hr3, hr4⟩ := h.row
  have hg := kGet_ok h.ok d[j]
  have hk := kKeys_set K d[j] (kGet K d[j] + 1)
  have hdj := hd _ (List.getElem_mem hj)
  have hn : 1 ≤ kGet K d[j] + 1 ∧ kGet K d[j] + 1 ≤ B0 + (j + 1 : Nat) := by
    by_cases hm : d[j] ∈ kKeys K
    · have := hg.1 hm; omega
    · have := hg.2 hm; omega
  have hok : kOK (kSet K d[j] (kGet K d[j] + 1)) (B0 + (j + 1 : Nat)) := kOK_set h.ok (by omega) _ hn
  by_cases hm : d[j] ∈ kKeys K
  · rw [if_pos hm] at hk
    have h1 : ¬ kGet K d[j] + 1 = 1 := by have := hg.1 hm; omega
    rw [if_neg h1]
    have hlen : (kSet K d[j] (kGet K d[j] + 1)).length = K.length := by rw [← kKeys_len, hk, kKeys_len]
    refine ⟨by rw [hk]; exact h.nodup, hok, by rw [hk]; exact h.hang, by rw [hk]; exact h.old, fun x hx => ?_, r, hr1, by rw [hlen]; exact hr2, by rw [hk]; exact hr3, by rw [hk]; exact hr4⟩
    rw [hk]
    rw [take_succ_get d j hj] at hx
    rcases List.mem_append.1 hx with hx | hx
    · exact h.done x hx
    · simp at hx; subst hx; exact hm
  · rw [if_neg hm] at hk
    have h1 : kGet K d[j] + 1 = 1 := by have := hg.2 hm; omega
    rw [if_pos h1]
    have hlen : (kSet K d[j] (kGet K d[j] + 1)).length = K.length + 1 := by rw [← kKeys_len, hk]; simp [kKeys_len]
    refine ⟨?_, hok, fun x hx => ?_, fun x hx => ?_, fun x hx => ?_, r ++ [d[j]], by rw [hr1]; simp, by rw [hlen]; simp; omega, fun x hx => ?_, fun x hx => ?_⟩
    · rw [hk, List.nodup_append]; exact ⟨h.nodup, by simp, by rintro a ha b hb rfl; simp at hb; subst hb; exact hm ha⟩
    · rw [hk] at hx
      rcases List.mem_append.1 hx with hx | hx
      · exact h.hang x hx
      · simp at hx; subst hx; exact hdj
    · rw [hk]; exact List.mem_append_left _ (h.old x hx)
    · rw [hk]
      rw [take_succ_get d j hj] at hx
      rcases List.mem_append.1 hx with hx | hx
      · exact List.mem_append_left _ (h.done x hx)
      · exact List.mem_append_right _ hx
    · rw [hk]
      rcases List.mem_append.1 hx with hx | hx
      · exact List.mem_append_left _ (hr3 x hx)
      · exact List.mem_append_right _ hx
    · rw [hk] at hx
      rcases List.mem_append.1 hx with hx | hx
      · exact (hr4 x hx).imp id fun h => List.mem_append_left _ h
      · exact .inr (List.mem_append_right _ hx)

structure QOut (needs : Int → Int → Bool) (cells l : List Int) (tot : Nat) (k : Nat) (K : KC) (q : List Int) : Prop where
  nodup : (kKeys K).Nodup
  ok : kOK K ((tot - k : Nat) * 10000)
  hang : ∀ x, x ∈ kKeys K → Hangs needs cells l x
  closed : ∀ x, x ∈ l ∨ x ∈ kKeys K → x ∈ q ∨ ∀ y, y ∈ cells → needs y x = true → y ∈ kKeys K
  from_ : ∀ x, x ∈ q → x ∈ l ∨ x ∈ kKeys K
  meas : k + K.length = cells.length + q.length
  kle : k ≤ tot
theorem QOut.start (needs : Int → Int → Bool) (cells l : List Int) : QOut needs cells l (cells.length + l.length) (cells.length + l.length) [] l :=
  ⟨by simp [kKeys], fun e he => by simp at he, fun x hx => by simp [kKeys] at hx, fun x hx => .inl (hx.resolve_right (by simp [kKeys])), fun x hx => .inl hx, by simp, Nat.le_refl _⟩
theorem QOut.size {needs : Int → Int → Bool} {cells l : List Int} {tot k : Nat} {K : KC} {q : List Int} (h : QOut needs cells l tot k K q) : K.length ≤ cells.length := by
  rw [← kKeys_len]; exact nodup_len h.nodup fun x hx => (h.hang x hx).mem
theorem QOut.head {needs : Int → Int → Bool} {cells l : List Int} {tot k : Nat} {K : KC} {c : Int} {rest : List Int} (h : QOut needs cells l tot k K (c :: rest)) {d : List Int} (hd : ∀ y, y ∈ d ↔ y ∈ cells ∧ needs y c = true) : ∀ x, x ∈ d → Hangs needs cells l x := fun x hx => by
  obtain ⟨h1, h2⟩ := (hd x).1 hx
  rcases h.from_ c (by simp) with hc | hc
  · exact .one h1 hc h2
  · exact .more h1 (h.hang c hc) h2
theorem QOut.next {needs : Int → Int → Bool} {cells l : List Int} {tot k : Nat} {K : KC} {c : Int} {rest : List Int} (h : QOut needs cells l tot k K (c :: rest)) {d : List Int} (hd : ∀ y, y ∈ d ↔ y ∈ cells ∧ needs y c = true) (hdl : d.length ≤ 10000)
    {K2 : KC} {q2 : List Int} (hi : QIn needs cells l d (kKeys K) (c :: rest) ((tot - k : Nat) * 10000) d.length K2 q2) : ∃ k', k' + 1 = k ∧ QOut needs cells l tot k' K2 (q2.drop 1) := by
  obtain ⟨r, rfl, hr2, hr3, hr4⟩ := hi.row
  have hm := h.meas
  have hkle := h.kle
  have hsz : K2.length ≤ cells.length := by rw [← kKeys_len]; exact nodup_len hi.nodup fun x hx => (hi.hang x hx).mem
  rw [kKeys_len] at hr2
  simp only [List.length_cons] at hm
  refine ⟨k - 1, by omega, hi.nodup, kOK_mono hi.ok ?_, hi.hang, fun x hx => ?_, fun x hx => ?_, ?_, by omega⟩
  · have : tot - (k - 1) = (tot - k) + 1 := by omega
    rw [this]; push_cast; omega
  · simp only [List.cons_append, List.drop_succ_cons, List.drop_zero]
    have good : ∀ y, y ∈ cells → needs y c = true → y ∈ kKeys K2 := fun y hy hn => hi.done y (by rw [List.take_length]; exact (hd y).2 ⟨hy, hn⟩)
    have old : (x ∈ l ∨ x ∈ kKeys K) → x ∈ rest ++ r ∨ ∀ y, y ∈ cells → needs y x = true → y ∈ kKeys K2 := fun hx => by
      rcases h.closed x hx with hq | hq
      · rcases List.mem_cons.1 hq with rfl | hq
        · exact .inr good
        · exact .inl (List.mem_append_left _ hq)
      · exact .inr fun y hy hn => hi.old y (hq y hy hn)
    rcases hx with hx | hx
    · exact old (.inl hx)
    · rcases hr4 x hx with hx | hx
      · exact old (.inr hx)
      · exact .inl (List.mem_append_right _ hx)
  · simp only [List.cons_append, List.drop_succ_cons, List.drop_zero] at hx
    rcases List.mem_append.1 hx with hx | hx
    · exact (h.from_ x (by simp [hx])).imp id fun hk => hi.old x hk
    · exact .inr (hr3 x hx)
  · simp; omega
theorem QOut.done {needs : Int → Int → Bool} {cells l : List Int} {tot k : Nat} {K : KC} (h : QOut needs cells l tot k K []) (x : Int) : x ∈ kKeys K ↔ Hangs needs cells l x := by
  refine ⟨h.hang x, fun hx => ?_⟩
  have hc : ∀ x, x ∈ l ∨ x ∈ kKeys K → ∀ y, y ∈ cells → needs y x = true → y ∈ kKeys K := fun x hx => (h.closed x hx).resolve_left (by simp)
  induction hx with
  | one hk hl hn => exact hc _ (.inl hl) _ hk hn
  | more hk _ hn ih => exact hc _ (.inr ih) _ hk hn
theorem QIn.qlen {needs : Int → Int → Bool} {cells l d K0 q0 : List Int} {B0 : Int} {j : Nat} {K : KC} {q : List Int} (h : QIn needs cells l d K0 q0 B0 j K q) : q.length ≤ q0.length + cells.length := by
  obtain ⟨r, rfl, h2, _, _⟩ := h.row
  have : K.length ≤ cells.length := by rw [← kKeys_len]; exact nodup_len h.nodup fun x hx => (h.hang x hx).mem
  simp; omega
theorem QIn.get {needs : Int → Int → Bool} {cells l d K0 q0 : List Int} {B0 : Int} {j : Nat} {K : KC} {q : List Int} (h : QIn needs cells l d K0 q0 B0 j K q) (hB : 0 ≤ B0) (x : Int) : 0 ≤ kGet K x ∧ kGet K x ≤ B0 + j := by
  have hg := kGet_ok h.ok x
  by_cases hm : x ∈ kKeys K
  · have := hg.1 hm; omega
  · have := hg.2 hm; omega
theorem mem_pDirect (M : PG) (c y : Int) : y ∈ pDirect M c ↔ y ∈ M.map (·.1) ∧ pNeeds M y c = true := by
  unfold pDirect pCells
  rw [List.mem_filter, List.mem_mergeSort]
theorem pDirect_len (M : PG) (c : Int) : (pDirect M c).length ≤ M.length := by
  unfold pDirect
  exact Nat.le_trans (List.length_filter_le _ _) (by rw [pCells_len]; exact Nat.le_refl _)
end Go.Proofs.Ytdibiongjkmlpaa
