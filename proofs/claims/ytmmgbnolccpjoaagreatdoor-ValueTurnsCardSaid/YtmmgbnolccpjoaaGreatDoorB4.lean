import Derived.Test.YtmmgbnolccpjoaaGreatDoorB3
namespace Go.Proofs.YtmmgbnolccpjoaaGreatDoor
open Go.Proofs.Tryz
open Go Go.RowKit Go.Lib

variable {c : UInt8} {B W Z d d0 d1 dd t v y z : List UInt8} {gr neg x : Bool} {k : Nat} {kd : Int}
def asV : List (List UInt8) := [[32], [9], [194, 160], [226, 128, 175]]
inductive Blanks : List UInt8 → Prop
 | nil : Blanks []
 | cons {e b : List UInt8} (he : e ∈ asV) (hb : Blanks b) : Blanks (e ++ b)
theorem Blanks.one {e : List UInt8} (he : e ∈ asV) : Blanks e := by
 have := Blanks.cons he .nil
 rwa [bM] at this
theorem Blanks.app {a b : List UInt8} (ha : Blanks a) (hb : Blanks b) : Blanks (a ++ b) := by
 induction ha with
 | nil => exact hb
 | cons he _ ih => rw [aQ]; exact .cons he ih
theorem Blanks.last {b : List UInt8} (h : Blanks b) : b = [] ∨ ∃ e ∈ asV, ∃ c, Blanks c ∧ b = c ++ e := by
 induction h with
 | nil => exact .inl rfl
 | @cons e b he hb ih =>
  refine .inr ?_
  rcases ih with rfl | ⟨e2, he2, c, hc, rfl⟩
  ·exact ⟨e, he, [], .nil, by simp⟩
  exact ⟨e2, he2, e ++ c, .cons he hc, by simp⟩
theorem acS {e : List UInt8} (he : e ∈ asV) : e = [32] ∨ e = [9] ∨ e = [194, 160] ∨ e = [226, 128, 175] := by
 simpa [asV] using he
theorem ajQ {e : List UInt8} (he : e ∈ asV) (r : List UInt8) : zQ (decodeL (e ++ r)).1 = true ∧ (decodeL (e ++ r)).2 = e.length := by
 rcases acS he with rfl | rfl | rfl | rfl
 ·rw [show decodeL (([32] : List UInt8) ++ r) = (32, 1) by rw [decodeL_N]; exact decodeN_ascii _ _ _ _ _ (show (32 : UInt8).toNat < 128 by decide)]
  exact ⟨by decide, rfl⟩
 ·rw [show decodeL (([9] : List UInt8) ++ r) = (9, 1) by rw [decodeL_N]; exact decodeN_ascii _ _ _ _ _ (show (9 : UInt8).toNat < 128 by decide)]
  exact ⟨by decide, rfl⟩
 ·have : decodeL (([194, 160] : List UInt8) ++ r) = (160, 2) := by
   rw [decodeL_N]
   simp only [cQ, cF, cG, dB, aU]
   unfold decodeN
   simp
  rw [this]; exact ⟨by decide, rfl⟩
 have : decodeL (([226, 128, 175] : List UInt8) ++ r) = (8239, 3) := by
  rw [decodeL_N]
  simp only [cQ, cF, cG, dB, aU]
  unfold decodeN
  simp
 rw [this]; exact ⟨by decide, rfl⟩
theorem cdY {n b0 b1 b2 b3 : Nat} (h0 : b0 < 256) (h1 : b1 < 256) (h2 : b2 < 256) (h : zQ (decodeN n b0 b1 b2 b3).1 = true) : b0 = 32 ∨ b0 = 9 ∨ (1 < n ∧ b0 = 194 ∧ b1 = 160) ∨ (2 < n ∧ b0 = 226 ∧ b1 = 128 ∧ b2 = 175) := by
 unfold zQ at h
 simp only [cN, beq_iff_eq] at h
 unfold decodeN at h
 repeat' split at h
 all_goals (simp only at h; omega)
theorem abH {d : UInt8} (h : c.toNat = d.toNat) : c = d := UInt8.toNat_inj.1 h
theorem bsV {l : List UInt8} (h : zQ (decodeL l).1 = true) : ∃ e ∈ asV, ∃ r, l = e ++ r := by
 rw [decodeL_N] at h
 have k := cdY (UInt8.toNat_lt _) (UInt8.toNat_lt _) (UInt8.toNat_lt _) h
 match l, k with
 | [], k => simp at k
 | a :: t, k =>
  simp only [cG, aU] at k
  rcases k with k | k | ⟨hn, k, k1⟩ | ⟨hn, k, k1, k2⟩
  ·obtain rfl : a = 32 := abH k
   exact ⟨[32], by simp [asV], t, rfl⟩
  ·obtain rfl : a = 9 := abH k
   exact ⟨[9], by simp [asV], t, rfl⟩
  ·obtain rfl : a = 194 := abH k
   match t, hn, k1 with
   | b :: t, _, k1 =>
    obtain rfl : b = 160 := abH k1
    exact ⟨[194, 160], by simp [asV], t, rfl⟩
  obtain rfl : a = 226 := abH k
  match t, hn, k1, k2 with
  | [b], hn, _, _ => simp at hn
  | b :: c :: t, _, k1, k2 =>
   obtain rfl : b = 128 := abH k1
   obtain rfl : c = 175 := abH k2
   exact ⟨[226, 128, 175], by simp [asV], t, rfl⟩
theorem arY {e : List UInt8} (he : e ∈ asV) (r : List UInt8) : zQ (decodeLastL (r ++ e)).1 = true ∧ (decodeLastL (r ++ e)).2 = e.length := by
 rcases acS he with rfl | rfl | rfl | rfl
 ·have : decodeLastL (r ++ [32]) = (32, 1) := by
   unfold decodeLastL
   rw [aL aF, abR aF, aN aC]; rfl
  rw [this]; exact ⟨by decide, rfl⟩
 ·have : decodeLastL (r ++ [9]) = (9, 1) := by
   unfold decodeLastL
   rw [aL aF, abR aF, aN aC]; rfl
  rw [this]; exact ⟨by decide, rfl⟩
 ·have hst : lastStart (r ++ [194, 160]) = r.length := by
   have g2 : (r ++ [194, 160]).getD ((r ++ [194, 160]).length - 2) 0 = 194 := by simp [List.getD]
   unfold lastStart
   simp only [g2]
   rw [aL aF, aN aC]
   simp
  have : decodeLastL (r ++ [194, 160]) = (160, 2) := by
   unfold decodeLastL
   rw [aL aF, abR aF, aL aC, hst, cR, show decodeL [194, 160] = (160, 2) by decide +kernel]
   simp
  rw [this]; exact ⟨by decide, rfl⟩
 have hst : lastStart (r ++ [226, 128, 175]) = r.length := by
  have g2 : (r ++ [226, 128, 175]).getD ((r ++ [226, 128, 175]).length - 2) 0 = 128 := by simp [List.getD]
  have g3 : (r ++ [226, 128, 175]).getD ((r ++ [226, 128, 175]).length - 3) 0 = 226 := by simp [List.getD]
  unfold lastStart
  simp only [g2, g3]
  rw [aL aF, aL aC, aL aF, aN aC]
  simp
 have : decodeLastL (r ++ [226, 128, 175]) = (8239, 3) := by
  unfold decodeLastL
  rw [aL aF, abR aF, aL aC, hst, cR, show decodeL [226, 128, 175] = (8239, 3) by decide +kernel]
  simp
 rw [this]; exact ⟨by decide, rfl⟩
theorem cdK {l : List UInt8} (h : zQ (decodeLastL l).1 = true) : ∃ e ∈ asV, ∃ r, l = r ++ e := by
 unfold decodeLastL at h
 split at h
 ·exact absurd h aC
 rename_i hn
 have hl := bP.2 hn
 split at h
 ·have e : l = l.take (l.length - 1) ++ [l.getD (l.length - 1) 0] := by
   have h1 : l.drop (l.length - 1) = [l.getD (l.length - 1) 0] := by
    rw [cA aA, fI aA]
    simp [List.getD, bA (show l.length - 1 < l.length by omega)]
   rw [← h1, cV]
  unfold zQ at h
  simp only [cN, beq_iff_eq] at h
  rcases (by omega : (l.getD (l.length - 1) 0).toNat = 32 ∨ (l.getD (l.length - 1) 0).toNat = 9) with k | k
  ·exact ⟨[32], by simp [asV], l.take (l.length - 1), by rw [abH (d := 32) k] at e; exact e⟩
  exact ⟨[9], by simp [asV], l.take (l.length - 1), by rw [abH (d := 9) k] at e; exact e⟩
 simp only at h
 split at h
 ·rename_i hw
  obtain ⟨e, he, r, hr⟩ := bsV h
  have hw2 := (ajQ he r).2
  rw [← hr] at hw2
  have hlen := congrArg List.length hr
  rw [aW, aP] at hlen
  have hr0 : r = [] := bV.1 aA
  subst hr0
  rw [bM] at hr
  exact ⟨e, he, l.take (lastStart l), by rw [← hr, cV]⟩
 exact absurd h aC
theorem ahI : ∀ (f : Nat) (l : List UInt8), l.length ≤ f → ∃ B, Blanks B ∧ l = B ++ qN zQ f l ∧ (qN zQ f l = [] ∨ zQ (decodeL (qN zQ f l)).1 = false)
 | f, [], _ => ⟨[], .nil, by rw [abA]; rfl, .inl (abA _ _)⟩
 | 0, x :: l, h => by simp at h
 | f + 1, x :: l, h => by
  rw [afE _ _ aF]
  split
  ·rename_i hb
   obtain ⟨e, he, r, hr⟩ := bsV hb
   have hw := (ajQ he r).2
   have hd : (x :: l).drop (decodeL (x :: l)).2 = r := by rw [hr, hw, cR]
   rw [hd]
   have hlen := congrArg List.length hr
   have he1 : 1 ≤ e.length := by rcases acS he with rfl | rfl | rfl | rfl <;> simp
   rw [aP] at hlen
   obtain ⟨B, hB, h1, h2⟩ := ahI f r aA
   exact ⟨e ++ B, .cons he hB, by rw [aQ, ← h1]; exact hr, h2⟩
  rename_i hb
  exact ⟨[], .nil, rfl, .inr (by simpa using hb)⟩
theorem aiJ {x : List UInt8} (hB : Blanks B) (hx : x = [] ∨ zQ (decodeL x).1 = false) : ∀ f, (B ++ x).length ≤ f → qN zQ f (B ++ x) = x := by
 induction hB with
 | nil => intro f _; exact atQ hx f
 | @cons e b he _ ih =>
  intro f hf
  have he1 : 1 ≤ e.length := by rcases acS he with rfl | rfl | rfl | rfl <;> simp
  have hne : e ++ (b ++ x) ≠ [] := by intro q; rw [(List.append_eq_nil_iff.1 q).1] at he1; simp at he1
  rw [aQ] at hf ⊢
  rw [aP] at hf
  obtain ⟨g, rfl⟩ : ∃ g, f = g + 1 := ⟨f - 1, by omega⟩
  rw [afE _ _ hne, aN (ajQ he _).1, (ajQ he _).2, cR]
  exact ih g aA
theorem ayR (hB : Blanks B) (f : Nat) (hf : B.length ≤ f) : qN zQ f B = [] := by
 have := aiJ (x := []) hB (.inl rfl) f (by rwa [bM])
 rwa [bM] at this
def zT (s : List UInt8) : List UInt8 := qN zQ s.length s
theorem aaU (s : List UInt8) : ∃ B, Blanks B ∧ s = B ++ zT s := by
 obtain ⟨B, h1, h2, _⟩ := ahI s.length s (aT _)
 exact ⟨B, h1, h2⟩
theorem aaS {x : List UInt8} (hB : Blanks B) (hx : x = [] ∨ zQ (decodeL x).1 = false) : zT (B ++ x) = x := aiJ hB hx _ (aT _)
theorem anE (hB : Blanks B) : zT B = [] := ayR hB _ (aT _)
theorem arM {x : List UInt8} (hx : x = [] ∨ zQ (decodeL x).1 = false) : zT x = x := aaS .nil hx
theorem ahH : ∀ (f : Nat) (l : List UInt8), l.length ≤ f → ∃ B, Blanks B ∧ l = abK zQ f l ++ B
 | f, [], _ => ⟨[], .nil, by rw [abN]; rfl⟩
 | 0, x :: l, h => by simp at h
 | f + 1, x :: l, h => by
  rw [akI _ _ aF]
  split
  ·rename_i hb
   obtain ⟨e, he, r, hr⟩ := cdK hb
   have hw := (arY he r).2
   have hd : (x :: l).take ((x :: l).length - (decodeLastL (x :: l)).2) = r := by
    rw [hr, hw, aP, fN, fC]
   rw [hd]
   have hlen := congrArg List.length hr
   have he1 : 1 ≤ e.length := by rcases acS he with rfl | rfl | rfl | rfl <;> simp
   rw [aP] at hlen
   obtain ⟨B, hB, h1⟩ := ahH f r aA
   exact ⟨B ++ e, hB.app (.one he), by rw [← aQ, ← h1]; exact hr⟩
  exact ⟨[], .nil, by simp⟩
theorem alE {x : List UInt8} (hx : x = [] ∨ zQ (decodeLastL x).1 = false) : ∀ (n : Nat) (B : List UInt8), B.length ≤ n → Blanks B → ∀ f, (x ++ B).length ≤ f → abK zQ f (x ++ B) = x
 | n, B, hn, hB, f, hf => by
  rcases hB.last with rfl | ⟨e, he, c, hc, rfl⟩
  ·rw [bM]
   cases f with
   | zero => rfl
   | succ f =>
    by_cases h0 : x = []
    ·subst h0; exact abN _ _
    rw [akI _ _ h0, aL (by rw [hx.resolve_left h0]; decide)]
  have he1 : 1 ≤ e.length := by rcases acS he with rfl | rfl | rfl | rfl <;> simp
  rw [← aQ] at hf ⊢
  rw [aP] at hf hn
  obtain ⟨g, rfl⟩ : ∃ g, f = g + 1 := ⟨f - 1, by omega⟩
  obtain ⟨m, rfl⟩ : ∃ m, n = m + 1 := ⟨n - 1, by omega⟩
  have hne : (x ++ c) ++ e ≠ [] := by intro q; rw [(List.append_eq_nil_iff.1 q).2] at he1; simp at he1
  rw [akI _ _ hne, aN (arY he _).1, (arY he _).2, aP, fN, fC]
  exact alE hx m c aA hc g aA
theorem atN (s : List UInt8) : ∃ B C, Blanks B ∧ Blanks C ∧ s = B ++ aaI zQ s ++ C := by
 unfold aaI
 obtain ⟨B, hB, h1, _⟩ := ahI s.length s (aT _)
 obtain ⟨C, hC, h2⟩ := ahH s.length (qN zQ s.length s) (acO _ _ _)
 exact ⟨B, C, hB, hC, by rw [aQ, ← h2]; exact h1⟩
theorem aoO {C x : List UInt8} (hB : Blanks B) (hC : Blanks C) (hl : x = [] ∨ zQ (decodeL (x ++ C)).1 = false) (hr : x = [] ∨ zQ (decodeLastL x).1 = false) : aaI zQ (B ++ x ++ C) = x := by
 unfold aaI
 by_cases h0 : x = []
 ·subst h0
  rw [bM, ayR (hB.app hC) _ (aT _), abN]
 rw [aQ, aiJ hB (.inr (hl.resolve_left h0)) _ (aT _)]
 exact alE hr C.length C (aT _) hC _ (by simp only [aP]; omega)
def chI (l : Loc) : Nat := l.second
def ajV (l : Loc) (n : Nat) : Prop := 3 ≤ n ∧ (n - 3) % chI l = 0
instance (l : Loc) (n : Nat) : Decidable (ajV l n) := by unfold ajV; exact inferInstance
def gRo (l : Loc) (o : Nat) : List UInt8 → Bool → List UInt8
 | [], _ => []
 | c :: t, b => (if b = false ∧ ajV l (t.length + 1 + o) then l.grp else []) ++ c :: gRo l o t false
def gR (l : Loc) (d : List UInt8) : List UInt8 := gRo l 0 d true
theorem bsK (l : Loc) (o : Nat) : ∀ (a b : List UInt8) (f : Bool), gRo l o (a ++ b) f = gRo l (o + b.length) a f ++ gRo l o b (f && a.isEmpty)
 | [], b, f => by simp [gRo]
 | c :: t, b, f => by
  rw [cQ, gRo, bsK l o t b false, gRo]
  have e : (t ++ b).length + 1 + o = t.length + 1 + (o + b.length) := by rw [aP]; omega
  rw [e]
  simp
theorem axR (l : Loc) (o : Nat) : ∀ (d : List UInt8) (f : Bool), (∀ n, o < n → n ≤ o + d.length → (f = true → n < o + d.length) → ¬ ajV l n) → gRo l o d f = d
 | [], _, _ => rfl
 | c :: t, f, h => by
  rw [gRo, axR l o t false (fun n h1 h2 _ => h n h1 (by simp only [aU]; omega) (fun _ => by simp only [aU]; omega))]
  rw [aL]
  ·rfl
  rintro ⟨hf, hm⟩
  exact h _ aA (by simp only [aU]; omega) (fun q => by rw [q] at hf; cases hf) hm
def bqR (l : Loc) (i : Nat) : Nat := if i = 0 then 0 else if l.second = 2 then 3 + (i - 1) * 2 else 3 + (i - 1) * 3
theorem bhW {l : Loc} (hs : l.second = 2 ∨ l.second = 3) (i n : Nat) (h1 : bqR l i < n) (h2 : n < bqR l i + abL l i) : ¬ ajV l n := by
 unfold bqR at h1 h2
 unfold abL at h2
 unfold ajV chI
 rintro ⟨h3, h4⟩
 rcases hs with hs | hs
 ·grind
 grind
theorem bwI {l : Loc} (hs : l.second = 2 ∨ l.second = 3) (i : Nat) : bqR l (i + 1) = bqR l i + abL l i ∧ ajV l (bqR l (i + 1)) := by
 unfold bqR abL ajV chI
 rcases hs with hs | hs
 ·grind
 grind
theorem bbA {l : Loc} (hs : l.second = 2 ∨ l.second = 3) : ∀ (f i : Nat) (d s : List UInt8), d.length ≤ f → axP l f i d s = gRo l (bqR l i) d true ++ s
 | 0, i, d, s, h => by
  have : d = [] := bV.1 aA
  subst this; rfl
 | f + 1, i, d, s, h => by
  have h2 := aiM l i
  unfold axP
  split
  ·rename_i hc
   rw [bbA hs f (i + 1) _ _ (by rw [aS]; omega)]
   have hl : (d.drop (d.length - abL l i)).length = abL l i := by rw [aW]; omega
   have hn := bwI hs i
   conv => rhs; rw [← cV (d.length - abL l i) d]
   rw [bsK, hl, ← hn.1]
   have hem : (d.take (d.length - abL l i)).isEmpty = false := by
    rw [List.isEmpty_eq_false_iff_exists_mem]
    refine ⟨(d.take (d.length - abL l i))[0]'(by rw [aS]; omega), eJ _⟩
   rw [hem, Bool.and_false]
   have hg : gRo l (bqR l i) (d.drop (d.length - abL l i)) false = l.grp ++ d.drop (d.length - abL l i) := by
    cases hd : d.drop (d.length - abL l i) with
    | nil => rw [hd] at hl; simp at hl; omega
    | cons c t =>
     rw [hd] at hl
     simp only [aU] at hl
     rw [gRo, aN ⟨rfl, by rw [show t.length + 1 + bqR l i = bqR l (i + 1) by omega]; exact hn.2⟩]
     rw [axR l _ t false (fun n h3 h4 _ => bhW hs i n h3 aA)]
   rw [hg]
   simp only [aQ]
  rename_i hc
  rw [axR l _ d true (fun n h3 h4 h5 => bhW hs i n h3 (by have := h5 rfl; omega))]
theorem bfF {l : Loc} (hs : l.second = 2 ∨ l.second = 3) (d : List UInt8) : aoH l d = gR l d := by
 unfold aoH gR
 rw [bbA hs _ _ _ _ (aT _), bM]; rfl
theorem bfA : ∀ l ∈ locs, l.second = 2 ∨ l.second = 3 := by
 intro l hl
 simp only [locs, cO, eI, or_false] at hl
 rcases hl with rfl | rfl | rfl | rfl | rfl | rfl <;> simp

/-! ### chains -/
inductive Ch (l : Loc) : List UInt8 → List UInt8 → Prop
 | nil : Ch l [] []
 | cons {r s d : List UInt8} (hr : Digs r) (hn : r ≠ []) (hs : Ch l s d) : Ch l (l.grp ++ r ++ s) (r ++ d)
theorem Ch.digs {l : Loc} {s : List UInt8} (h : Ch l s d) : Digs d := by
 induction h with
 | nil => intro b hb; simp at hb
 | cons hr _ _ ih => exact Digs.app hr ih
theorem Ch.repl {l : Loc} (hl : l.fine) {s : List UInt8} (h : Ch l s d) : replaceAll s l.grp [] = d ∧ (s = [] ∨ ∃ z, s = l.grp ++ z) := by
 obtain ⟨c, q, hg, hc, _⟩ := hl.grp
 induction h with
 | nil => exact ⟨by rw [hg]; exact bhG, .inl rfl⟩
 | @cons r s d hr hn hs ih =>
  refine ⟨?_, .inr ⟨r ++ s, by rw [aQ]⟩⟩
  rw [hg] at ih ⊢
  have := awM (c := c) (q := q) (a := []) (z := r ++ s) aF
  rw [cF, cF] at this
  rw [aQ, this, azN (biV hr hc) ih.2, ih.1]
theorem Ch.len {l : Loc} (hl : l.fine) {s : List UInt8} (h : Ch l s d) : d.length ≤ s.length ∧ (s ≠ [] → d.length < s.length) := by
 obtain ⟨c, q, hg, hc, _⟩ := hl.grp
 induction h with
 | nil => exact ⟨aT _, fun h => absurd rfl h⟩
 | @cons r s d hr hn hs ih =>
  have : 1 ≤ l.grp.length := by rw [hg]; simp
  have e : (l.grp ++ r ++ s).length = l.grp.length + r.length + s.length := by simp only [aP]
  rw [e, aP]
  exact ⟨by omega, fun _ => by omega⟩
theorem bbU {l : Loc} : ∀ (f i : Nat) (d s e : List UInt8), Digs d → d ≠ [] → Ch l s e → ∃ d0 s0 e0, axP l f i d s = d0 ++ s0 ∧ d0 ≠ [] ∧ Digs d0 ∧ Ch l s0 e0 ∧ d0 ++ e0 = d ++ e
 | 0, _, d, s, e, hd, hn, hs => ⟨d, s, e, rfl, hn, hd, hs, rfl⟩
 | f + 1, i, d, s, e, hd, hn, hs => by
  have h2 := aiM l i
  unfold axP
  split
  ·rename_i hc
   have ht : Digs (d.take (d.length - abL l i)) := fun b hb => hd b (fR hb)
   have hp : Digs (d.drop (d.length - abL l i)) := fun b hb => hd b (List.mem_of_mem_drop hb)
   have hpn : d.drop (d.length - abL l i) ≠ [] := by
    intro q; have := congrArg List.length q; rw [aW] at this; simp at this; omega
   have htn : d.take (d.length - abL l i) ≠ [] := by
    intro q; have := congrArg List.length q; rw [aS] at this; simp at this; omega
   obtain ⟨d0, s0, e0, h3, h4, h5, h6, h7⟩ := bbU f (i + 1) _ _ _ ht htn (.cons hp hpn hs)
   exact ⟨d0, s0, e0, h3, h4, h5, h6, by rw [h7, ← aQ, cV]⟩
  exact ⟨d, s, e, rfl, hn, hd, hs, rfl⟩
theorem beN {l : Loc} (hl : l.fine) {w : List UInt8} (h : adD l w = some d) : ∃ d0 s0 d1, w = d0 ++ s0 ∧ d0 ≠ [] ∧ Digs d0 ∧ Ch l s0 d1 ∧ d = d0 ++ d1 := by
 have hs := arD h
 unfold adD at h
 split at h
 ·cases h
 split at h
 ·cases h
 rename_i h1 h2
 injection h with h
 rw [h] at h1 h2
 by_cases he : d = w
 ·exact ⟨d, [], [], by rw [bM, he], hs.2.2, hs.1, .nil, by simp⟩
 have hg : aoH l d = w := fX fun q => h2 ⟨he, q⟩
 obtain ⟨d0, s0, e0, h3, h4, h5, h6, h7⟩ := bbU (l := l) d.length 0 d [] [] hs.1 hs.2.2 .nil
 exact ⟨d0, s0, e0, by rw [← h3]; exact hg.symm, h4, h5, h6, by rw [h7, bM]⟩
theorem akX {l : Loc} (hl : l.fine) {s0 : List UInt8} (h0 : d0 ≠ []) (hd : Digs d0) (hc : Ch l s0 d1) :
  adD l (d0 ++ s0) = (if s0 ≠ [] ∧ aoH l (d0 ++ d1) ≠ d0 ++ s0 then none else some (d0 ++ d1)) ∧ ((d0 ++ d1 = d0 ++ s0) ↔ s0 = []) := by
 obtain ⟨c, q, hg, hcd, _⟩ := hl.grp
 have hr := hc.repl hl
 have hlen := hc.len hl
 have e : replaceAll (d0 ++ s0) l.grp [] = d0 ++ d1 := by
  rw [hg] at hr ⊢
  rw [azN (biV hd hcd) hr.2, hr.1]
 have hiff : (d0 ++ d1 = d0 ++ s0) ↔ s0 = [] := by
  constructor
  ·intro h
   have h1 := List.append_cancel_left h
   refine fX fun q => ?_
   have := hlen.2 q
   rw [h1] at this; omega
  rintro rfl
  have : d1 = [] := bV.1 (by have := hlen.1; simpa using this)
  rw [this]
 refine ⟨?_, hiff⟩
 unfold adD
 rw [e, aL]
 ·grind
 rintro (h | h)
 ·simp [h0] at h
 exact apE.1 h (Digs.app hd hc.digs)

/-! ### as the document reads them -/
def anF (c : UInt8) : Bool := decide (48 ≤ c.toNat) && decide (c.toNat ≤ 57)
theorem ahR : anF c = true ↔ isD c := by unfold anF isD; simp
theorem bfD : anF c = false ↔ ¬ isD c := by rw [← ahR]; simp
def adN (l : Loc) : Nat → List UInt8 → Option (List UInt8 × Bool)
 | 0, _ => some ([], false)
 | f + 1, s => if s = [] then some ([], false) else if anF (s.getD 0 0) = true then (match adN l f (s.drop 1) with | none => none | some (d, m) => some (s.getD 0 0 :: d, m))
  else if hasPrefix s l.grp = true then (match adN l f (s.drop l.grp.length) with | none => none | some (d, _) => some (d, true)) else none
def aeM (l : Loc) (s : List UInt8) : Option (List UInt8) :=
 match adN l s.length s with
 | none => none
 | some (d, m) => if d = [] ∨ (m = true ∧ gR l d ≠ s) then none else some d
theorem apY {l : Loc} : ∀ (d s : List UInt8) (f : Nat), Digs d → (d ++ s).length ≤ f → adN l f (d ++ s) = (match adN l (f - d.length) s with | none => none | some (e, m) => some (d ++ e, m))
 | [], s, f, _, _ => by
  simp only [cF, bH, gB]
  cases adN l f s <;> rfl
 | c :: d, s, f, hd, hf => by
  obtain ⟨g, rfl⟩ : ∃ g, f = g + 1 := ⟨f - 1, by simp only [cQ, aU] at hf; omega⟩
  have ih := apY (l := l) d s g (fun b hb => hd b (by simp [hb])) (by simp only [cQ, aU] at hf; omega)
  rw [cQ, adN, aL aF, cG, aN (ahR.2 (hd c aF)), eM, cT, ih]
  have : g + 1 - (c :: d).length = g - d.length := by simp only [aU]; omega
  rw [this]
  cases adN l (g - d.length) s <;> rfl
theorem bkA {l : Loc} (hl : l.fine) {s : List UInt8} (h : Ch l s d) : ∀ f, s.length ≤ f → adN l f s = some (d, !decide (s = [])) := by
 obtain ⟨c, q, hg, hcd, _⟩ := hl.grp
 induction h with
 | nil =>
  intro f _
  cases f <;> simp [adN]
 | @cons r s d hr hn hs ih =>
  intro f hf
  have e : l.grp ++ r ++ s = c :: (q ++ (r ++ s)) := by rw [hg]; simp
  have hlen : (l.grp ++ r ++ s).length = l.grp.length + (r ++ s).length := by simp only [aP]; omega
  have hg1 : 1 ≤ l.grp.length := by rw [hg]; simp
  obtain ⟨g, rfl⟩ : ∃ g, f = g + 1 := ⟨f - 1, by omega⟩
  have hne : l.grp ++ r ++ s ≠ [] := by rw [e]; simp
  have h0 : (l.grp ++ r ++ s).getD 0 0 = c := by rw [e]; rfl
  have hp : hasPrefix (l.grp ++ r ++ s) l.grp = true := by
   unfold hasPrefix; rw [List.isPrefixOf_iff_prefix, aQ]; exact List.prefix_append _ _
  rw [adN, aL hne, h0, aL (by rw [bfD.2 hcd]; decide), aN hp, aQ, cR, apY r s g hr aA, ih _ (by have h9 : (r ++ s).length = r.length + s.length := aP; omega)]
  have : decide (l.grp ++ (r ++ s) = []) = false := bD (by rw [← aQ]; exact hne)
  rw [this]; rfl
theorem baF {l : Loc} (hl : l.fine) (hs : l.second = 2 ∨ l.second = 3) {s0 : List UInt8} (h0 : d0 ≠ []) (hd : Digs d0) (hc : Ch l s0 d1) : aeM l (d0 ++ s0) = adD l (d0 ++ s0) := by
 rw [(akX hl h0 hd hc).1]
 unfold aeM
 rw [apY d0 s0 _ hd (aT _), bkA hl hc _ (by rw [aP]; omega)]
 simp only
 rw [← bfF hs]
 have hn : ¬ d0 ++ d1 = [] := by simp [h0]
 by_cases h : s0 = []
 ·grind
 grind
/-! ### rows of digits -/
def abV (s : List UInt8) : List UInt8 := s.takeWhile anF
def aaY (s : List UInt8) : List UInt8 := s.dropWhile anF
def NoD (s : List UInt8) : Prop := ∀ c t, s = c :: t → ¬ isD c
theorem abX (s : List UInt8) : abV s ++ aaY s = s := List.takeWhile_append_dropWhile
theorem agQ (s : List UInt8) : Digs (abV s) := by
 intro b hb
 exact ahR.1 (fK.1 (List.all_takeWhile (p := anF) (l := s)) b hb)
theorem bvV (s : List UInt8) : NoD (aaY s) := by
 intro c t h
 have hn := List.head?_dropWhile_not (p := anF) (l := s)
 unfold aaY at h
 rw [h] at hn
 simp only [List.head?_cons] at hn
 exact bfD.1 (by simpa using hn)
theorem ahL : ∀ {d y : List UInt8}, Digs d → NoD y → abV (d ++ y) = d ∧ aaY (d ++ y) = y
 | [], y, _, hy => by
  unfold abV aaY
  cases y with
  | nil => exact ⟨rfl, rfl⟩
  | cons c t =>
   have := bfD.2 (hy c t rfl)
   simp [this]
 | c :: d, y, hd, hy => by
  have ih := ahL (d := d) (y := y) (fun b hb => hd b (by simp [hb])) hy
  have hc := ahR.2 (hd c aF)
  unfold abV aaY at ih ⊢
  simp only [cQ, List.takeWhile_cons, dV, hc, if_true]
  exact ⟨by rw [ih.1], ih.2⟩
/-! ### signs -/
def chL (l : Loc) (g : List UInt8) (b : Bool) : Prop := (g = [] ∧ b = false) ∨ (g = [43] ∧ b = false) ∨ (g = [45] ∧ b = true) ∨ (g = l.minus ∧ b = true)
def chG (l : Loc) (s : List UInt8) : Prop := hasPrefix s [43] = false ∧ hasPrefix s [45] = false ∧ hasPrefix s l.minus = false
theorem acM (a b : List UInt8) : hasPrefix (a ++ b) a = true := by
 unfold hasPrefix; rw [List.isPrefixOf_iff_prefix]; exact List.prefix_append _ _
theorem acZ {s p : List UInt8} : hasPrefix s p = true ↔ ∃ z, s = p ++ z := by
 unfold hasPrefix; rw [List.isPrefixOf_iff_prefix]
 exact ⟨fun ⟨z, h⟩ => ⟨z, h.symm⟩, fun ⟨z, h⟩ => ⟨z, h.symm⟩⟩
theorem akJ {s p : List UInt8} : hasSuffix s p = true ↔ ∃ z, s = z ++ p := by
 unfold hasSuffix; rw [List.isSuffixOf_iff_suffix]
 exact ⟨fun ⟨z, h⟩ => ⟨z, h.symm⟩, fun ⟨z, h⟩ => ⟨z, h.symm⟩⟩
theorem adG (a b : List UInt8) : trimPrefix (a ++ b) a = b := by
 unfold trimPrefix; rw [aN (acM a b), cR]
theorem ajB (a b : List UInt8) : trimSuffix (a ++ b) b = a := by
 unfold trimSuffix
 rw [aN (akJ.2 ⟨a, rfl⟩), aP, fN, fC]
theorem amW {l : Loc} (hl : l.fine) {g : List UInt8} {b : Bool} (hg : chL l g b) {x : List UInt8} (hx : g = [] → chG l x) : yF l (g ++ x) = (x, b) := by
 obtain ⟨c, r, hm, hc, hc2, hc3, hc4, _⟩ := hl.minus
 unfold yF
 rcases hg with ⟨rfl, rfl⟩ | ⟨rfl, rfl⟩ | ⟨rfl, rfl⟩ | ⟨rfl, rfl⟩
 ·have h := hx rfl
  rw [cF, h.1, h.2.1, h.2.2]; rfl
 ·rw [aN (acM _ _), adG]
 ·rw [aL (by rw [zZ aF]; decide), aN (acM _ _), adG]
 rw [aL (by rw [hm, zZ (by simpa using hc2)]; decide)]
 by_cases h45 : c = 45
 ·have hm2 : l.minus = [45] := by rw [hm, hc4 h45, h45]
  rw [hm2, aN (acM _ _), adG]
 rw [aL (by rw [hm, zZ (by simpa using h45)]; decide), aN (acM _ _), adG]
theorem agP (l : Loc) (s : List UInt8) : ∃ g, chL l g (yF l s).2 ∧ s = g ++ (yF l s).1 := by
 unfold yF
 split
 ·rename_i h
  obtain ⟨z, rfl⟩ := acZ.1 h
  exact ⟨[43], .inr (.inl ⟨rfl, rfl⟩), by rw [adG]⟩
 split
 ·rename_i h
  obtain ⟨z, rfl⟩ := acZ.1 h
  exact ⟨[45], .inr (.inr (.inl ⟨rfl, rfl⟩)), by rw [adG]⟩
 split
 ·rename_i h
  obtain ⟨z, rfl⟩ := acZ.1 h
  exact ⟨l.minus, .inr (.inr (.inr ⟨rfl, rfl⟩)), by rw [adG]⟩
 exact ⟨[], .inl ⟨rfl, rfl⟩, rfl⟩
theorem bbZ {l : Loc} (hl : l.fine) (h1 : c ≠ 43) (h2 : c ≠ 45) (h3 : ∀ d r, l.minus = d :: r → c ≠ d) : chG l (c :: t) := by
 obtain ⟨d, r, hm, _⟩ := hl.minus
 exact ⟨zZ (by simpa using h1), zZ (by simpa using h2), by rw [hm]; exact zZ (by simpa using h3 d r hm)⟩
theorem avN {l : Loc} (hl : l.fine) (hc : isD c) : chG l (c :: t) := by
 obtain ⟨d, r, hm, hd, _⟩ := hl.minus
 exact bbZ hl (by rintro rfl; exact absurd hc (notD aC)) (by rintro rfl; exact absurd hc (notD aC)) (fun d2 r2 h2 => by rw [hm] at h2; injection h2 with h2 _; subst h2; rintro rfl; exact hd hc)
theorem bvE {l : Loc} (hl : l.fine) {s : List UInt8} (hn : (yF l s).1 ≠ []) (hd : Digs (yF l s).1) (z : List UInt8) : yF l (s ++ z) = ((yF l s).1 ++ z, (yF l s).2) := by
 obtain ⟨g, hg, hs⟩ := agP l s
 have e : s ++ z = g ++ ((yF l s).1 ++ z) := by rw [← aQ, ← hs]
 rw [e]
 refine amW hl hg fun _ => ?_
 cases hp : (yF l s).1 with
 | nil => exact absurd hp hn
 | cons c t => exact avN hl (hd c (by rw [hp]; simp))

/-! ### whole digits -/
def agL (l : Loc) (t s : List UInt8) : Bool := (!t.isEmpty && hasPrefix s l.grp) && (decide (l.grp.length < s.length) && anF (s.getD l.grp.length 0))
def acI (l : Loc) : Nat → List UInt8 → List UInt8 → List UInt8 → Bool → List UInt8 × List UInt8 × List UInt8 × Bool
 | 0, a, t, s, g => (a, t, s, g)
 | f + 1, a, t, s, g => if agL l t s = true then acI l f (a ++ abV (s.drop l.grp.length)) (t ++ l.grp ++ abV (s.drop l.grp.length)) (aaY (s.drop l.grp.length)) true else (a, t, s, g)
def bzG (l : Loc) (y : List UInt8) : Prop := NoD y ∧ ¬ (hasPrefix y l.grp = true ∧ isD (y.getD l.grp.length 0))
theorem atS {l : Loc} (h : bzG l y) : agL l t y = false := by
 unfold agL
 rw [Bool.eq_false_iff]
 intro q
 simp only [bK] at q
 exact h.2 ⟨q.1.2, ahR.1 q.2.2⟩
theorem abI {l : Loc} (h : agL l t y = false) (f : Nat) (a : List UInt8) (g : Bool) : acI l f a t y g = (a, t, y, g) := by
 cases f with
 | zero => rfl
 | succ f => rw [acI, aL (by rw [h]; decide)]
theorem btP {l : Loc} (hl : l.fine) {s : List UInt8} (h : Ch l s d) (hy : NoD y) : NoD (s ++ y) := by
 obtain ⟨c, q, hg, hc, _⟩ := hl.grp
 cases h with
 | nil => exact hy
 | cons hr hn hs =>
  intro b t hb
  rw [hg] at hb
  simp only [cQ] at hb
  injection hb with hb _
  subst hb; exact hc
theorem ayP {l : Loc} (hl : l.fine) {s : List UInt8} (h : Ch l s d) (hy : bzG l y) : ∀ (f : Nat) (a t : List UInt8) (g : Bool), t ≠ [] → s.length ≤ f → acI l f a t (s ++ y) g = (a ++ d, t ++ s, y, g || !decide (s = [])) := by
 obtain ⟨c, q, hg, hc, _⟩ := hl.grp
 induction h with
 | nil =>
  intro f a t g ht _
  rw [cF, abI (atS hy)]
  simp
 | @cons r s d hr hn hs ih =>
  intro f a t g ht hf
  have hg1 : 1 ≤ l.grp.length := by rw [hg]; simp
  have e : (l.grp ++ r ++ s).length = l.grp.length + (r.length + s.length) := by simp only [aP]; omega
  obtain ⟨f, rfl⟩ : ∃ k, f = k + 1 := ⟨f - 1, by omega⟩
  have hr1 : 1 ≤ r.length := bP.2 hn
  have e2 : l.grp ++ r ++ s ++ y = l.grp ++ (r ++ (s ++ y)) := by simp only [aQ]
  have hm : agL l t (l.grp ++ r ++ s ++ y) = true := by
   unfold agL
   rw [e2, acM]
   have h1 : (l.grp ++ (r ++ (s ++ y))).getD l.grp.length 0 = r.getD 0 0 := by
    cases hr0 : r with
    | nil => exact absurd hr0 hn
    | cons x z => simp [List.getD, dC]
   have h2 : isD (r.getD 0 0) := by
    cases hr0 : r with
    | nil => exact absurd hr0 hn
    | cons x z => rw [hr0] at hr; exact hr x aF
   rw [h1, ahR.2 h2]
   have h3 : t.isEmpty = false := by cases t with
    | nil => exact absurd rfl ht
    | cons _ _ => rfl
   have h4 : l.grp.length < (l.grp ++ (r ++ (s ++ y))).length := by simp only [aP]; omega
   rw [h3, bG h4]; rfl
  rw [acI, aN hm, e2, cR, (ahL hr (btP hl hs hy.1)).1, (ahL hr (btP hl hs hy.1)).2, ih _ _ _ _ (by simp [ht]) aA]
  have h5 : decide (l.grp ++ r ++ s = []) = false := bD (by rw [hg]; simp)
  rw [h5]
  simp only [aQ, Bool.true_or, Bool.not_false, Bool.or_true]
theorem anO {l : Loc} (hl : l.fine) : ∀ (f : Nat) (a t s : List UInt8) (g : Bool), ∃ s0 d y, Ch l s0 d ∧ s = s0 ++ y ∧ acI l f a t s g = (a ++ d, t ++ s0, y, g || !decide (s0 = []))
 | 0, a, t, s, g => ⟨[], [], s, .nil, rfl, by simp [acI]⟩
 | f + 1, a, t, s, g => by
  obtain ⟨c, q, hg, hc, _⟩ := hl.grp
  cases hm : agL l t s with
  | false => exact ⟨[], [], s, .nil, rfl, by rw [abI hm]; simp⟩
  | true =>
   rw [acI, aN hm]
   unfold agL at hm
   simp only [bK] at hm
   obtain ⟨x, rfl⟩ := acZ.1 hm.1.2
   rw [cR]
   have hrn : abV x ≠ [] := by
    have h1 : (l.grp ++ x).getD l.grp.length 0 = x.getD 0 0 := by
     cases x with
     | nil => simp [List.getD]
     | cons b z => simp [List.getD, dC]
    rw [h1] at hm
    intro h0
    have h2 := abX x
    rw [h0, cF] at h2
    cases x with
    | nil => exact absurd hm.2.2 aC
    | cons b z => exact bvV (b :: z) b z h2 (ahR.1 hm.2.2)
   obtain ⟨s0, d, y, h1, h2, h3⟩ := anO hl f (a ++ abV x) (t ++ l.grp ++ abV x) (aaY x) true
   refine ⟨l.grp ++ abV x ++ s0, abV x ++ d, y, .cons (agQ x) hrn h1, ?_, ?_⟩
   ·rw [aQ, aQ, ← h2, abX]
   rw [h3]
   have h5 : decide (l.grp ++ abV x ++ s0 = []) = false := bD (by rw [hg]; simp)
   rw [h5]
   simp only [aQ, Bool.true_or, Bool.not_false, Bool.or_true]

/-! ### numbers, as the document reads them -/
def wR (l : Loc) (s : List UInt8) : List UInt8 × List UInt8 × List UInt8 × Bool := acI l s.length (abV s) (abV s) (aaY s) false
def pR (l : Loc) (s : List UInt8) : List UInt8 × List UInt8 := if hasPrefix s l.dc = true then (abV (s.drop l.dc.length), aaY (s.drop l.dc.length)) else ([], s)
def amU (l : Loc) (s : List UInt8) : Option (Int × Bool × List UInt8) :=
 if s = [] ∨ (s.getD 0 0 ≠ 101 ∧ s.getD 0 0 ≠ 69) then some (0, false, s)
 else if abV (yF l (s.drop 1)).1 = [] ∨ 9 < (abV (yF l (s.drop 1)).1).length then none
 else some (if (yF l (s.drop 1)).2 = true then -(num (abV (yF l (s.drop 1)).1) : Int) else (num (abV (yF l (s.drop 1)).1) : Int), true, aaY (yF l (s.drop 1)).1)
def amN (l : Loc) (s : List UInt8) : Option (List UInt8 × Int × Nat × Bool × Bool × List UInt8) :=
 if (wR l s).2.1 ≠ [] ∧ aeM l (wR l s).2.1 = none then none
 else if (wR l s).1 = [] ∧ (pR l (wR l s).2.2.1).1 = [] then none
 else match amU l (pR l (wR l s).2.2.1).2 with
  | none => none
  | some (n, x, z) => some ((wR l s).1 ++ (pR l (wR l s).2.2.1).1, n - ((pR l (wR l s).2.2.1).1.length : Int), (pR l (wR l s).2.2.1).1.length, (wR l s).2.2.2, x, z)

/-! ### what a number is -/
def bzH (l : Loc) (E : List UInt8) (n : Int) (x : Bool) : Prop := (E = [] ∧ n = 0 ∧ x = false) ∨ (∃ c S, E = c :: S ∧ (c = 69 ∨ c = 101) ∧ bbM l S = some n ∧ x = true)
def bcG (l : Loc) (t d : List UInt8) (e : Int) (k : Nat) (gr x : Bool) : Prop :=
 ∃ (W R E : List UInt8) (p : Bool) (dd : List UInt8) (n : Int), t = W ++ ((if p = true then l.dc ++ R else []) ++ E) ∧ (p = false → R = []) ∧ acJ l W = some (dd, gr) ∧ Digs R ∧ ¬ (dd = [] ∧ R = []) ∧ bzH l E n x ∧ d = dd ++ R ∧ k = R.length ∧ e = n - (R.length : Int)
structure CleanZ (l : Loc) (z : List UInt8) : Prop where
 noD : ∀ b ∈ z, ¬ isD b
 head : ∀ c t, z = c :: t → c ≠ 69 ∧ c ≠ 101 ∧ l.dc ≠ [c]
theorem CleanZ.no {l : Loc} (h : CleanZ l z) : NoD z := fun c t e => h.noD c (by rw [e]; simp)
theorem biP {l : Loc} {S : List UInt8} {n : Int} (h : bbM l S = some n) : (yF l S).1 ≠ [] ∧ Digs (yF l S).1 ∧ (yF l S).1.length ≤ 9 ∧ n = (if (yF l S).2 = true then -(num (yF l S).1 : Int) else (num (yF l S).1 : Int)) := by
 unfold bbM at h
 split at h
 ·rename_i hc
  injection h with h
  exact ⟨hc.1, aeA.1 hc.2.1, hc.2.2, h.symm⟩
 cases h
theorem cbP {l : Loc} (hl : l.fine) {E : List UInt8} {n : Int} (h : bzH l E n x) (hz : CleanZ l Z) : amU l (E ++ Z) = some (n, x, Z) := by
 rcases h with ⟨rfl, rfl, rfl⟩ | ⟨c, S, rfl, hc, he, rfl⟩
 ·unfold amU
  rw [cF, aN]
  cases Z with
  | nil => exact .inl rfl
  | cons b t => have := hz.head b t rfl; exact .inr ⟨this.2.1, this.1⟩
 obtain ⟨h1, h2, h3, h4⟩ := biP he
 have hs := bvE hl h1 h2 Z
 have hr := ahL h2 hz.no
 unfold amU
 rw [aL, cQ, eM, cT, hs]
 ·simp only
  rw [hr.1, hr.2, aL, h4]
  rintro (q | q)
  ·exact h1 q
  omega
 rintro (q | q)
 ·cases q
 rcases hc with rfl | rfl
 ·exact q.2 rfl
 exact q.1 rfl
theorem bjU {l : Loc} (hl : l.fine) {s : List UInt8} {n : Int} (h : amU l s = some (n, x, Z)) : ∃ E, s = E ++ Z ∧ bzH l E n x := by
 unfold amU at h
 split at h
 ·injection h with h
  injection h with h1 h2
  injection h2 with h2 h3
  exact ⟨[], h3, .inl ⟨rfl, h1.symm, h2.symm⟩⟩
 rename_i hc
 split at h
 ·cases h
 rename_i hr
 injection h with h
 injection h with h1 h2
 injection h2 with h2 h3
 cases s with
 | nil => exact absurd (.inl rfl) hc
 | cons c S1 =>
  rw [eM, cT] at *
  obtain ⟨g, hg, hs⟩ := agP l S1
  have hrr := abX (yF l S1).1
  have hd := agQ (yF l S1).1
  have hn : abV (yF l S1).1 ≠ [] := fun q => hr (.inl q)
  have hsg : yF l (g ++ abV (yF l S1).1) = (abV (yF l S1).1, (yF l S1).2) := by
   refine amW hl hg fun _ => ?_
   cases hp : abV (yF l S1).1 with
   | nil => exact absurd hp hn
   | cons b t => exact avN hl (hd b (by rw [hp]; simp))
  refine ⟨c :: (g ++ abV (yF l S1).1), ?_, .inr ⟨c, _, rfl, ?_, ?_, h2.symm⟩⟩
  ·rw [← h3, cQ, aQ, hrr, ← hs]
  ·rw [cG] at hc
   by_cases q : c = 69
   ·exact .inl q
   exact .inr (fX fun q2 => hc (.inr ⟨q2, q⟩))
  unfold bbM
  rw [hsg]
  simp only
  rw [aN ⟨hn, aeA.2 hd, Nat.le_of_not_lt fun q => hr (.inr q)⟩, h1]
theorem adB {l : Loc} (hl : l.fine) (h : acJ l W = some (dd, gr)) : (W = [] ∧ dd = [] ∧ gr = false) ∨ ∃ d0 s0 d1, W = d0 ++ s0 ∧ d0 ≠ [] ∧ Digs d0 ∧ Ch l s0 d1 ∧ dd = d0 ++ d1 ∧ gr = !decide (s0 = []) ∧ adD l W = some dd := by
 unfold acJ at h
 split at h
 ·rename_i hw
  injection h with h
  injection h with h1 h2
  exact .inl ⟨hw, h1.symm, h2.symm⟩
 cases hp : adD l W with
 | none => rw [hp] at h; cases h
 | some q =>
  rw [hp] at h
  injection h with h
  injection h with h1 h2
  subst h1
  obtain ⟨d0, s0, d1, rfl, h3, h4, h5, h6⟩ := beN hl hp
  refine .inr ⟨d0, s0, d1, rfl, h3, h4, h5, h6, ?_, rfl⟩
  have := (akX hl h3 h4 h5).2
  rw [← h2, h6]
  congr 1
  exact aY.2 this
theorem buQ {l : Loc} (hl : l.fine) {s0 : List UInt8} (h0 : d0 ≠ []) (hd : Digs d0) (hc : Ch l s0 d1) (hp : adD l (d0 ++ s0) ≠ none) : acJ l (d0 ++ s0) = some (d0 ++ d1, !decide (s0 = [])) := by
 have h := akX hl h0 hd hc
 have hp2 : adD l (d0 ++ s0) = some (d0 ++ d1) := by
  rw [h.1] at hp ⊢
  split
  ·rename_i q; rw [aN q] at hp; exact absurd rfl hp
  rfl
 unfold acJ
 rw [aL (by simp [h0]), hp2]
 simp only
 congr 2
 rw [aY.2 h.2]
theorem chM {l : Loc} (hl : l.fine) {Y : List UInt8} (h : acJ l W = some (dd, gr)) (hy : bzG l Y) : wR l (W ++ Y) = (dd, W, Y, gr) := by
 unfold wR
 rcases adB hl h with ⟨rfl, rfl, rfl⟩ | ⟨d0, s0, d1, rfl, h0, hd, hc, rfl, rfl, _⟩
 ·have hr := ahL (d := []) (fun b hb => by simp at hb) hy.1
  rw [hr.1, hr.2]
  exact abI (atS hy) _ _ _
 have hr := ahL hd (btP hl hc hy.1)
 rw [aQ, hr.1, hr.2, ayP hl hc hy _ _ _ _ h0 (by simp only [aP]; omega), Bool.false_or]
theorem buR {l : Loc} (hl : l.fine) (hs : l.second = 2 ∨ l.second = 3) (s : List UInt8) (h : ¬ ((wR l s).2.1 ≠ [] ∧ aeM l (wR l s).2.1 = none)) : s = (wR l s).2.1 ++ (wR l s).2.2.1 ∧ acJ l (wR l s).2.1 = some ((wR l s).1, (wR l s).2.2.2) := by
 have hr := abX s
 unfold wR at h ⊢
 by_cases h0 : abV s = []
 ·have hm : agL l (abV s) (aaY s) = false := by unfold agL; rw [h0]; rfl
  rw [abI hm] at h ⊢
  simp only
  refine ⟨hr.symm, ?_⟩
  rw [h0]; rfl
 obtain ⟨s0, d, y, h1, h2, h3⟩ := anO hl s.length (abV s) (abV s) (aaY s) false
 rw [h3] at h ⊢
 simp only at h ⊢
 refine ⟨by rw [aQ, ← h2, hr], ?_⟩
 rw [Bool.false_or]
 refine buQ hl h0 (agQ s) h1 fun q => h ⟨by simp [h0], ?_⟩
 rw [baF hl hs h0 (agQ s) h1, q]
theorem brF {l : Loc} (hl : l.fine) (h : acJ l W = some (dd, gr)) : ∀ b ∈ W, isD b ∨ b ∈ l.grp := by
 have hch : ∀ {s d : List UInt8}, Ch l s d → ∀ b ∈ s, isD b ∨ b ∈ l.grp := by
  intro s d hc
  induction hc with
  | nil => intro b hb; simp at hb
  | cons hr _ _ ih =>
   intro b hb
   rcases dO.1 hb with hb | hb
   ·rcases dO.1 hb with hb | hb
    ·exact .inr hb
    exact .inl (hr b hb)
   exact ih b hb
 rcases adB hl h with ⟨rfl, _, _⟩ | ⟨d0, s0, d1, rfl, _, hd, hc, _, _, _⟩
 ·intro b hb; simp at hb
 intro b hb
 rcases dO.1 hb with hb | hb
 ·exact .inl (hd b hb)
 exact hch hc b hb
theorem ccR {l : Loc} (hl : l.fine) (hs : l.second = 2 ∨ l.second = 3) (hgo : l.grpOk) {e : Int} (h : bcG l t d e k gr x) (hz : CleanZ l Z) : amN l (t ++ Z) = some (d, e, k, gr, x, Z) := by
 obtain ⟨W, R, E, p, dd, n, rfl, hp, hw, hR, hne, hE, rfl, rfl, rfl⟩ := h
 obtain ⟨c, hdc, hcd, hc69, hc101⟩ := hl.dc
 obtain ⟨g0, gq, hg, hg0, hgd⟩ := hl.grp
 have hEZ : NoD (E ++ Z) := by
  rcases hE with ⟨rfl, _, _⟩ | ⟨b, S, rfl, hb, _, _⟩
  ·exact hz.no
  intro b2 t2 h2
  injection h2 with h2 _
  subst h2
  rcases hb with rfl | rfl <;> exact notD aC
 have hEZp : hasPrefix (E ++ Z) l.dc = false := by
  rw [hdc]
  refine zZ ?_
  rcases hE with ⟨rfl, _, _⟩ | ⟨b, S, rfl, hb, _, _⟩
  ·cases Z with
   | nil => simp
   | cons b t =>
    have := (hz.head b t rfl).2.2
    rw [hdc] at this
    intro q; simp at q; exact this (by rw [q])
  rcases hb with rfl | rfl
  ·intro q; simp at q; exact hc69 q.symm
  intro q; simp at q; exact hc101 q.symm
 have hst : bzG l ((if p = true then l.dc ++ R else []) ++ (E ++ Z)) := by
  cases p with
  | true =>
   rw [aN rfl, hdc]
   refine ⟨fun b t h => ?_, fun q => ?_⟩
   ·injection h with h _; subst h; exact hcd
   rw [hg, zZ (by simpa using (hgd c hdc).symm)] at q
   cases q.1
  | false =>
   rw [aL aC, cF]
   refine ⟨hEZ, fun q => ?_⟩
   rcases hE with ⟨rfl, _, _⟩ | ⟨b, S, rfl, hb, _, _⟩
   ·rw [cF] at q
    have hq := q.2
    by_cases hlt : l.grp.length < Z.length
    ·refine hz.noD _ ?_ hq
     rw [List.getD, bA hlt, dZ]
     exact eJ _
    rw [List.getD, List.getElem?_eq_none aA] at hq
    exact absurd hq (notD aC)
   have := hgo g0 (by rw [hg]; simp)
   rw [hg, zZ] at q
   ·cases q.1
   rw [cQ, List.head?_cons]
   intro q2
   injection q2 with q2
   rcases hb with rfl | rfl
   ·exact this.1 q2.symm
   exact this.2.1 q2.symm
 have e1 : W ++ ((if p = true then l.dc ++ R else []) ++ E) ++ Z = W ++ ((if p = true then l.dc ++ R else []) ++ (E ++ Z)) := by simp only [aQ]
 have hpl : ¬ (W ≠ [] ∧ aeM l W = none) := by
  rintro ⟨h1, h2⟩
  rcases adB hl hw with ⟨h3, _, _⟩ | ⟨d0, s0, d1, rfl, h0, hd, hc, _, _, hpp⟩
  ·exact h1 h3
  rw [baF hl hs h0 hd hc, hpp] at h2; cases h2
 have hpR : pR l ((if p = true then l.dc ++ R else []) ++ (E ++ Z)) = (R, E ++ Z) := by
  unfold pR
  cases p with
  | true =>
   have hr := ahL hR hEZ
   simp only [if_true]
   rw [aQ, aN (acM _ _), cR, hr.1, hr.2]
  | false =>
   simp only [fA, if_false, cF]
   rw [aL (by rw [hEZp]; decide), hp rfl]
 unfold amN
 rw [e1, chM hl hw hst]
 simp only
 rw [aL hpl, hpR]
 simp only
 rw [aL hne, cbP hl hE hz]
theorem axE {l : Loc} (hl : l.fine) (hs : l.second = 2 ∨ l.second = 3) {T : List UInt8} {e : Int} (h : amN l T = some (d, e, k, gr, x, Z)) : ∃ t, T = t ++ Z ∧ bcG l t d e k gr x := by
 unfold amN at h
 split at h
 ·cases h
 rename_i h1
 obtain ⟨hT, hw⟩ := buR hl hs T h1
 split at h
 ·cases h
 rename_i h2
 cases ht : amU l (pR l (wR l T).2.2.1).2 with
 | none => rw [ht] at h; cases h
 | some q =>
  obtain ⟨n, y, z⟩ := q
  rw [ht] at h
  injection h with h
  injection h with h3 h4
  injection h4 with h4 h5
  injection h5 with h5 h6
  injection h6 with h6 h7
  injection h7 with h7 h8
  subst h7; subst h8
  obtain ⟨E, hE, hEO⟩ := bjU hl ht
  have hpp : ∃ p : Bool, (wR l T).2.2.1 = (if p = true then l.dc ++ (pR l (wR l T).2.2.1).1 else []) ++ (pR l (wR l T).2.2.1).2 ∧ (p = false → (pR l (wR l T).2.2.1).1 = []) ∧ Digs (pR l (wR l T).2.2.1).1 := by
   unfold pR
   split
   ·rename_i hp
    obtain ⟨z2, hz2⟩ := acZ.1 hp
    refine ⟨true, ?_, (fun q => by cases q), agQ _⟩
    simp only [if_true]
    rw [hz2, cR, aQ, abX]
   exact ⟨false, rfl, fun _ => rfl, fun b hb => by simp at hb⟩
  obtain ⟨p, hp1, hp2, hp3⟩ := hpp
  refine ⟨(wR l T).2.1 ++ ((if p = true then l.dc ++ (pR l (wR l T).2.2.1).1 else []) ++ E), ?_, (wR l T).2.1, _, E, p, _, n, rfl, hp2, by rw [hw, h6], hp3, h2, hEO, h3.symm, h5.symm, h4.symm⟩
  rw [aQ, aQ, ← hE, ← hp1, ← hT]
theorem bpU {d : UInt8} {a : List UInt8} (ha : c ∉ a) (hcd : c ≠ d) : replaceAll (a ++ ([c] ++ z)) [c] [d] = a ++ ([d] ++ replaceAll z [c] [d]) := by
 have he : ∀ s, replaceAll s [c] [d] = replaceK [c] [d] (count s [c]) s := by
  intro s
  unfold replaceAll replace
  rw [aL (by simpa using hcd)]
  unfold replaceNum
  rw [aN (.inl aC)]
 have hi := apA (c := c) (r := []) (z := z) ha
 rw [aQ] at hi
 have hd : (a ++ ([c] ++ z)).drop (a.length + [c].length) = z := by rw [← aQ, show a.length + [c].length = (a ++ [c]).length by simp]; exact cR
 have ht : (a ++ ([c] ++ z)).take a.length = a := fC
 rw [he, he]
 have hc : count (a ++ ([c] ++ z)) [c] = count z [c] + 1 := by
  unfold count
  rw [countFrom, aL (by rw [hi, beq_iff_eq]; omega), hi, cX, hd, eO 1]
  congr 1
  exact countFrom_fuel aF _ z (by simp only [aP, aU]; omega) _ aA
 rw [hc, replaceK_hit _ _ _ _ _ hi, ht, hd, aQ]
theorem baS {c : UInt8} : ∀ {s : List UInt8}, c ∈ s → ∃ a z, s = a ++ ([c] ++ z) ∧ c ∉ a
 | b :: t, h => by
  by_cases hb : c = b
  ·subst hb; exact ⟨[], t, rfl, by simp⟩
  obtain ⟨a, z, h1, h2⟩ := baS (s := t) ((cO.1 h).resolve_left hb)
  exact ⟨b :: a, z, by rw [h1]; rfl, by simp [hb, h2]⟩
theorem bhH {c d : UInt8} (hcd : c ≠ d) : ∀ (n : Nat) (s : List UInt8), s.length ≤ n → replaceAll s [c] [d] = s.map fun b => if b = c then d else b
 | n, s, hn => by
  by_cases h : c ∈ s
  ·obtain ⟨a, z, rfl, ha⟩ := baS h
   have hl : a.length + (1 + z.length) ≤ n := by simp only [aP, aU, bH] at hn; omega
   obtain ⟨m, rfl⟩ : ∃ m, n = m + 1 := ⟨n - 1, by omega⟩
   rw [bpU ha hcd, bhH hcd m z aA, fG, fG]
   have e : (a.map fun b => if b = c then d else b) = a := by
    rw [List.map_congr_left (g := id) fun b hb => by rw [aL (fun q => ha (by rw [← q]; exact hb))]; rfl, List.map_id]
   rw [e]; simp
  rw [aqL (aoZ h), List.map_congr_left (g := id) fun b hb => by rw [aL (fun q => h (by rw [← q]; exact hb))]; rfl, List.map_id]
def chK (b : UInt8) : UInt8 := if b = 69 then 101 else b
theorem biR (b : UInt8) : chK b = 101 ↔ (b = 69 ∨ b = 101) := by
 unfold chK
 split
 ·rename_i h; simp [h]
 rename_i h; simp [h]
theorem biK {c : UInt8} : ∀ {s : List UInt8}, c ∉ s → indexByte s c = -1
 | [], _ => rfl
 | b :: t, h => by
  have h1 : ¬ (b == c) = true := by intro q; exact h (by rw [beq_iff_eq.1 q]; simp)
  rw [indexByte, aL h1, biK (fun q => h (by simp [q]))]; rfl
theorem caO {c : UInt8} {z : List UInt8} : ∀ {a : List UInt8}, c ∉ a → indexByte (a ++ c :: z) c = (a.length : Int)
 | [], _ => by simp [indexByte]
 | b :: t, h => by
  have h1 : ¬ (b == c) = true := by intro q; exact h (by rw [beq_iff_eq.1 q]; simp)
  have ih := caO (c := c) (z := z) (a := t) (fun q => h (by simp [q]))
  rw [cQ, indexByte, aL h1, ih, aL (by rw [beq_iff_eq]; omega), aU]; omega
theorem bsX (s : List UInt8) : eAt s = indexByte (s.map chK) 101 := by
 unfold eAt
 rw [bhH aC s.length s (aT _)]; rfl
def NoE (s : List UInt8) : Prop := ∀ b ∈ s, b ≠ 69 ∧ b ≠ 101
theorem bqZ {s : List UInt8} (h : NoE s) : (101 : UInt8) ∉ s.map chK := by
 intro q
 obtain ⟨b, hb, hq⟩ := List.mem_map.1 q
 rcases (biR b).1 hq with h1 | h1
 ·exact (h b hb).1 h1
 exact (h b hb).2 h1
theorem caT {s : List UInt8} (h : NoE s) : eAt s = -1 := by rw [bsX, biK (bqZ h)]
theorem caU {m : List UInt8} (h : NoE m) (hc : c = 69 ∨ c = 101) : eAt (m ++ c :: z) = (m.length : Int) := by
 rw [bsX, fG, eN, (biR c).2 hc, caO (bqZ h), eF]
theorem bsW (s : List UInt8) (h : 0 ≤ eAt s) : ∃ m c z, s = m ++ c :: z ∧ NoE m ∧ (c = 69 ∨ c = 101) := by
 refine Classical.byContradiction fun q => ?_
 have hn : NoE s := by
  intro b hb
  refine fX fun q2 => ?_
  have key : ∀ (s : List UInt8) (b : UInt8), b ∈ s → (b = 69 ∨ b = 101) → ∃ m c z, s = m ++ c :: z ∧ NoE m ∧ (c = 69 ∨ c = 101) := by
   intro s
   induction s with
   | nil => intro b hb; simp at hb
   | cons a t ih =>
    intro b hb h2
    by_cases ha : a = 69 ∨ a = 101
    ·exact ⟨[], a, t, rfl, fun _ hb => by simp at hb, ha⟩
    rcases cO.1 hb with rfl | hb
    ·exact absurd h2 ha
    obtain ⟨m, c, z, h3, h4, h5⟩ := ih b hb h2
    refine ⟨a :: m, c, z, by rw [h3]; rfl, fun b2 hb2 => ?_, h5⟩
    rcases cO.1 hb2 with rfl | hb2
    ·exact ⟨fun q => ha (.inl q), fun q => ha (.inr q)⟩
    exact h4 b2 hb2
  exact q (key s b hb (by
    by_cases h1 : b = 69
    ·exact .inl h1
    exact .inr (fX fun h3 => q2 ⟨h1, h3⟩)))
 rw [caT hn] at h
 exact absurd h aC
theorem bqV {l : Loc} (hl : l.fine) {e : Int} (h : aoN l t = some (d, e, k, gr, x)) : bcG l t d e k gr x := by
 unfold aoN at h
 cases hh : ajX l t with
 | none => rw [hh] at h; cases h
 | some q =>
  obtain ⟨t1, n, y⟩ := q
  rw [hh] at h
  simp only at h
  cases hb : amG l t1 with
  | none => rw [hb] at h; cases h
  | some q =>
   obtain ⟨d2, k2, g2⟩ := q
   rw [hb] at h
   injection h with h
   injection h with h1 h2
   injection h2 with h2 h3
   injection h3 with h3 h4
   injection h4 with h4 h5
   subst h1; subst h3; subst h4; subst h5
   have hE : ∃ E, t = t1 ++ E ∧ bzH l E n y := by
    unfold ajX at hh
    split at hh
    ·rename_i h0
     obtain ⟨m, c, z, rfl, hm, hc⟩ := bsW t h0
     have he := caU (z := z) hm hc
     rw [he, cX] at hh
     have hdr : (m ++ c :: z).drop (m.length + 1) = z := by rw [show m ++ c :: z = (m ++ [c]) ++ z by simp, show m.length + 1 = (m ++ [c]).length by simp]; exact cR
     rw [hdr, fC] at hh
     cases hx : bbM l z with
     | none => rw [hx] at hh; cases hh
     | some n2 =>
      rw [hx] at hh
      injection hh with hh
      injection hh with h6 h7
      injection h7 with h7 h8
      subst h6; subst h7
      exact ⟨c :: z, rfl, .inr ⟨c, z, rfl, hc, hx, h8.symm⟩⟩
    injection hh with hh
    injection hh with h6 h7
    injection h7 with h7 h8
    exact ⟨[], by rw [h6, bM], .inl ⟨rfl, h7.symm, h8.symm⟩⟩
   obtain ⟨E, hE1, hE2⟩ := hE
   unfold amG at hb
   split at hb
   ·cases hb
   rename_i hbad
   have hbad2 : byS (cut t1 l.dc).1 (cut t1 l.dc).2.1 = false := by simpa using hbad
   cases hw : acJ l (cut t1 l.dc).1 with
   | none => rw [hw] at hb; cases hb
   | some q =>
    obtain ⟨dd, g3⟩ := q
    rw [hw] at hb
    injection hb with hb
    injection hb with h6 h7
    injection h7 with h7 h8
    subst h6; subst h7; subst h8
    have hp : ∃ p : Bool, t1 = (cut t1 l.dc).1 ++ (if p = true then l.dc ++ (cut t1 l.dc).2.1 else []) ∧ (p = false → (cut t1 l.dc).2.1 = []) := by
     unfold cut
     split
     ·rename_i h0
      rcases index_spec t1 l.dc with ⟨h9, _⟩ | ⟨i, h9, h10, h11, _⟩
      ·rw [h9] at h0; exact absurd h0 aC
      refine ⟨true, ?_, fun q => by cases q⟩
      simp only [if_true]
      rw [h9, cX]
      have h12 : l.dc <+: t1.drop i := by
       unfold occAt at h11
       exact List.isPrefixOf_iff_prefix.1 h11
      obtain ⟨z, hz⟩ := h12
      have : t1.drop (i + l.dc.length) = z := by rw [← fL, ← hz, cR]
      rw [this, hz, cV]
     exact ⟨false, by simp, fun _ => rfl⟩
    obtain ⟨p, hp1, hp2⟩ := hp
    refine ⟨(cut t1 l.dc).1, (cut t1 l.dc).2.1, E, p, dd, n, ?_, hp2, hw, avO hbad2, ?_, hE2, rfl, rfl, h2.symm⟩
    ·rw [← aQ, ← hp1, hE1]
    rintro ⟨q1, q2⟩
    rcases adB hl hw with ⟨h9, _, _⟩ | ⟨d0, s0, d1, _, h0, _, _, h10, _, _⟩
    ·unfold byS at hbad2
     rw [h9, q2] at hbad2
     simp at hbad2
    rw [q1] at h10
    have := congrArg List.length h10
    simp only [aP, bH] at this
    exact h0 (bV.1 aA)
theorem bhY {l : Loc} (hl : l.fine) (hgo : l.grpOk) {e : Int} (h : bcG l t d e k gr x) : aoN l t = some (d, e, k, gr, x) := by
 obtain ⟨W, R, E, p, dd, n, rfl, hp, hw, hR, hne, hE, rfl, rfl, rfl⟩ := h
 obtain ⟨c, hdc, hcd, hc69, hc101⟩ := hl.dc
 have hW := brF hl hw
 have hWE : NoE W := by
  intro b hb
  rcases hW b hb with h1 | h1
  ·exact ⟨by rintro rfl; exact absurd h1 (notD aC), by rintro rfl; exact absurd h1 (notD aC)⟩
  exact ⟨(hgo b h1).1, (hgo b h1).2.1⟩
 have hRE : NoE R := fun b hb => ⟨by rintro rfl; exact absurd (hR _ hb) (notD aC), by rintro rfl; exact absurd (hR _ hb) (notD aC)⟩
 have hM : NoE (W ++ (if p = true then l.dc ++ R else [])) := by
  intro b hb
  rcases dO.1 hb with hb | hb
  ·exact hWE b hb
  cases p with
  | false => rw [aL aC] at hb; simp at hb
  | true =>
   rw [aN rfl, hdc] at hb
   rcases dO.1 hb with hb | hb
   ·have : b = c := by simpa using hb
    rw [this]; exact ⟨hc69, hc101⟩
   exact hRE b hb
 have hbody : amG l (W ++ (if p = true then l.dc ++ R else [])) = some (dd ++ R, R.length, gr) := by
  have hcW : c ∉ W := by
   intro hb
   rcases hW c hb with h1 | h1
   ·exact hcd h1
   exact (hgo c h1).2.2 hdc
  have hcut : cut (W ++ (if p = true then l.dc ++ R else [])) l.dc = (W, R, p) := by
   cases p with
   | true => rw [aN rfl, hdc, ← aQ, byG hcW]
   | false => rw [aL aC, bM, hdc, byH hcW, hp rfl]
  have hbad : byS W R = false := by
   unfold byS
   rw [cE]
   refine ⟨?_, ?_⟩
   ·rw [bU]
    by_cases h1 : W = []
    ·right
     refine bD fun h2 => ?_
     rcases adB hl hw with ⟨_, h3, _⟩ | ⟨d0, s0, d1, h3, h0, _, _, _, _, _⟩
     ·exact hne ⟨h3, h2⟩
     rw [h1] at h3
     have := congrArg List.length h3
     simp only [aP, bH] at this
     exact h0 (bV.1 aA)
    exact .inl (bD h1)
   exact bD fun q => q (btA hR)
  unfold amG
  rw [hcut]
  simp only
  rw [aL (by rw [hbad]; decide), hw]
 have hhead : ajX l (W ++ ((if p = true then l.dc ++ R else []) ++ E)) = some (W ++ (if p = true then l.dc ++ R else []), n, x) := by
  rw [← aQ]
  unfold ajX
  rcases hE with ⟨rfl, rfl, rfl⟩ | ⟨b, S, rfl, hb, he, rfl⟩
  ·rw [bM, caT hM, aL aC]
  have hdr : ((W ++ (if p = true then l.dc ++ R else [])) ++ b :: S).drop ((W ++ (if p = true then l.dc ++ R else [])).length + 1) = S := by
   rw [show (W ++ (if p = true then l.dc ++ R else [])) ++ b :: S = ((W ++ (if p = true then l.dc ++ R else [])) ++ [b]) ++ S by simp, show (W ++ (if p = true then l.dc ++ R else [])).length + 1 = ((W ++ (if p = true then l.dc ++ R else [])) ++ [b]).length by simp only [aP, aU, bH]]
   exact cR
  rw [caU hM hb, aJ, cX, hdr, he, fC]
 unfold aoN
 rw [hhead]
 simp only
 rw [hbody]
structure Loc.entOk (l : Loc) : Prop where
 fine : l.fine
 grpOk : l.grpOk
 second : l.second = 2 ∨ l.second = 3
 money : l.moneyOk
 cur : ∀ b ∈ l.cur, ¬ isD b
 head : ∃ c r, l.cur = c :: r ∧ c ≠ 69 ∧ c ≠ 101 ∧ l.dc ≠ [c] ∧ c ≠ 37 ∧ c ≠ 41
 last : ∃ c r, l.cur = r ++ [c] ∧ l.dc ≠ [c] ∧ c ≠ 37 ∧ ¬ isD c
 dc : ∃ c, l.dc = [c] ∧ c.toNat < 128 ∧ zQ c.toNat = false ∧ c ≠ 37 ∧ c ≠ 40 ∧ c ≠ 41 ∧ c ≠ 43 ∧ c ≠ 45 ∧ (∀ d r, l.minus = d :: r → c ≠ d) ∧ c ≠ 32 ∧ c ≠ 9 ∧ c ≠ 194 ∧ c ≠ 226
theorem bxA : ∀ l ∈ locs, l.entOk := by
 intro l hl
 have h1 := brR l hl
 have h2 := blV l hl
 have h3 := bfA l hl
 have h4 := blU l hl
 simp only [locs, cO, eI, or_false] at hl
 rcases hl with rfl | rfl | rfl | rfl | rfl | rfl
 all_goals exact { fine := h1, grpOk := h2, second := h3, money := h4, cur := fun b hb => by (simp at hb; rcases hb with rfl | rfl | rfl) <;> exact notD aC, head := ⟨_, _, rfl, by decide, by decide, by decide, by decide, by decide⟩, last := by first | exact ⟨_, [], rfl, by decide, by decide, notD aC⟩ | exact ⟨_, [_], rfl, by decide, by decide, notD aC⟩ | exact ⟨_, [_, _], rfl, by decide, by decide, notD aC⟩, dc := ⟨_, rfl, by decide, by decide, by decide, by decide, by decide, by decide, by decide, fun d r hd => by injection hd with hd _; subst hd; decide, by decide, by decide, by decide, by decide⟩ }

/-! ### the ends of a number -/
def Edge (l : Loc) (c : UInt8) : Prop := isD c ∨ l.dc = [c]
theorem aeY {l : Loc} (hl : l.entOk) (h : Edge l c) : c.toNat < 128 ∧ zQ c.toNat = false ∧ c ≠ 37 ∧ c ≠ 40 ∧ c ≠ 41 ∧ c ≠ 43 ∧ c ≠ 45 ∧ (∀ d r, l.minus = d :: r → c ≠ d) := by
 rcases h with h | h
 ·have hn : ∀ {d : UInt8}, d.toNat < 48 ∨ 57 < d.toNat → c ≠ d := fun hd q => notD hd (q ▸ h)
  refine ⟨by unfold isD at h; omega, bfZ h, hn aC, hn aC, hn aC, hn aC, hn aC, fun d r hm q => ?_⟩
  obtain ⟨d2, r2, hm2, hd2, _⟩ := hl.fine.minus
  rw [hm] at hm2
  injection hm2 with hm2 _
  subst hm2; subst q
  exact hd2 h
 obtain ⟨d, hd, h1, h2, h3, h4, h5, h6, h7, h8, _⟩ := hl.dc
 rw [hd] at h
 injection h with h _
 subst h
 exact ⟨h1, h2, h3, h4, h5, h6, h7, h8⟩
theorem amD {s : List UInt8} (hd : Digs s) (hn : s ≠ []) : ∃ r c, s = r ++ [c] ∧ isD c := by
 refine ⟨s.dropLast, s.getLast hn, (List.dropLast_concat_getLast hn).symm, hd _ (List.getLast_mem hn)⟩
theorem ceJ {l : Loc} {s : List UInt8} (h : Ch l s d) : s = [] ∨ ∃ r c, s = r ++ [c] ∧ isD c := by
 induction h with
 | nil => exact .inl rfl
 | @cons r s d hr hn _ ih =>
  refine .inr ?_
  rcases ih with rfl | ⟨r2, c, rfl, hc⟩
  ·obtain ⟨r2, c, h1, hc⟩ := amD hr hn
   exact ⟨l.grp ++ r2, c, by rw [h1]; simp, hc⟩
  grind
theorem axF {l : Loc} (hl : l.fine) {e : Int} (h : bcG l t d e k gr x) : ∃ c r, t = c :: r ∧ Edge l c := by
 obtain ⟨W, R, E, p, dd, n, rfl, hp, hw, hR, hne, hE, rfl, rfl, rfl⟩ := h
 rcases adB hl hw with ⟨rfl, rfl, _⟩ | ⟨d0, s0, d1, rfl, h0, hd, _, _, _, _⟩
 ·cases p with
  | false => exact absurd ⟨rfl, hp rfl⟩ hne
  | true =>
   obtain ⟨c, hdc, _⟩ := hl.dc
   exact ⟨c, R ++ E, by simp [hdc], .inr hdc⟩
 cases d0 with
 | nil => exact absurd rfl h0
 | cons c r => exact ⟨c, _, rfl, .inl (hd c aF)⟩
theorem baN {l : Loc} (hl : l.fine) {e : Int} (h : bcG l t d e k gr x) : ∃ r c, t = r ++ [c] ∧ Edge l c := by
 obtain ⟨W, R, E, p, dd, n, rfl, hp, hw, hR, hne, hE, rfl, rfl, rfl⟩ := h
 rcases hE with ⟨rfl, _, _⟩ | ⟨b, S, rfl, _, he, _⟩
 ·cases p with
  | true =>
   by_cases hR0 : R = []
   ·obtain ⟨c, hdc, _⟩ := hl.dc
    exact ⟨W, c, by simp [hdc, hR0], .inr hdc⟩
   obtain ⟨r, c, h1, hc⟩ := amD hR hR0
   exact ⟨W ++ l.dc ++ r, c, by simp [h1], .inl hc⟩
  | false =>
   rcases adB hl hw with ⟨rfl, rfl, _⟩ | ⟨d0, s0, d1, rfl, h0, hd, hc, _, _, _⟩
   ·grind
   rcases ceJ hc with rfl | ⟨r, c, rfl, h1⟩
   ·obtain ⟨r, c, h1, h2⟩ := amD hd h0
    exact ⟨r, c, by simp [h1], .inl h2⟩
   exact ⟨d0 ++ r, c, by simp, .inl h1⟩
 obtain ⟨h1, h2, _, _⟩ := biP he
 obtain ⟨g, _, hs⟩ := agP l S
 obtain ⟨r, c, h3, h4⟩ := amD h2 h1
 refine ⟨W ++ ((if p = true then l.dc ++ R else []) ++ (b :: (g ++ r))), c, ?_, .inl h4⟩
 rw [hs, h3]; simp
theorem arZ {l : Loc} (hl : l.entOk) (h : Edge l c) (t : List UInt8) : zQ (decodeL (c :: t)).1 = false :=
 abG [] t (aeY hl h).1 (aeY hl h).2.1
theorem ajR {l : Loc} (hl : l.entOk) (h : Edge l c) (z : List UInt8) : zQ (decodeLastL (z ++ [c])).1 = false :=
 adU [] z (aeY hl h).1 (aeY hl h).2.1
theorem biQ {l : Loc} (hl : l.entOk) (h : Edge l c) (t : List UInt8) : hasPrefix (c :: t) l.cur = false := by
 obtain ⟨b, r, hc, h1, h2, h3, _⟩ := hl.head
 rw [hc]
 refine zZ fun q => ?_
 injection q with q
 subst q
 rcases h with h | h
 ·exact hl.cur c (by rw [hc]; simp) h
 exact h3 h
theorem bxX {l : Loc} (hl : l.entOk) (h : Edge l c) (t : List UInt8) : hasSuffix (t ++ [c]) l.cur = false ∧ hasSuffix (t ++ [c]) l.pct = false := by
 obtain ⟨b, r, hc, h1, h2, h3⟩ := hl.last
 refine ⟨arR hl.money.ne ?_, arR (by rw [hl.fine.pct]; simp) ?_⟩
 ·rw [hc, abR aF, abR aF]
  simp only [aU, bH, bZ, Nat.sub_self, cG]
  rintro rfl
  rcases h with h | h
  ·exact h3 h
  exact h1 h
 rw [hl.fine.pct, abR aF]
 exact fun q => (aeY hl h).2.2.1 q.symm

/-! ### amounts -/
def bnT (l : Loc) (v : List UInt8) (kd : Int) (d : List UInt8) (e : Int) (k : Nat) (gr x : Bool) : Prop :=
 ∃ (t B : List UInt8) (e0 : Int), bcG l t d e0 k gr x ∧ Blanks B ∧ ((v = l.cur ++ (B ++ t) ∧ kd = 2 ∧ e = e0) ∨ (v = t ++ (B ++ l.cur) ∧ kd = 2 ∧ e = e0) ∨ (v = t ++ (B ++ l.pct) ∧ kd = 1 ∧ e = e0 - 2) ∨ (v = t ∧ kd = 0 ∧ e = e0))
abbrev cbB := Int × List UInt8 × Int × Nat × Bool × Bool
variable {a : cbB}
def aiF (l : Loc) (s : List UInt8) : Option (cbB × List UInt8) :=
 if hasPrefix s l.cur = true then (match amN l (zT (s.drop l.cur.length)) with | none => none | some (d, e, k, gr, x, z) => some ((2, d, e, k, gr, x), z))
 else match amN l s with
  | none => none
  | some (d, e, k, gr, x, z) =>
   if hasPrefix (zT z) l.pct = true then some ((1, d, e - 2, k, gr, x), (zT z).drop l.pct.length)
   else if hasPrefix (zT z) l.cur = true then some ((2, d, e, k, gr, x), (zT z).drop l.cur.length)
   else some ((0, d, e, k, gr, x), z)
def caY (l : Loc) (v : List UInt8) : Option cbB :=
 match aoN l (acT l v).2.1 with
 | none => none
 | some (d, e, k, gr, x) => some ((acT l v).1, d, e + (acT l v).2.2, k, gr, x)
theorem byV {l : Loc} (hl : l.entOk) {e : Int} (h : bnT l v kd d e k gr x) : caY l v = some (kd, d, e, k, gr, x) := by
 obtain ⟨t, B, e0, hn, hB, h⟩ := h
 obtain ⟨c, r, hc, hce⟩ := axF hl.fine hn
 obtain ⟨r2, c2, hc2, hce2⟩ := baN hl.fine hn
 have hp := bhY hl.fine hl.grpOk hn
 have key : ∀ sh, acT l v = (kd, t, sh) → e = e0 + sh → caY l v = some (kd, d, e, k, gr, x) := by
  intro sh h1 h2
  unfold caY
  rw [h1]
  simp only
  rw [hp, h2]
 have hno : ∀ z, hasPrefix (t ++ z) l.cur = false := by intro z; rw [hc]; exact biQ hl hce _
 rcases h with ⟨rfl, rfl, rfl⟩ | ⟨rfl, rfl, rfl⟩ | ⟨rfl, rfl, rfl⟩ | ⟨rfl, rfl, rfl⟩
 ·refine key 0 ?_ aA
  unfold acT
  rw [aN (acM _ _), adG, aiJ hB (.inr (by rw [hc]; exact arZ hl hce r)) _ (aT _)]
 ·refine key 0 ?_ aA
  unfold acT
  rw [aL (by rw [hno]; decide), aN (akJ.2 ⟨t ++ B, by rw [aQ]⟩), ← aQ, ajB, alE (.inr (by rw [hc2]; exact ajR hl hce2 _)) _ B (aT _) hB _ (aT _)]
 ·refine key (-2) ?_ aA
  obtain ⟨b, r3, hb, _, hb2, _⟩ := hl.last
  have hs : hasSuffix (t ++ (B ++ l.pct)) l.cur = false := by
   refine arR hl.money.ne ?_
   rw [hb, abR aF, ← aQ, hl.fine.pct, abR aF]
   exact hb2
  unfold acT
  rw [aL (by rw [hno]; decide), aL (by rw [hs]; decide), aN (akJ.2 ⟨t ++ B, by rw [aQ]⟩), ← aQ, ajB, alE (.inr (by rw [hc2]; exact ajR hl hce2 _)) _ B (aT _) hB _ (aT _)]
 refine key 0 ?_ aA
 have h1 := hno []
 rw [bM] at h1
 have h2 := bxX hl hce2 r2
 rw [← hc2] at h2
 unfold acT
 rw [aL (by rw [h1]; decide), aL (by rw [h2.1]; decide), aL (by rw [h2.2]; decide)]
theorem btY {l : Loc} (hl : l.entOk) {e : Int} (h : caY l v = some (kd, d, e, k, gr, x)) : bnT l v kd d e k gr x := by
 unfold caY at h
 cases hn : aoN l (acT l v).2.1 with
 | none => rw [hn] at h; cases h
 | some q =>
  obtain ⟨d2, e0, k2, g2, x2⟩ := q
  rw [hn] at h
  injection h with h
  injection h with h1 h2
  injection h2 with h2 h3
  injection h3 with h3 h4
  injection h4 with h4 h5
  injection h5 with h5 h6
  subst h2; subst h4; subst h5; subst h6
  have hO := bqV hl.fine hn
  unfold acT at h1 h3 hO
  split at hO
  ·rename_i hc
   rw [aN hc] at h1 h3
   obtain ⟨z, rfl⟩ := acZ.1 hc
   rw [adG] at hO
   obtain ⟨B, hB, hz, _⟩ := ahI z.length z (aT _)
   exact ⟨_, B, e0, hO, hB, .inl ⟨by rw [← hz], h1.symm, by simp only at h3; omega⟩⟩
  rename_i hc
  rw [aL hc] at h1 h3
  split at hO
  ·rename_i hc2
   rw [aN hc2] at h1 h3
   obtain ⟨z, rfl⟩ := akJ.1 hc2
   rw [ajB] at hO
   obtain ⟨B, hB, hz⟩ := ahH z.length z (aT _)
   exact ⟨_, B, e0, hO, hB, .inr (.inl ⟨by rw [← aQ, ← hz], h1.symm, by simp only at h3; omega⟩)⟩
  rename_i hc2
  rw [aL hc2] at h1 h3
  split at hO
  ·rename_i hc3
   rw [aN hc3] at h1 h3
   obtain ⟨z, rfl⟩ := akJ.1 hc3
   rw [ajB] at hO
   obtain ⟨B, hB, hz⟩ := ahH z.length z (aT _)
   exact ⟨_, B, e0, hO, hB, .inr (.inr (.inl ⟨by rw [← aQ, ← hz], h1.symm, by simp only at h3; omega⟩))⟩
  rename_i hc3
  rw [aL hc3] at h1 h3
  exact ⟨_, [], e0, hO, .nil, .inr (.inr (.inr ⟨rfl, h1.symm, by simp only at h3; omega⟩))⟩
def bzF (z : List UInt8) : Prop := ∃ B Q, Blanks B ∧ z = B ++ Q ∧ (Q = [] ∨ ∃ r, Q = 41 :: r ∧ ∀ b ∈ r, ¬ isD b)
theorem avL (h : Blanks B) : ∀ b ∈ B, ¬ isD b := by
 induction h with
 | nil => intro b hb; simp at hb
 | @cons e b he _ ih =>
  intro c hc
  rcases dO.1 hc with hc | hc
  ·rcases acS he with rfl | rfl | rfl | rfl <;> (simp at hc; first | (subst hc; exact notD aC) | (rcases hc with rfl | rfl <;> exact notD aC) | (rcases hc with rfl | rfl | rfl <;> exact notD aC))
  grind
theorem bfY (h : Blanks B) : ∀ c t, B = c :: t → c = 32 ∨ c = 9 ∨ c = 194 ∨ c = 226 := by
 intro c t hc
 cases h with
 | nil => cases hc
 | @cons e b he _ =>
  rcases acS he with rfl | rfl | rfl | rfl <;> (injection hc with hc _; subst hc; simp)
theorem asE {l : Loc} (hl : l.entOk) {Q : List UInt8} (hB : Blanks B) (hQ : CleanZ l Q) : CleanZ l (B ++ Q) := by
 refine ⟨fun b hb => ?_, fun c t h => ?_⟩
 ·rcases dO.1 hb with hb | hb
  ·exact avL hB b hb
  exact hQ.noD b hb
 cases hb : B with
 | nil => rw [hb] at h; exact hQ.head c t h
 | cons b r =>
  rw [hb] at h
  injection h with h _
  subst h
  obtain ⟨d, hd, _, _, _, _, _, _, _, _, h1, h2, h3, h4⟩ := hl.dc
  rw [hd]
  rcases bfY hB b r hb with rfl | rfl | rfl | rfl
  ·grind
  ·grind
  ·grind
  grind
theorem btO (l : Loc) : CleanZ l [] := ⟨fun b hb => by simp at hb, fun c t h => by cases h⟩
theorem ajE {l : Loc} (hl : l.entOk) (h : bzF z) : CleanZ l z := by
 obtain ⟨B, Q, hB, rfl, hQ⟩ := h
 refine asE hl hB ?_
 rcases hQ with rfl | ⟨r, rfl, hr⟩
 ·exact btO l
 obtain ⟨d, hd, _, _, _, _, h1, _⟩ := hl.dc
 refine ⟨fun b hb => ?_, fun c t h => ?_⟩
 ·rcases cO.1 hb with rfl | hb
  ·exact notD aC
  grind
 grind
theorem bgG {l : Loc} (hl : l.entOk) {e : Int} (h : bnT l v kd d e k gr x) (hz : bzF Z) : aiF l (v ++ Z) = some ((kd, d, e, k, gr, x), Z) := by
 obtain ⟨t, B, e0, hn, hB, h⟩ := h
 obtain ⟨c, r, hc, hce⟩ := axF hl.fine hn
 have hnr : ∀ z, CleanZ l z → amN l (t ++ z) = some (d, e0, k, gr, x, z) := fun z h => ccR hl.fine hl.second hl.grpOk hn h
 have hno : ∀ z, hasPrefix (t ++ z) l.cur = false := by intro z; rw [hc]; exact biQ hl hce _
 obtain ⟨b, cr, hcur, hb1, hb2, hb3, hb4, hb5⟩ := hl.head
 have hcz : CleanZ l (l.cur ++ Z) := by
  refine ⟨fun a ha => ?_, fun a s ha => ?_⟩
  ·rcases dO.1 ha with ha | ha
   ·exact hl.cur a ha
   exact (ajE hl hz).noD a ha
  grind
 have hpz : CleanZ l (l.pct ++ Z) := by
  obtain ⟨dd, hd, _, _, h1, _⟩ := hl.dc
  rw [hl.fine.pct]
  refine ⟨fun a ha => ?_, fun a s ha => ?_⟩
  ·rcases dO.1 ha with ha | ha
   ·have : a = 37 := by simpa using ha
    rw [this]; exact notD aC
   exact (ajE hl hz).noD a ha
  grind
 rcases h with ⟨rfl, rfl, rfl⟩ | ⟨rfl, rfl, rfl⟩ | ⟨rfl, rfl, rfl⟩ | ⟨rfl, rfl, rfl⟩
 ·unfold aiF
  rw [aQ, aN (acM _ _), cR, aQ, aaS hB (.inr (by rw [hc]; exact arZ hl hce _)), hnr Z (ajE hl hz)]
 ·unfold aiF
  have h1 : zT (B ++ (l.cur ++ Z)) = l.cur ++ Z := aaS hB (.inr (hl.money.left Z))
  have h2 : hasPrefix (l.cur ++ Z) l.pct = false := by rw [hl.fine.pct, hcur]; exact zZ (by simpa using hb4)
  rw [aQ, aQ, aL (by rw [hno]; decide), hnr _ (asE hl hB hcz)]
  simp only
  rw [h1, aL (by rw [h2]; decide), aN (acM _ _), cR]
 ·unfold aiF
  have h1 : zT (B ++ (l.pct ++ Z)) = l.pct ++ Z := aaS hB (.inr (by rw [hl.fine.pct]; exact abG [] Z aC aC))
  rw [aQ, aQ, aL (by rw [hno]; decide), hnr _ (asE hl hB hpz)]
  simp only
  rw [h1, aN (acM _ _), cR]
 unfold aiF
 have hQ : hasPrefix (zT Z) l.pct = false ∧ hasPrefix (zT Z) l.cur = false := by
  obtain ⟨B2, Q, hB2, rfl, hQ⟩ := hz
  rcases hQ with rfl | ⟨r, rfl, _⟩
  ·rw [aaS hB2 (.inl rfl), hl.fine.pct, hcur]
   exact ⟨rfl, rfl⟩
  have h41 : zT (B2 ++ (41 :: r)) = 41 :: r := aaS hB2 (.inr (abG [] r aC aC))
  rw [h41, hl.fine.pct, hcur]
  exact ⟨zZ aF, zZ (by simpa using hb5.symm)⟩
 rw [aL (by rw [hno]; decide), hnr _ (ajE hl hz)]
 simp only
 rw [aL (by rw [hQ.1]; decide), aL (by rw [hQ.2]; decide)]
theorem bjD {l : Loc} (hl : l.entOk) {T : List UInt8} {e : Int} (h : aiF l T = some ((kd, d, e, k, gr, x), Z)) : ∃ v, T = v ++ Z ∧ bnT l v kd d e k gr x := by
 unfold aiF at h
 split at h
 ·rename_i hc
  obtain ⟨y, rfl⟩ := acZ.1 hc
  rw [cR] at h
  cases hn : amN l (zT y) with
  | none => rw [hn] at h; cases h
  | some q =>
   obtain ⟨d2, e2, k2, g2, x2, z2⟩ := q
   rw [hn] at h
   simp only [Option.some.injEq, Prod.mk.injEq] at h
   obtain ⟨⟨rfl, rfl, rfl, rfl, rfl, rfl⟩, rfl⟩ := h
   obtain ⟨t, ht, hO⟩ := axE hl.fine hl.second hn
   obtain ⟨B, hB, hy⟩ := aaU y
   exact ⟨l.cur ++ (B ++ t), by rw [aQ, aQ, ← ht, ← hy], t, B, _, hO, hB, .inl ⟨rfl, rfl, rfl⟩⟩
 cases hn : amN l T with
 | none => rw [hn] at h; cases h
 | some q =>
  obtain ⟨d2, e2, k2, g2, x2, z2⟩ := q
  rw [hn] at h
  simp only at h
  obtain ⟨t, rfl, hO⟩ := axE hl.fine hl.second hn
  obtain ⟨B, hB, hz⟩ := aaU z2
  split at h
  ·rename_i hc
   obtain ⟨y, hy⟩ := acZ.1 hc
   rw [hy, cR] at h
   simp only [Option.some.injEq, Prod.mk.injEq] at h
   obtain ⟨⟨rfl, rfl, rfl, rfl, rfl, rfl⟩, rfl⟩ := h
   exact ⟨t ++ (B ++ l.pct), by rw [aQ, aQ, ← hy, ← hz], t, B, _, hO, hB, .inr (.inr (.inl ⟨rfl, rfl, rfl⟩))⟩
  split at h
  ·rename_i hc
   obtain ⟨y, hy⟩ := acZ.1 hc
   rw [hy, cR] at h
   simp only [Option.some.injEq, Prod.mk.injEq] at h
   obtain ⟨⟨rfl, rfl, rfl, rfl, rfl, rfl⟩, rfl⟩ := h
   exact ⟨t ++ (B ++ l.cur), by rw [aQ, aQ, ← hy, ← hz], t, B, _, hO, hB, .inr (.inl ⟨rfl, rfl, rfl⟩)⟩
  simp only [Option.some.injEq, Prod.mk.injEq] at h
  obtain ⟨⟨rfl, rfl, rfl, rfl, rfl, rfl⟩, rfl⟩ := h
  exact ⟨t, rfl, t, [], _, hO, .nil, .inr (.inr (.inr ⟨rfl, rfl, rfl⟩))⟩
theorem bjE {l : Loc} (hl : l.entOk) {e : Int} (h : bnT l v kd d e k gr x) : v ≠ [] ∧ (∀ z, zQ (decodeL (v ++ z)).1 = false) ∧ (∀ z, chG l (v ++ z) ∧ hasPrefix (v ++ z) [40] = false) ∧ (∀ z, zQ (decodeLastL (z ++ v)).1 = false) := by
 obtain ⟨t, B, e0, hn, hB, h⟩ := h
 obtain ⟨c, r, hc, hce⟩ := axF hl.fine hn
 obtain ⟨r2, c2, hc2, hce2⟩ := baN hl.fine hn
 have hea := aeY hl hce
 have ht : ∀ z, zQ (decodeL (t ++ z)).1 = false ∧ chG l (t ++ z) ∧ hasPrefix (t ++ z) [40] = false := by
  intro z
  rw [hc]
  exact ⟨arZ hl hce _, bbZ hl.fine hea.2.2.2.2.2.1 hea.2.2.2.2.2.2.1 hea.2.2.2.2.2.2.2, zZ (by simpa using hea.2.2.2.1)⟩
 have htn : t ≠ [] := by rw [hc]; simp
 rcases h with ⟨rfl, _, _⟩ | ⟨rfl, _, _⟩ | ⟨rfl, _, _⟩ | ⟨rfl, _, _⟩
 ·refine ⟨by simp [htn], fun z => by rw [aQ]; exact hl.money.left _, fun z => ?_, fun z => ?_⟩
  ·rw [aQ]
   have := hl.money.signs (B ++ t ++ z)
   exact ⟨⟨this.2.1, this.2.2.1, this.2.2.2⟩, this.1⟩
  rw [hc2, ← aQ, ← aQ, ← aQ]
  exact ajR hl hce2 _
 ·refine ⟨by simp [htn], fun z => by rw [aQ]; exact (ht _).1, fun z => by rw [aQ]; exact (ht _).2, fun z => ?_⟩
  rw [← aQ, ← aQ]
  exact hl.money.right _
 ·refine ⟨by simp [htn], fun z => by rw [aQ]; exact (ht _).1, fun z => by rw [aQ]; exact (ht _).2, fun z => ?_⟩
  rw [← aQ, ← aQ, hl.fine.pct]
  exact adU [] _ aC aC
 exact ⟨htn, fun z => (ht z).1, fun z => (ht z).2, fun z => by rw [hc2, ← aQ]; exact ajR hl hce2 _⟩

/-! ### entries -/
abbrev chZ := Bool × cbB
def bcN (l : Loc) (s : List UInt8) : Option chZ :=
 if hasPrefix (zT s) [40] = true then (match aiF l (zT ((zT s).drop 1)) with | none => none | some (a, z) => if hasPrefix (zT z) [41] = true ∧ zT ((zT z).drop 1) = [] then some (true, a) else none)
 else match aiF l (zT (yF l (zT s)).1) with | none => none | some (a, z) => if zT z = [] then some ((yF l (zT s)).2, a) else none
def bzB (l : Loc) (u : List UInt8) : Option chZ :=
 match adM l u with
 | none => none
 | some (v, neg) => match caY l v with | none => none | some a => some (neg, a)
def bzI (l : Loc) (s : List UInt8) (neg : Bool) (a : cbB) : Prop :=
 ∃ v B0 B1 B3, bnT l v a.1 a.2.1 a.2.2.1 a.2.2.2.1 a.2.2.2.2.1 a.2.2.2.2.2 ∧ Blanks B0 ∧ Blanks B1 ∧ Blanks B3 ∧
  ((neg = true ∧ ∃ B2, Blanks B2 ∧ s = B0 ++ (40 :: (B1 ++ (v ++ (B2 ++ (41 :: B3)))))) ∨ ∃ g, chL l g neg ∧ s = B0 ++ (g ++ (B1 ++ (v ++ B3))))
theorem awD {l : Loc} (hl : l.entOk) {g : List UInt8} {b : Bool} (hg : chL l g b) (hn : g ≠ []) (z : List UInt8) : zQ (decodeL (g ++ z)).1 = false ∧ hasPrefix (g ++ z) [40] = false := by
 rcases hg with ⟨h, _⟩ | ⟨rfl, _⟩ | ⟨rfl, _⟩ | ⟨rfl, _⟩
 ·grind
 ·exact ⟨abG [] z aC aC, zZ aF⟩
 ·exact ⟨abG [] z aC aC, zZ aF⟩
 obtain ⟨c, r, hm, _, _, h40, _, hb⟩ := hl.fine.minus
 exact ⟨hb z, by rw [hm]; exact zZ (by simpa using h40)⟩
theorem cdX {l : Loc} (hl : l.entOk) {s : List UInt8} (h : bzI l s neg a) : bcN l s = some (neg, a) := by
 obtain ⟨v, B0, B1, B3, hA, hB0, hB1, hB3, h⟩ := h
 have hv := bjE hl hA
 rcases h with ⟨rfl, B2, hB2, rfl⟩ | ⟨g, hg, rfl⟩
 ·have hT : bzF (B2 ++ 41 :: B3) := ⟨B2, _, hB2, rfl, .inr ⟨B3, rfl, avL hB3⟩⟩
  have e1 : zT (B0 ++ (40 :: (B1 ++ (v ++ (B2 ++ (41 :: B3)))))) = 40 :: (B1 ++ (v ++ (B2 ++ (41 :: B3)))) := aaS hB0 (.inr (abG [] _ aC aC))
  have e2 : zT (B1 ++ (v ++ (B2 ++ (41 :: B3)))) = v ++ (B2 ++ (41 :: B3)) := aaS hB1 (.inr (hv.2.1 _))
  have e3 : zT (B2 ++ 41 :: B3) = 41 :: B3 := aaS hB2 (.inr (abG [] _ aC aC))
  unfold bcN
  have h40 : hasPrefix (40 :: (B1 ++ (v ++ (B2 ++ (41 :: B3))))) [40] = true := acM [40] _
  have h41 : hasPrefix (41 :: B3) [41] = true := acM [41] _
  rw [e1, aN h40, eM, cT, e2, bgG hl hA hT]
  simp only
  rw [e3, aN ⟨h41, by rw [eM, cT]; exact anE hB3⟩]
 have hT : bzF B3 := ⟨B3, [], hB3, by rw [bM], .inl rfl⟩
 by_cases hg0 : g = []
 ·subst hg0
  have hneg : neg = false := by
   rcases hg with ⟨_, h⟩ | ⟨h, _⟩ | ⟨h, _⟩ | ⟨h, _⟩
   ·exact h
   ·cases h
   ·cases h
   obtain ⟨c, r, hm, _⟩ := hl.fine.minus
   rw [hm] at h; cases h
  have e1 : zT (B0 ++ ([] ++ (B1 ++ (v ++ B3)))) = v ++ B3 := by
   rw [cF, ← aQ]; exact aaS (hB0.app hB1) (.inr (hv.2.1 _))
  have e2 : yF l (v ++ B3) = (v ++ B3, neg) := amW hl.fine hg fun _ => (hv.2.2.1 B3).1
  unfold bcN
  rw [e1, aL (by rw [(hv.2.2.1 B3).2]; decide), e2]
  simp only
  rw [arM (.inr (hv.2.1 _)), bgG hl hA hT]
  simp only
  rw [aN (anE hB3)]
 have e1 : zT (B0 ++ (g ++ (B1 ++ (v ++ B3)))) = g ++ (B1 ++ (v ++ B3)) := aaS hB0 (.inr (awD hl hg hg0 _).1)
 have e2 : yF l (g ++ (B1 ++ (v ++ B3))) = (B1 ++ (v ++ B3), neg) := amW hl.fine hg fun q => absurd q hg0
 unfold bcN
 rw [e1, aL (by rw [(awD hl hg hg0 _).2]; decide), e2]
 simp only
 rw [aaS hB1 (.inr (hv.2.1 _)), bgG hl hA hT]
 simp only
 rw [aN (anE hB3)]
theorem bxV {l : Loc} (hl : l.entOk) {s : List UInt8} (h : bcN l s = some (neg, a)) : bzI l s neg a := by
 obtain ⟨B0, hB0, h0⟩ := aaU s
 unfold bcN at h
 split at h
 ·rename_i hc
  obtain ⟨y, hy⟩ := acZ.1 hc
  rw [hy] at h h0
  have hd : ([40] ++ y : List UInt8).drop 1 = y := rfl
  rw [hd] at h
  cases ha : aiF l (zT y) with
  | none => rw [ha] at h; cases h
  | some q =>
   obtain ⟨a2, z⟩ := q
   rw [ha] at h
   simp only at h
   split at h
   ·rename_i hc2
    simp only [Option.some.injEq, Prod.mk.injEq] at h
    obtain ⟨rfl, rfl⟩ := h
    obtain ⟨v, hv, hA⟩ := bjD (kd := a2.1) (d := a2.2.1) (e := a2.2.2.1) (k := a2.2.2.2.1) (gr := a2.2.2.2.2.1) (x := a2.2.2.2.2.2) hl ha
    obtain ⟨w, hw⟩ := acZ.1 hc2.1
    have hd2 : ([41] ++ w : List UInt8).drop 1 = w := rfl
    rw [hw, hd2] at hc2
    obtain ⟨B1, hB1, h1⟩ := aaU y
    obtain ⟨B2, hB2, h2⟩ := aaU z
    obtain ⟨B3, hB3, h3⟩ := aaU w
    rw [hc2.2, bM] at h3
    refine ⟨v, B0, B1, B3, hA, hB0, hB1, hB3, .inl ⟨rfl, B2, hB2, ?_⟩⟩
    rw [h0, h1, hv, h2, hw, h3]
    rfl
   cases h
 cases ha : aiF l (zT (yF l (zT s)).1) with
 | none => rw [ha] at h; cases h
 | some q =>
  obtain ⟨a2, z⟩ := q
  rw [ha] at h
  simp only at h
  split at h
  ·rename_i hz
   simp only [Option.some.injEq, Prod.mk.injEq] at h
   obtain ⟨rfl, rfl⟩ := h
   obtain ⟨v, hv, hA⟩ := bjD (kd := a2.1) (d := a2.2.1) (e := a2.2.2.1) (k := a2.2.2.2.1) (gr := a2.2.2.2.2.1) (x := a2.2.2.2.2.2) hl ha
   obtain ⟨g, hg, h1⟩ := agP l (zT s)
   obtain ⟨B1, hB1, h2⟩ := aaU (yF l (zT s)).1
   obtain ⟨B3, hB3, h3⟩ := aaU z
   rw [hz, bM] at h3
   refine ⟨v, B0, B1, B3, hA, hB0, hB1, hB3, .inr ⟨g, hg, ?_⟩⟩
   rw [← h3, ← hv, ← h2, ← h1]
   exact h0
  cases h
theorem bxW {l : Loc} (hl : l.entOk) {s : List UInt8} (h : bzI l s neg a) : bzB l (aaI zQ s) = some (neg, a) := by
 obtain ⟨v, B0, B1, B3, hA, hB0, hB1, hB3, h⟩ := h
 have hv := bjE hl hA
 have hq := byV hl hA
 have key : ∀ u, adM l u = some (v, neg) → bzB l u = some (neg, a) := by
  intro u hu
  unfold bzB
  rw [hu]
  simp only
  rw [hq]
 rcases h with ⟨rfl, B2, hB2, rfl⟩ | ⟨g, hg, rfl⟩
 ·have e0 : B0 ++ (40 :: (B1 ++ (v ++ (B2 ++ (41 :: B3))))) = B0 ++ ([40] ++ ((B1 ++ (v ++ B2)) ++ [41])) ++ B3 := by simp
  have e1 : aaI zQ (B0 ++ (40 :: (B1 ++ (v ++ (B2 ++ (41 :: B3)))))) = [40] ++ ((B1 ++ (v ++ B2)) ++ [41]) := by
   rw [e0]
   refine aoO hB0 hB3 (.inr ?_) (.inr ?_)
   ·rw [aQ]; exact abG [] _ aC aC
   rw [← aQ]; exact adU [] _ aC aC
  rw [e1]
  refine key _ ?_
  have e2 : aaI zQ (B1 ++ (v ++ B2)) = v := by
   rw [← aQ]
   exact aoO hB1 hB2 (.inr (hv.2.1 _)) (.inr (hv.2.2.2 []))
  unfold adM
  rw [aN (acM _ _), adG, aN (akJ.2 ⟨_, rfl⟩), ajB, e2]
 by_cases hg0 : g = []
 ·subst hg0
  have e1 : aaI zQ (B0 ++ ([] ++ (B1 ++ (v ++ B3)))) = v := by
   rw [cF, ← aQ, ← aQ]
   exact aoO (hB0.app hB1) hB3 (.inr (hv.2.1 _)) (.inr (hv.2.2.2 []))
  rw [e1]
  refine key _ ?_
  have hvn := hv.2.1 []
  have hvb := hv.2.2.1 []
  rw [bM] at hvn hvb
  have e2 : yF l v = (v, neg) := amW hl.fine (x := v) hg fun _ => hvb.1
  unfold adM
  rw [aL (by rw [hvb.2]; decide), e2]
  simp only
  rw [atQ (.inr hvn)]
 have e0 : B0 ++ (g ++ (B1 ++ (v ++ B3))) = B0 ++ (g ++ (B1 ++ v)) ++ B3 := by simp
 have e1 : aaI zQ (B0 ++ (g ++ (B1 ++ (v ++ B3)))) = g ++ (B1 ++ v) := by
  rw [e0]
  refine aoO hB0 hB3 (.inr ?_) (.inr ?_)
  ·rw [aQ]; exact (awD hl hg hg0 _).1
  grind
 rw [e1]
 refine key _ ?_
 have hvn := hv.2.1 []
 rw [bM] at hvn
 have e2 : yF l (g ++ (B1 ++ v)) = (B1 ++ v, neg) := amW hl.fine hg fun q => absurd q hg0
 unfold adM
 rw [aL (by rw [(awD hl hg hg0 _).2]; decide), e2]
 simp only
 rw [aiJ hB1 (.inr hvn) _ (aT _)]
theorem bsU {l : Loc} (hl : l.entOk) {s : List UInt8} (h : bzB l (aaI zQ s) = some (neg, a)) : bzI l s neg a := by
 obtain ⟨B0, B3, hB0, hB3, hs⟩ := atN s
 unfold bzB at h
 cases hi : adM l (aaI zQ s) with
 | none => rw [hi] at h; cases h
 | some q =>
  obtain ⟨v, n2⟩ := q
  rw [hi] at h
  simp only at h
  cases hq : caY l v with
  | none => rw [hq] at h; cases h
  | some a2 =>
   rw [hq] at h
   simp only [Option.some.injEq, Prod.mk.injEq] at h
   obtain ⟨rfl, rfl⟩ := h
   have hA := btY (kd := a2.1) (d := a2.2.1) (e := a2.2.2.1) (k := a2.2.2.2.1) (gr := a2.2.2.2.2.1) (x := a2.2.2.2.2.2) hl hq
   unfold adM at hi
   split at hi
   ·rename_i hc
    obtain ⟨y, hy⟩ := acZ.1 hc
    rw [hy, adG] at hi
    split at hi
    ·rename_i hc2
     obtain ⟨w, hw⟩ := akJ.1 hc2
     rw [hw, ajB] at hi
     simp only [Option.some.injEq, Prod.mk.injEq] at hi
     obtain ⟨hv, rfl⟩ := hi
     obtain ⟨B1, B2, hB1, hB2, h1⟩ := atN w
     rw [hv] at h1
     refine ⟨v, B0, B1, B3, hA, hB0, hB1, hB3, .inl ⟨rfl, B2, hB2, ?_⟩⟩
     rw [hs, hy, hw, h1]
     simp
    grind
   simp only [Option.some.injEq, Prod.mk.injEq] at hi
   obtain ⟨hv, rfl⟩ := hi
   obtain ⟨g, hg, h1⟩ := agP l (aaI zQ s)
   obtain ⟨B1, hB1, h2⟩ := aaU (yF l (aaI zQ s)).1
   unfold zT at h2
   rw [hv] at h2
   refine ⟨v, B0, B1, B3, hA, hB0, hB1, hB3, .inr ⟨g, hg, ?_⟩⟩
   have h3 : s = B0 ++ (g ++ (B1 ++ v)) ++ B3 := by rw [← h2, ← h1]; exact hs
   rw [h3]
   simp only [aQ]
theorem cgZ {l : Loc} (hl : l.entOk) (s : List UInt8) : bcN l s = bzB l (aaI zQ s) := by
 cases h : bcN l s with
 | some q => obtain ⟨n, a⟩ := q; exact (bxW hl (bxV hl h)).symm
 | none =>
  cases h2 : bzB l (aaI zQ s) with
  | none => rfl
  | some q =>
   obtain ⟨n, a⟩ := q
   rw [cdX hl (bsU hl h2)] at h
   cases h
def beW (o : Option chZ) : EntN × Int :=
 match o with
 | none => (EntN.zero, 3)
 | some (neg, kd, d, e, k, gr, x) =>
  if (mkN neg d e).2 ≠ 0 then (EntN.zero, 2)
  else if zV (aiX (mkN neg d e).1.1 (mkN neg d e).1.2.1 (mkN neg d e).1.2.2) = 3 then (EntN.zero, 2)
  else (⟨aiX (mkN neg d e).1.1 (mkN neg d e).1.2.1 (mkN neg d e).1.2.2, kd, k, gr, x⟩, 0)
theorem blO (l : Loc) (u : List UInt8) : abU l u = beW (bzB l u) := by
 unfold abU bzB
 cases adM l u with
 | none => rfl
 | some q =>
  obtain ⟨v, neg⟩ := q
  simp only
  unfold axV caY
  cases aoN l (acT l v).2.1 with
  | none => rfl
  | some q => obtain ⟨d, e, k, gr, x⟩ := q; rfl
theorem bwU {l : Loc} (hl : l.entOk) (s : List UInt8) : beW (bcN l s) = abU l (aaI zQ s) := by rw [cgZ hl, blO]
end Go.Proofs.YtmmgbnolccpjoaaGreatDoor
