import Derived.Test.YtfkeflcdadlmdaaGreatDoorCards
import Derived.Test.YtfkeflcdadlmdaaGreatDoorTie
import Derived.Test.YtfkeflcdadlmdaaGreatDoorGfk
import Derived.Test.YtfkeflcdadlmdaaGreatDoorB3
import Derived.SevenTiedAt
namespace Go.Proofs.YtfkeflcdadlmdaaGreatDoor
open Go Go.ChangeShapes Go.WideShapes Go.ChangeAt Go.RowKit

theorem wfi64 {n : Int} (h : (Lit.int .i64 n).wf = true) : -9223372036854775808 ≤ n ∧ n ≤ 9223372036854775807 := by
 simp [Lit.wf, IntKind.min, IntKind.max, IntKind.bits, IntKind.signed] at h
 omega
theorem asE (c : Int) (hc : -9223372036854775808 ≤ c ∧ c ≤ 9223372036854775807) (q : Bool × List UInt8 × Int) (hq : q.2.1.length ≤ maxLen) (g : Bool) (H : Heap) : ACall Tryz.prog 7 [.int .i64 c, dA q.1 q.2.1 q.2.2, .bool g] H (fun y H' => y = .bool true ∧ H' = H) := avC asU c hc q.1 q.2.1 q.2.2 hq g H
theorem cells48 : Tryz.prog.cellsOf 48 = 3 := by kernel_rfl
theorem cells4 : Tryz.prog.cellsOf 4 = 1 := by kernel_rfl
theorem cells9 : Tryz.prog.cellsOf 9 = 1 := by kernel_rfl
theorem cells3 : Tryz.prog.cellsOf 3 = 1 := by kernel_rfl
set_option maxRecDepth 100000 in
theorem rd_dec {W : World} {hI : Inv W} : Rd Tryz.prog W hI 48 (fun q : Bool × List UInt8 × Int => dA q.1 q.2.1 q.2.2) (fun q => q.2.1.length ≤ maxLen) := by
 intro H enc fuel x cs h
 obtain ⟨hl, hget⟩ := rd_field (hI := hI) Tryz.underlying48 h
 rw [cells48] at hl
 match cs, hl with
 | [c0, c1, c2], _ =>
  obtain ⟨a, _, hra⟩ := hget 0 _ rfl 0 1 rfl cells4 (bcV (hI := hI) Tryz.underlying4)
  obtain ⟨b, hb, hrb⟩ := hget 1 _ rfl 1 1 rfl cells9 (bcU (hI := hI) Tryz.underlying9)
  obtain ⟨c, _, hrc⟩ := hget 2 _ rfl 2 1 rfl cells3 (rd_int (hI := hI) Tryz.underlying3)
  exact ⟨(a, b, c), hb, RelCells.pieces (n := 1) hra (RelCells.pieces (n := 1) hrb hrc)⟩
theorem rd_args {P : Program} {W : World} {hI : Inv W} {t : TypeId} {α : Type} {fl : α → List AV} {ok : α → Prop} (hrd : Rd P W hI t (fun a => .agg (fl a)) ok) {H : Type} {enc : TypeId × Value → H} {vs : Array Value} {d : DataW H} {ps : List MemPlace} (h : DataW.Trod enc P W 0 (fun _ => true) true t (.agg vs) d ps) :
  ∃ a, ok a ∧ RelV (g0 W hI) (.agg (fl a)) (.agg vs) := by
 obtain ⟨fuel, hf⟩ := h
 obtain ⟨a, ha, hr⟩ := hrd enc fuel _ _ hf
 exact ⟨a, ha, .agg _ _ hr.1 hr.2⟩
set_option maxRecDepth 1000000 in
theorem apT (os : Os) (started : os.Started) (H : Type) (enc : TypeId × Value → H) :
  ReturnsInHanded {} Tryz.checked os 7 .any (fun w args => (Rows.entryWritesSpec.pre enc Tryz.prog Tryz.f7 [] false w args ∧ laidMetH Tryz.prog laidL w) ∧ sizedMet enc Tryz.prog Tryz.f7 (OpenSpec.ofChange Rows.entryWritesSpec) false w args)
   (Rows.entryWritesSpec.post enc Tryz.prog Tryz.f7 false true false false) := by
 refine lift_and (C := Tryz.checked) (X := fun w _ => laidMetH Tryz.prog laidL w) (fun _ _ _ hh h => h.of_heap hh) Tryz.own started (by kernel_rfl) Tryz.func7
  (ChangeSpec.witness_at (enc := enc) (C := Tryz.checked) (os := os) (X := fun w _ => laidMetH Tryz.prog laidL w) false (arM os) #[.int .i64 0, .agg #[.bool false, .string ⟨#[]⟩, .int .i64 0], .bool false] 8 rfl (by kernel_rfl) (by kernel_rfl) (by kernel_rfl) (by kernel_rfl) (by kernel_rfl) (apE os _)) ?_
 intro W base args ds gs before hsh hval0 hW _ _ hL
 have hI := Inv_of hsh hL
 have hval : ∀ (j : Nat) t v, Tryz.f7.params[j]? = some t → args[j]? = some v → Value.okWide Tryz.prog W .any base t v := hval0
 have hW' := hW
 obtain ⟨p, q, hA0, hV, rfl, _, _⟩ := hW
 have hA : DataW.TrodAll enc Tryz.prog W 0 (fun _ => true) true Tryz.f7.params.toList args.toList ds p := hA0
 rw [Tryz.params7] at hA hval
 obtain ⟨v0, v1, v2, d0, d1, d2, p0, p1, p2, rfl, rfl, rfl, h0, h1, h2⟩ := trodAll_three hA
 obtain ⟨rfl, rfl⟩ := trodVars_none hV
 clear hA0 hval0
 simp only [List.append_nil] at hW'
 obtain ⟨n0, rfl⟩ := okWide_int Tryz.underlying3 (hval 0 3 v0 rfl rfl)
 obtain ⟨x0, hx0, hr0⟩ := rd_arg (rd_int (hI := hI) Tryz.underlying3) h0 (fun _ => rfl) rfl
 obtain ⟨cs1, rfl, _⟩ := okWide_struct Tryz.underlying48 (hval 1 48 v1 rfl rfl)
 obtain ⟨x1, hx1, hr1⟩ := rd_args (fl := fun q : Bool × List UInt8 × Int => [.bool q.1, .str q.2.1, .int .i64 q.2.2]) (rd_dec (hI := hI)) h1
 obtain ⟨b2, rfl⟩ := okWide_bool Tryz.underlying4 (hval 2 4 v2 rfl rfl)
 obtain ⟨x2, hx2, hr2⟩ := rd_arg (bcV (hI := hI) Tryz.underlying4) h2 (fun _ => rfl) rfl
 have hlt : ∀ x ∈ p0 ++ p1 ++ p2, x.block < W.heap.size := fun x hx => by simpa using hW'.lt x hx
 have hargs : ∀ {t : TypeId} {v : Value} {d : DataW H} {ps : List MemPlace}, DataW.Trod enc Tryz.prog W 0 (fun _ => true) true t v d ps → (∀ x ∈ ps, x.block < W.heap.size) → Tryz.prog.readableRec t = true → t < Tryz.prog.types.size → ∀ W' : World, Below W.heap.size W W' → DataW.Trod enc Tryz.prog W' 0 (fun b => decide (b < W.heap.size)) true t v d ps :=
  fun h hl hr ht W' hn => Below.trod Tryz.laidOut hr ht h hn hl
 refine (beD (P := Tryz.prog) (f := 7) (fun H => asE x0 (wfi64 hx0) x1 hx1 x2 H) (atG hr0 (atG hr1 (atG hr2 relvs_n)))).mono fun e W' ⟨he, hn⟩ => ?_
 subst he
 exact ⟨_, rfl, _, _, _, [], _, [], hW', trodAll_mk1 (shut_bool Tryz.underlying4 true), trodAll_mk3 (hargs h0 (fun x hx => hlt x (by simp [hx])) (by kernel_rfl) (of_decide_eq_true (by kernel_rfl)) W' hn) (hargs h1 (fun x hx => hlt x (by simp [hx])) (by kernel_rfl) (of_decide_eq_true (by kernel_rfl)) W' hn) (hargs h2 (fun x hx => hlt x (by simp [hx])) (by kernel_rfl) (of_decide_eq_true (by kernel_rfl)) W' hn), rfl, hn.frame _, fun h => by cases h⟩
theorem baS : Rows.EntryWritesSaid :=
 OpenClaim.holds_of_wide 7 Tryz.f7 rfl rfl rfl rfl rfl rfl rfl ⟨rfl, rfl, rfl, rfl, rfl⟩ rfl rfl rfl rfl rfl (by kernel_rfl) Tryz.func7 (by kernel_rfl)
  (of_decide_eq_true (by kernel_rfl)) (by unfold Func.isWrapper; first | (rw [if_pos (by decide +kernel)]; kernel_rfl) | (rw [if_neg (by decide +kernel)]; exact ⟨rfl, rfl⟩))
  (fun os started H enc _ => apT os started H enc)
theorem Writes_holds : Rows.EntryWritesCardSaid :=
 Claim7.holds_tied_plain_at .later [] [.data, .data, .data, .data, .sentinel, .sentinel, .data, .data, .pinned] true (true, "4ab4727cc84f38c5e75afde52710d4e75b54721a7c56f3a7991c1102d09f5b94") true
  baS (fun _ h => by cases h) (by kernel_rfl) (fun _ h => by cases h) entryWrites_row_tie rfl ⟨rfl, rfl⟩ (by kernel_rfl) rfl
  (fun f fn hf hfn => by
    obtain rfl : f = 7 := Option.some.inj ((show Tryz.prog.funcNamed Rows.entryWritesRow.func = some 7 by kernel_rfl).symm.trans hf) |>.symm
    obtain rfl : fn = Tryz.f7 := (Option.some.inj (Tryz.func7.symm.trans hfn)).symm
    exact ⟨by kernel_rfl, fun j t ht => by
      rw [Tryz.params7] at ht
      have h3 : t = 3 ∨ t = 48 ∨ t = 4 := by
        rcases j with _ | _ | _ | j
        ·exact .inl (by simpa using ht.symm)
        ·exact .inr (.inl (by simpa using ht.symm))
        ·exact .inr (.inr (by simpa using ht.symm))
        ·simp at ht
      rcases h3 with rfl | rfl | rfl
      ·exact (show Tryz.prog.wantsStandIn 3 = false by kernel_rfl)
      ·exact (show Tryz.prog.wantsStandIn 48 = false by kernel_rfl)
      ·exact (show Tryz.prog.wantsStandIn 4 = false by kernel_rfl)⟩)
  (by kernel_rfl)
end Go.Proofs.YtfkeflcdadlmdaaGreatDoor
