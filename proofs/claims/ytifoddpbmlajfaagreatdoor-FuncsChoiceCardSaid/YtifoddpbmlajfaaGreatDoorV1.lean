/-
  Values (plain): what is right, what their texts and words are.
-/
import Derived.Test.YtifoddpbmlajfaaGreatDoorX1
import Derived.Test.YtifoddpbmlajfaaGreatDoorS4
import Derived.Test.YtifoddpbmlajfaaGreatDoorS5
namespace Go.Proofs.YtifoddpbmlajfaaGreatDoor
open Go Go.RowKit

structure Val where
  kind : Int
  bits : Nat
  is : Bool
  text : List UInt8
  fail : Int
instance : DecidableEq Val := fun x y =>
  if h : x.kind = y.kind ∧ x.bits = y.bits ∧ x.is = y.is ∧ x.text = y.text ∧ x.fail = y.fail then .isTrue (by cases x; cases y; simp_all) else .isFalse (by rintro rfl; exact h ⟨rfl, rfl, rfl, rfl, rfl⟩)
def Val.cs (v : Val) : List AV := [.int .i64 v.kind, .int .u64 (v.bits : Int), .bool v.is, .str v.text, .int .i64 v.fail]
def Val.av (v : Val) : AV := .agg v.cs
def FailV (n : Int) : Val := ⟨4, 0, false, [], n⟩
def BoolV (b : Bool) : Val := ⟨2, 0, b, [], 0⟩
def NumV (x : Nat) : Val := if 3 ≤ kindN x then FailV 6 else ⟨1, x, false, [], 0⟩
def TextV (s : List UInt8) : Val := if 1000 < s.length then FailV 3 else ⟨3, 0, false, s, 0⟩
def zeroV (k : Int) : Val := ⟨k, 0, false, [], 0⟩
def FailName (n : Int) : List UInt8 := if n = 1 then [35, 78, 85, 76, 76, 33] else if n = 2 then [35, 68, 73, 86, 47, 48, 33] else if n = 3 then [35, 86, 65, 76, 85, 69, 33] else if n = 4 then [35, 82, 69, 70, 33] else if n = 5 then [35, 78, 65, 77, 69, 63] else if n = 6 then [35, 78, 85, 77, 33] else if n = 7 then [35, 78, 47, 65] else if n = 8 then [35, 67, 89, 67, 76, 69, 33] else []
def RightV (v : Val) : Bool :=
  if v.kind = 0 then decide (v = ⟨0, 0, false, [], 0⟩) else if v.kind = 1 then decide (v = NumV v.bits) else if v.kind = 2 then decide (v = BoolV v.is) else if v.kind = 3 then decide (v = TextV v.text)
  else if v.kind = 4 then decide (v = FailV v.fail) && decide (FailName v.fail ≠ []) else false
def wordL (b : Bool) : List UInt8 := if b then [84, 82, 85, 69] else [70, 65, 76, 83, 69]
def capB (c : UInt8) : UInt8 := if 97 ≤ c.toNat ∧ c.toNat ≤ 122 then UInt8.ofNat (c.toNat - 32) else c
def capL (s : List UInt8) : List UInt8 := s.map capB
end Go.Proofs.YtifoddpbmlajfaaGreatDoor

namespace Go.Proofs.YtifoddpbmlajfaaGreatDoor
open Go Go.RowKit

theorem zr24 : ∀ g, RelCells g [.int .i64 0, .int .u64 0, .bool false, .str [], .int .i64 0] (Value.cells (Go.Value.agg #[Go.Value.int Go.IntKind.i64 0, Go.Value.int Go.IntKind.u64 0, Go.Value.bool false, Go.Value.string { data := #[] }, Go.Value.int Go.IntKind.i64 0])) := fun _ => RelL.cells (.cons (.int _ _) (.cons (.int _ _) (.cons (.bool _) (.cons ((.str [] (Nat.zero_le _))) (.cons (.int _ _) .nil)))))
theorem pl24 (fs : Array Field) (hfs : Tryz.prog.underlying 24 = some (.struct fs)) : ∀ (i : Nat) f p, fs[i]? = some f → [(0, 1), (1, 1), (2, 1), (3, 1), (4, 1)][i]? = some p → ∀ w, (sizeOf f.type).run Tryz.prog w = .ok p.2 w := by
  have e := (Option.some.inj (hfs.symm.trans Tryz.underlying24))
  cases e
  intro i f p hf hp w
  match i with
  | 0 => cases hf; cases hp; exact Tryz.sizeOf3 w
  | 1 => cases hf; cases hp; exact Tryz.sizeOf22 w
  | 2 => cases hf; cases hp; exact Tryz.sizeOf4 w
  | 3 => cases hf; cases hp; exact Tryz.sizeOf9 w
  | 4 => cases hf; cases hp; exact Tryz.sizeOf3 w
  | i + 5 => simp at hp

def Val.vals (r : Val) : List Value := [.int .i64 r.kind, .int .u64 (r.bits : Int), .bool r.is, .string ⟨r.text.toArray⟩, .int .i64 r.fail]
theorem bytes_inj {a b : List UInt8} : ((⟨a.toArray⟩ : ByteArray) = ⟨b.toArray⟩) ↔ a = b := by
  constructor
  · intro h; have := congrArg (fun x : ByteArray => x.data.toList) h; simpa using this
  · rintro rfl; rfl
theorem eqInV (d : Nat) (r s : Val) (w : World) : (Op.equalIn (d + 2) 24 (.agg r.vals.toArray) (.agg s.vals.toArray)).run Tryz.prog w = .ok (decide (r = s)) w := by
  have u3 := Tryz.underlying3
  have a3 := Tryz.isAgg3
  have z3 := Tryz.sizeOf3
  have u4 := Tryz.underlying4
  have a4 := Tryz.isAgg4
  have z4 := Tryz.sizeOf4
  have u22 := Tryz.underlying22
  have a22 := Tryz.isAgg22
  have z22 := Tryz.sizeOf22
  have u9 := Tryz.underlying9
  have a9 := Tryz.isAgg9
  have z9 := Tryz.sizeOf9
  have hS : Tryz.prog.underlying 24 = some (.struct (Tryz.prog.fieldsOf 24)) := by kernel_rfl
  have hp : Tryz.prog.stoodInHeld 24 = false := by kernel_rfl
  rw [run_equalIn_agg w (d + 1) 24 _ _ hS hp]
  simp only [Program.fieldsOf, Tryz.underlying24, Val.vals]
  go_simp
  obtain ⟨a, b, c, e, f⟩ := r
  obtain ⟨a', b', c', e', f'⟩ := s
  have hb := @bytes_inj e e'
  by_cases h1 : a = a' <;> by_cases h2 : b = b' <;> by_cases h3 : c = c' <;> by_cases h4 : e = e' <;> by_cases h5 : f = f' <;> simp [h1, h2, h3, h4, h5, Int.ofNat_inj]
theorem eqVal (r s : Val) : EqCells Tryz.prog 24 r.cs s.cs (decide (r = s)) := fun g xs ys w h k => by
  rw [h.plain r.vals rfl, k.plain s.vals rfl]; exact eqInV 9998 r s w

set_option maxRecDepth 100000 in
theorem FailName_calls (n : Int) (H : Heap) : ACall Tryz.prog 25 [.int .i64 n] H (fun y H' => y = .str (FailName n) ∧ H' = H) := by
  refine ACall.of_body Tryz.func25 rfl Tryz.ntmps25 Tryz.results25 rfl ?_
  refine AWP.seq ?_
  -- region 0
  refine AWP.region ?_
  refine AList.p rfl (pure_assign (ev_str rfl)) ?_
  refine AList.nil ?_
  refine Next.go ?_
  refine AWP.seq ?_
  refine AWP.seq ?_
  -- region 1
  refine AWP.region ?_
  refine AList.p rfl (pure_move (.tmp _ _ rfl)) ?_
  refine AList.nil ?_
  refine Next.go ?_
  refine AWP.block ?_
  refine AWP.seq ?_
  -- region 2
  refine AWP.region ?_
  refine AList.p rfl (pure_eql (.tmp _ _ rfl) ev_int) ?_
  refine AList.p rfl (pure_assign (.tmp _ _ rfl)) ?_
  refine AList.nil ?_
  refine Next.go ?_
  -- c0
  refine AWP.cond (.tmp _ _ rfl) (fun hc4 => ?_) (fun hc4 => ?_)
  · try simp only [decide_eq_true_eq] at hc4
    refine AWP.seq ?_
    -- region 3
    refine AWP.region ?_
    refine AList.p rfl (pure_assign (ev_str rfl)) ?_
    refine AList.nil ?_
    refine Next.go ?_
    refine AWP.ret ?_
    refine Block.rt ?_
    refine Next.rt ?_
    -- ret 0
    refine Ret.go (.cons (.tmp _ _ rfl) .nil) _ (Heap.le.refl _) ?_
    refine ⟨?_, rfl⟩
    simp_all [packed, FailName]
  · try simp only [decide_eq_false_iff_not] at hc4
    refine AWP.seq ?_
    -- region 4
    refine AWP.region ?_
    refine AList.p rfl (pure_eql (.tmp _ _ rfl) ev_int) ?_
    refine AList.p rfl (pure_assign (.tmp _ _ rfl)) ?_
    refine AList.nil ?_
    refine Next.go ?_
    -- c1
    refine AWP.cond (.tmp _ _ rfl) (fun hc6 => ?_) (fun hc6 => ?_)
    · try simp only [decide_eq_true_eq] at hc6
      refine AWP.seq ?_
      -- region 5
      refine AWP.region ?_
      refine AList.p rfl (pure_assign (ev_str rfl)) ?_
      refine AList.nil ?_
      refine Next.go ?_
      refine AWP.ret ?_
      refine Block.rt ?_
      refine Next.rt ?_
      -- ret 1
      refine Ret.go (.cons (.tmp _ _ rfl) .nil) _ (Heap.le.refl _) ?_
      refine ⟨?_, rfl⟩
      simp_all [packed, FailName]
    · try simp only [decide_eq_false_iff_not] at hc6
      refine AWP.seq ?_
      -- region 6
      refine AWP.region ?_
      refine AList.p rfl (pure_eql (.tmp _ _ rfl) ev_int) ?_
      refine AList.p rfl (pure_assign (.tmp _ _ rfl)) ?_
      refine AList.nil ?_
      refine Next.go ?_
      -- c2
      refine AWP.cond (.tmp _ _ rfl) (fun hc8 => ?_) (fun hc8 => ?_)
      · try simp only [decide_eq_true_eq] at hc8
        refine AWP.seq ?_
        -- region 7
        refine AWP.region ?_
        refine AList.p rfl (pure_assign (ev_str rfl)) ?_
        refine AList.nil ?_
        refine Next.go ?_
        refine AWP.ret ?_
        refine Block.rt ?_
        refine Next.rt ?_
        -- ret 2
        refine Ret.go (.cons (.tmp _ _ rfl) .nil) _ (Heap.le.refl _) ?_
        refine ⟨?_, rfl⟩
        simp_all [packed, FailName]
      · try simp only [decide_eq_false_iff_not] at hc8
        refine AWP.seq ?_
        -- region 8
        refine AWP.region ?_
        refine AList.p rfl (pure_eql (.tmp _ _ rfl) ev_int) ?_
        refine AList.p rfl (pure_assign (.tmp _ _ rfl)) ?_
        refine AList.nil ?_
        refine Next.go ?_
        -- c3
        refine AWP.cond (.tmp _ _ rfl) (fun hc10 => ?_) (fun hc10 => ?_)
        · try simp only [decide_eq_true_eq] at hc10
          refine AWP.seq ?_
          -- region 9
          refine AWP.region ?_
          refine AList.p rfl (pure_assign (ev_str rfl)) ?_
          refine AList.nil ?_
          refine Next.go ?_
          refine AWP.ret ?_
          refine Block.rt ?_
          refine Next.rt ?_
          -- ret 3
          refine Ret.go (.cons (.tmp _ _ rfl) .nil) _ (Heap.le.refl _) ?_
          refine ⟨?_, rfl⟩
          simp_all [packed, FailName]
        · try simp only [decide_eq_false_iff_not] at hc10
          refine AWP.seq ?_
          -- region 10
          refine AWP.region ?_
          refine AList.p rfl (pure_eql (.tmp _ _ rfl) ev_int) ?_
          refine AList.p rfl (pure_assign (.tmp _ _ rfl)) ?_
          refine AList.nil ?_
          refine Next.go ?_
          -- c4
          refine AWP.cond (.tmp _ _ rfl) (fun hc12 => ?_) (fun hc12 => ?_)
          · try simp only [decide_eq_true_eq] at hc12
            refine AWP.seq ?_
            -- region 11
            refine AWP.region ?_
            refine AList.p rfl (pure_assign (ev_str rfl)) ?_
            refine AList.nil ?_
            refine Next.go ?_
            refine AWP.ret ?_
            refine Block.rt ?_
            refine Next.rt ?_
            -- ret 4
            refine Ret.go (.cons (.tmp _ _ rfl) .nil) _ (Heap.le.refl _) ?_
            refine ⟨?_, rfl⟩
            simp_all [packed, FailName]
          · try simp only [decide_eq_false_iff_not] at hc12
            refine AWP.seq ?_
            -- region 12
            refine AWP.region ?_
            refine AList.p rfl (pure_eql (.tmp _ _ rfl) ev_int) ?_
            refine AList.p rfl (pure_assign (.tmp _ _ rfl)) ?_
            refine AList.nil ?_
            refine Next.go ?_
            -- c5
            refine AWP.cond (.tmp _ _ rfl) (fun hc14 => ?_) (fun hc14 => ?_)
            · try simp only [decide_eq_true_eq] at hc14
              refine AWP.seq ?_
              -- region 13
              refine AWP.region ?_
              refine AList.p rfl (pure_assign (ev_str rfl)) ?_
              refine AList.nil ?_
              refine Next.go ?_
              refine AWP.ret ?_
              refine Block.rt ?_
              refine Next.rt ?_
              -- ret 5
              refine Ret.go (.cons (.tmp _ _ rfl) .nil) _ (Heap.le.refl _) ?_
              refine ⟨?_, rfl⟩
              simp_all [packed, FailName]
            · try simp only [decide_eq_false_iff_not] at hc14
              refine AWP.seq ?_
              -- region 14
              refine AWP.region ?_
              refine AList.p rfl (pure_eql (.tmp _ _ rfl) ev_int) ?_
              refine AList.p rfl (pure_assign (.tmp _ _ rfl)) ?_
              refine AList.nil ?_
              refine Next.go ?_
              -- c6
              refine AWP.cond (.tmp _ _ rfl) (fun hc16 => ?_) (fun hc16 => ?_)
              · try simp only [decide_eq_true_eq] at hc16
                refine AWP.seq ?_
                -- region 15
                refine AWP.region ?_
                refine AList.p rfl (pure_assign (ev_str rfl)) ?_
                refine AList.nil ?_
                refine Next.go ?_
                refine AWP.ret ?_
                refine Block.rt ?_
                refine Next.rt ?_
                -- ret 6
                refine Ret.go (.cons (.tmp _ _ rfl) .nil) _ (Heap.le.refl _) ?_
                refine ⟨?_, rfl⟩
                simp_all [packed, FailName]
              · try simp only [decide_eq_false_iff_not] at hc16
                refine AWP.seq ?_
                -- region 16
                refine AWP.region ?_
                refine AList.p rfl (pure_eql (.tmp _ _ rfl) ev_int) ?_
                refine AList.p rfl (pure_assign (.tmp _ _ rfl)) ?_
                refine AList.nil ?_
                refine Next.go ?_
                -- c7
                refine AWP.cond (.tmp _ _ rfl) (fun hc18 => ?_) (fun hc18 => ?_)
                · try simp only [decide_eq_true_eq] at hc18
                  refine AWP.seq ?_
                  -- region 17
                  refine AWP.region ?_
                  refine AList.p rfl (pure_assign (ev_str rfl)) ?_
                  refine AList.nil ?_
                  refine Next.go ?_
                  refine AWP.ret ?_
                  refine Block.rt ?_
                  refine Next.rt ?_
                  -- ret 7
                  refine Ret.go (.cons (.tmp _ _ rfl) .nil) _ (Heap.le.refl _) ?_
                  refine ⟨?_, rfl⟩
                  simp_all [packed, FailName]
                · try simp only [decide_eq_false_iff_not] at hc18
                  refine AWP.skip ?_
                  refine Block.go ?_
                  refine Next.go ?_
                  refine AWP.seq ?_
                  -- region 18
                  refine AWP.region ?_
                  refine AList.p rfl (pure_assign (ev_str rfl)) ?_
                  refine AList.nil ?_
                  refine Next.go ?_
                  refine AWP.ret ?_
                  -- ret 8
                  refine Ret.go (.cons (.tmp _ _ rfl) .nil) _ (Heap.le.refl _) ?_
                  refine ⟨?_, rfl⟩
                  simp_all [packed, FailName]

set_option maxRecDepth 100000 in
theorem vFail_calls (n : Int) (H : Heap) : ACall Tryz.prog 24 [.int .i64 n] H (fun y H' => y = (FailV n).av ∧ H' = H) := by
  refine ACall.of_body Tryz.func24 rfl Tryz.ntmps24 Tryz.results24 rfl ?_
  refine AWP.seq ?_
  -- region 0
  refine AWP.region ?_
  refine AList.s rfl (step_alloc Tryz.zeroValue24 (zr24)) ?_
  rintro _ _ ⟨b2, hb2, rfl, hH⟩
  obtain rfl := hH.symm
  refine AList.nil ?_
  refine Next.go ?_
  refine AWP.seq ?_
  -- region 1
  refine AWP.region ?_
  refine AList.p rfl (pure_move (.tmp _ _ rfl)) ?_
  refine AList.p rfl (pure_build [(0, 1), (1, 1), (2, 1), (3, 1), (4, 1)] Tryz.underlying24 Tryz.zeroValue24 (zr24) rfl (pl24 _ Tryz.underlying24) (.cons ev_int (.inl rfl) (.cons (.tmp _ _ rfl) (.inl rfl) .nil)) rfl) ?_
  refine AList.s0 (step_store Tryz.sizeOf24 (.tmp _ _ rfl) (.tmp _ _ rfl) rfl rfl (.inr ⟨_, rfl⟩) (by first | assumption | exact (by assumption : Heap.le _ _).objs _ _ (by assumption) | exact Heap.objs_set_same _ _ _ | exact (Heap.objs_set_ne _ _ (by assumption)).trans (Heap.objs_set_same _ _ _) | exact (Heap.objs_set_ne _ _ (by assumption)).trans ((Heap.objs_set_ne _ _ (by assumption)).trans (Heap.objs_set_same _ _ _)) | exact (Heap.objs_set_ne _ _ (by assumption)).trans (by assumption)) (Nat.le_of_ble_eq_true rfl)) ?_
  rintro _ _ ⟨rfl, hH⟩
  obtain rfl := hH.symm
  try first | rw [Heap.set_set] | rw [Heap.set_under (by assumption)]
  refine AList.nil ?_
  refine Next.go ?_
  refine AWP.frz (t := 2) rfl (by first | exact hb2 | exact Heap.fresh_set hb2 _) ?_
  refine AWP.ret ?_
  -- ret 0
  refine Ret.go (.cons (.cellI _ _ _ _ rfl Tryz.isAgg24 Tryz.sizeOf24 rfl) .nil) _ (Heap.le.refl _) ?_
  exact ⟨rfl, rfl⟩

set_option maxRecDepth 100000 in
theorem vBool_calls (b : Bool) (H : Heap) : ACall Tryz.prog 22 [.bool b] H (fun y H' => y = (BoolV b).av ∧ H' = H) := by
  refine ACall.of_body Tryz.func22 rfl Tryz.ntmps22 Tryz.results22 rfl ?_
  refine AWP.seq ?_
  -- region 0
  refine AWP.region ?_
  refine AList.s rfl (step_alloc Tryz.zeroValue24 (zr24)) ?_
  rintro _ _ ⟨b2, hb2, rfl, hH⟩
  obtain rfl := hH.symm
  refine AList.nil ?_
  refine Next.go ?_
  refine AWP.seq ?_
  -- region 1
  refine AWP.region ?_
  refine AList.p rfl (pure_move (.tmp _ _ rfl)) ?_
  refine AList.p rfl (pure_build [(0, 1), (1, 1), (2, 1), (3, 1), (4, 1)] Tryz.underlying24 Tryz.zeroValue24 (zr24) rfl (pl24 _ Tryz.underlying24) (.cons ev_int (.inl rfl) (.cons (.tmp _ _ rfl) (.inl rfl) .nil)) rfl) ?_
  refine AList.s0 (step_store Tryz.sizeOf24 (.tmp _ _ rfl) (.tmp _ _ rfl) rfl rfl (.inr ⟨_, rfl⟩) (by first | assumption | exact (by assumption : Heap.le _ _).objs _ _ (by assumption) | exact Heap.objs_set_same _ _ _ | exact (Heap.objs_set_ne _ _ (by assumption)).trans (Heap.objs_set_same _ _ _) | exact (Heap.objs_set_ne _ _ (by assumption)).trans ((Heap.objs_set_ne _ _ (by assumption)).trans (Heap.objs_set_same _ _ _)) | exact (Heap.objs_set_ne _ _ (by assumption)).trans (by assumption)) (Nat.le_of_ble_eq_true rfl)) ?_
  rintro _ _ ⟨rfl, hH⟩
  obtain rfl := hH.symm
  try first | rw [Heap.set_set] | rw [Heap.set_under (by assumption)]
  refine AList.nil ?_
  refine Next.go ?_
  refine AWP.frz (t := 2) rfl (by first | exact hb2 | exact Heap.fresh_set hb2 _) ?_
  refine AWP.ret ?_
  -- ret 0
  refine Ret.go (.cons (.cellI _ _ _ _ rfl Tryz.isAgg24 Tryz.sizeOf24 rfl) .nil) _ (Heap.le.refl _) ?_
  exact ⟨rfl, rfl⟩

set_option maxRecDepth 100000 in
theorem vNumber_calls (x : Nat) (hx : x < 18446744073709551616) (H : Heap) : ACall Tryz.prog 21 [.int .u64 (x : Int)] H (fun y H' => y = (NumV x).av ∧ H' = H) := by
  refine ACall.of_body Tryz.func21 rfl Tryz.ntmps21 Tryz.results21 rfl ?_
  refine AWP.seq ?_
  -- region 0
  refine AWP.region ?_
  refine AList.s rfl (step_alloc Tryz.zeroValue24 (zr24)) ?_
  rintro _ _ ⟨b2, hb2, rfl, hH⟩
  obtain rfl := hH.symm
  refine AList.nil ?_
  refine Next.go ?_
  refine AWP.seq ?_
  refine AWP.seq ?_
  -- region 1
  refine AWP.region ?_
  refine AList.p rfl (pure_move (.tmp _ _ rfl)) ?_
  refine AList.s rfl (step_call0 Tryz.call35 (.cons (.tmp _ _ rfl) .nil) (Kind_calls _ (by assumption) _)) ?_
  rintro _ _ ⟨rfl, hH⟩
  obtain rfl := hH.symm
  refine AList.p rfl (pure_geq (.tmp _ _ rfl) ev_int) ?_
  refine AList.nil ?_
  refine Next.go ?_
  -- c0
  refine AWP.cond (.tmp _ _ rfl) (fun hc5 => ?_) (fun hc5 => ?_)
  · try simp only [decide_eq_true_eq] at hc5
    refine AWP.seq ?_
    -- region 2
    refine AWP.region ?_
    refine AList.s rfl (step_call0 Tryz.call24 (.cons ev_int .nil) (vFail_calls _ _)) ?_
    rintro _ _ ⟨rfl, hH⟩
    obtain rfl := hH.symm
    refine AList.s0 (step_store Tryz.sizeOf24 (.tmp _ _ rfl) (.tmp _ _ rfl) rfl rfl (.inr ⟨_, rfl⟩) (by first | assumption | exact (by assumption : Heap.le _ _).objs _ _ (by assumption) | exact Heap.objs_set_same _ _ _ | exact (Heap.objs_set_ne _ _ (by assumption)).trans (Heap.objs_set_same _ _ _) | exact (Heap.objs_set_ne _ _ (by assumption)).trans ((Heap.objs_set_ne _ _ (by assumption)).trans (Heap.objs_set_same _ _ _)) | exact (Heap.objs_set_ne _ _ (by assumption)).trans (by assumption)) (Nat.le_of_ble_eq_true rfl)) ?_
    rintro _ _ ⟨rfl, hH⟩
    obtain rfl := hH.symm
    try first | rw [Heap.set_set] | rw [Heap.set_under (by assumption)]
    refine AList.nil ?_
    refine Next.go ?_
    refine AWP.frz (t := 2) rfl (by first | exact hb2 | exact Heap.fresh_set hb2 _) ?_
    refine AWP.ret ?_
    refine Next.rt ?_
    -- ret 0
    refine Ret.go (.cons (.cellI _ _ _ _ rfl Tryz.isAgg24 Tryz.sizeOf24 rfl) .nil) _ (Heap.le.refl _) ?_
    refine ⟨?_, rfl⟩
    first | (rw [show NumV x = FailV 6 from if_pos (by omega)]; rfl) | (rw [show NumV x = ⟨1, x, false, [], 0⟩ from if_neg (by omega)]; rfl)
  · try simp only [decide_eq_false_iff_not, Int.not_le] at hc5
    refine AWP.skip ?_
    refine Next.go ?_
    refine AWP.seq ?_
    -- region 3
    refine AWP.region ?_
    refine AList.p rfl (pure_move (.tmp _ _ rfl)) ?_
    refine AList.p rfl (pure_build [(0, 1), (1, 1), (2, 1), (3, 1), (4, 1)] Tryz.underlying24 Tryz.zeroValue24 (zr24) rfl (pl24 _ Tryz.underlying24) (.cons ev_int (.inl rfl) (.cons (.tmp _ _ rfl) (.inl rfl) .nil)) rfl) ?_
    refine AList.s0 (step_store Tryz.sizeOf24 (.tmp _ _ rfl) (.tmp _ _ rfl) rfl rfl (.inr ⟨_, rfl⟩) (by first | assumption | exact (by assumption : Heap.le _ _).objs _ _ (by assumption) | exact Heap.objs_set_same _ _ _ | exact (Heap.objs_set_ne _ _ (by assumption)).trans (Heap.objs_set_same _ _ _) | exact (Heap.objs_set_ne _ _ (by assumption)).trans ((Heap.objs_set_ne _ _ (by assumption)).trans (Heap.objs_set_same _ _ _)) | exact (Heap.objs_set_ne _ _ (by assumption)).trans (by assumption)) (Nat.le_of_ble_eq_true rfl)) ?_
    rintro _ _ ⟨rfl, hH⟩
    obtain rfl := hH.symm
    try first | rw [Heap.set_set] | rw [Heap.set_under (by assumption)]
    refine AList.nil ?_
    refine Next.go ?_
    refine AWP.frz (t := 2) rfl (by first | exact hb2 | exact Heap.fresh_set hb2 _) ?_
    refine AWP.ret ?_
    -- ret 1
    refine Ret.go (.cons (.cellI _ _ _ _ rfl Tryz.isAgg24 Tryz.sizeOf24 rfl) .nil) _ (Heap.le.refl _) ?_
    refine ⟨?_, rfl⟩
    first | (rw [show NumV x = FailV 6 from if_pos (by omega)]; rfl) | (rw [show NumV x = ⟨1, x, false, [], 0⟩ from if_neg (by omega)]; rfl)

set_option maxRecDepth 100000 in
theorem vText_calls (s : List UInt8) (_ : s.length ≤ maxLen) (H : Heap) : ACall Tryz.prog 23 [.str s] H (fun y H' => y = (TextV s).av ∧ H' = H) := by
  refine ACall.of_body Tryz.func23 rfl Tryz.ntmps23 Tryz.results23 rfl ?_
  refine AWP.seq ?_
  -- region 0
  refine AWP.region ?_
  refine AList.s rfl (step_alloc Tryz.zeroValue24 (zr24)) ?_
  rintro _ _ ⟨b2, hb2, rfl, hH⟩
  obtain rfl := hH.symm
  refine AList.nil ?_
  refine Next.go ?_
  refine AWP.seq ?_
  refine AWP.seq ?_
  -- region 1
  refine AWP.region ?_
  refine AList.p rfl (pure_move (.tmp _ _ rfl)) ?_
  refine AList.p rfl (pure_lenStr Tryz.underlying9 (.tmp _ _ rfl)) ?_
  refine AList.p rfl (pure_gtr (.tmp _ _ rfl) ev_int) ?_
  refine AList.nil ?_
  refine Next.go ?_
  -- c0
  refine AWP.cond (.tmp _ _ rfl) (fun hc5 => ?_) (fun hc5 => ?_)
  · try simp only [decide_eq_true_eq] at hc5
    refine AWP.seq ?_
    -- region 2
    refine AWP.region ?_
    refine AList.s rfl (step_call0 Tryz.call24 (.cons ev_int .nil) (vFail_calls _ _)) ?_
    rintro _ _ ⟨rfl, hH⟩
    obtain rfl := hH.symm
    refine AList.s0 (step_store Tryz.sizeOf24 (.tmp _ _ rfl) (.tmp _ _ rfl) rfl rfl (.inr ⟨_, rfl⟩) (by first | assumption | exact (by assumption : Heap.le _ _).objs _ _ (by assumption) | exact Heap.objs_set_same _ _ _ | exact (Heap.objs_set_ne _ _ (by assumption)).trans (Heap.objs_set_same _ _ _) | exact (Heap.objs_set_ne _ _ (by assumption)).trans ((Heap.objs_set_ne _ _ (by assumption)).trans (Heap.objs_set_same _ _ _)) | exact (Heap.objs_set_ne _ _ (by assumption)).trans (by assumption)) (Nat.le_of_ble_eq_true rfl)) ?_
    rintro _ _ ⟨rfl, hH⟩
    obtain rfl := hH.symm
    try first | rw [Heap.set_set] | rw [Heap.set_under (by assumption)]
    refine AList.nil ?_
    refine Next.go ?_
    refine AWP.frz (t := 2) rfl (by first | exact hb2 | exact Heap.fresh_set hb2 _) ?_
    refine AWP.ret ?_
    refine Next.rt ?_
    -- ret 0
    refine Ret.go (.cons (.cellI _ _ _ _ rfl Tryz.isAgg24 Tryz.sizeOf24 rfl) .nil) _ (Heap.le.refl _) ?_
    refine ⟨?_, rfl⟩
    first | (rw [show TextV s = FailV 3 from if_pos (by omega)]; rfl) | (rw [show TextV s = ⟨3, 0, false, s, 0⟩ from if_neg (by omega)]; rfl)
  · try simp only [decide_eq_false_iff_not, Int.not_lt] at hc5
    refine AWP.skip ?_
    refine Next.go ?_
    refine AWP.seq ?_
    -- region 3
    refine AWP.region ?_
    refine AList.p rfl (pure_move (.tmp _ _ rfl)) ?_
    refine AList.p rfl (pure_build [(0, 1), (1, 1), (2, 1), (3, 1), (4, 1)] Tryz.underlying24 Tryz.zeroValue24 (zr24) rfl (pl24 _ Tryz.underlying24) (.cons ev_int (.inl rfl) (.cons (.tmp _ _ rfl) (.inl rfl) .nil)) rfl) ?_
    refine AList.s0 (step_store Tryz.sizeOf24 (.tmp _ _ rfl) (.tmp _ _ rfl) rfl rfl (.inr ⟨_, rfl⟩) (by first | assumption | exact (by assumption : Heap.le _ _).objs _ _ (by assumption) | exact Heap.objs_set_same _ _ _ | exact (Heap.objs_set_ne _ _ (by assumption)).trans (Heap.objs_set_same _ _ _) | exact (Heap.objs_set_ne _ _ (by assumption)).trans ((Heap.objs_set_ne _ _ (by assumption)).trans (Heap.objs_set_same _ _ _)) | exact (Heap.objs_set_ne _ _ (by assumption)).trans (by assumption)) (Nat.le_of_ble_eq_true rfl)) ?_
    rintro _ _ ⟨rfl, hH⟩
    obtain rfl := hH.symm
    try first | rw [Heap.set_set] | rw [Heap.set_under (by assumption)]
    refine AList.nil ?_
    refine Next.go ?_
    refine AWP.frz (t := 2) rfl (by first | exact hb2 | exact Heap.fresh_set hb2 _) ?_
    refine AWP.ret ?_
    -- ret 1
    refine Ret.go (.cons (.cellI _ _ _ _ rfl Tryz.isAgg24 Tryz.sizeOf24 rfl) .nil) _ (Heap.le.refl _) ?_
    refine ⟨?_, rfl⟩
    first | (rw [show TextV s = FailV 3 from if_pos (by omega)]; rfl) | (rw [show TextV s = ⟨3, 0, false, s, 0⟩ from if_neg (by omega)]; rfl)

set_option maxRecDepth 100000 in
theorem vRight_calls (v : Val) (hb : v.bits < 18446744073709551616) (hs : v.text.length ≤ maxLen) (H : Heap) : ACall Tryz.prog 6 [v.av] H (fun y H' => y = .bool (RightV v) ∧ H' = H) := by
  refine ACall.of_body Tryz.func6 rfl Tryz.ntmps6 Tryz.results6 rfl ?_
  refine AWP.seq ?_
  -- region 0
  refine AWP.region ?_
  refine AList.s rfl (step_boxI (.tmp _ _ rfl) (.inr ⟨_, rfl⟩)) ?_
  rintro _ _ ⟨rfl, hH⟩
  obtain rfl := hH.symm
  refine AList.p rfl (pure_assign ev_bool) ?_
  refine AList.nil ?_
  refine Next.go ?_
  refine AWP.seq ?_
  refine AWP.seq ?_
  -- region 1
  refine AWP.region ?_
  first | (refine AList.p rfl (pure_fieldI Tryz.underlying24 rfl Tryz.sizeOf3 (.tmp _ _ rfl)) ?_) | (refine AList.p rfl (pure_field Tryz.underlying24 rfl Tryz.sizeOf3 (.tmp _ _ rfl)) ?_)
  first | (refine AList.p rfl (pure_load1 Tryz.isAgg3 (.tmp _ _ rfl)) ?_) | (refine AList.s rfl (step_load1 Tryz.isAgg3 (.tmp _ _ rfl) (by first | assumption | exact (by assumption : Heap.le _ _).objs _ _ (by assumption) | exact Heap.objs_set_same _ _ _ | exact (Heap.objs_set_ne _ _ (by assumption)).trans (Heap.objs_set_same _ _ _) | exact (Heap.objs_set_ne _ _ (by assumption)).trans ((Heap.objs_set_ne _ _ (by assumption)).trans (Heap.objs_set_same _ _ _)) | exact (Heap.objs_set_ne _ _ (by assumption)).trans (by assumption)) rfl) ?_; rintro _ _ ⟨rfl, hH⟩; obtain rfl := hH.symm)
  refine AList.nil ?_
  refine Next.go ?_
  refine AWP.block ?_
  refine AWP.seq ?_
  -- region 2
  refine AWP.region ?_
  refine AList.p rfl (pure_eql (.tmp _ _ rfl) ev_int) ?_
  refine AList.p rfl (pure_assign (.tmp _ _ rfl)) ?_
  refine AList.nil ?_
  refine Next.go ?_
  -- c0
  refine AWP.cond (.tmp _ _ rfl) (fun hc5 => ?_) (fun hc5 => ?_)
  · try simp only [decide_eq_true_eq] at hc5
    refine AWP.seq ?_
    -- region 3
    refine AWP.region ?_
    first | (refine AList.p rfl (pure_loadN Tryz.isAgg24 Tryz.sizeOf24 (.tmp _ _ rfl) (Nat.le_of_ble_eq_true rfl)) ?_) | (refine AList.s rfl (step_loadN Tryz.isAgg24 Tryz.sizeOf24 (.tmp _ _ rfl) (by first | assumption | exact (by assumption : Heap.le _ _).objs _ _ (by assumption) | exact Heap.objs_set_same _ _ _ | exact (Heap.objs_set_ne _ _ (by assumption)).trans (Heap.objs_set_same _ _ _) | exact (Heap.objs_set_ne _ _ (by assumption)).trans ((Heap.objs_set_ne _ _ (by assumption)).trans (Heap.objs_set_same _ _ _)) | exact (Heap.objs_set_ne _ _ (by assumption)).trans (by assumption)) (Nat.le_of_ble_eq_true rfl)) ?_; rintro _ _ ⟨rfl, hH⟩; obtain rfl := hH.symm)
    refine AList.p rfl (pure_build [(0, 1), (1, 1), (2, 1), (3, 1), (4, 1)] Tryz.underlying24 Tryz.zeroValue24 (zr24) rfl (pl24 _ Tryz.underlying24) .nil rfl) ?_
    refine AList.p rfl (pure_eqlA Tryz.eqGuardType24 (.tmp _ _ rfl) (.tmp _ _ rfl) (eqVal v (⟨0, 0, false, [], 0⟩))) ?_
    refine AList.p rfl (pure_assign (.tmp _ _ rfl)) ?_
    refine AList.nil ?_
    refine Next.go ?_
    refine AWP.ret ?_
    refine Block.rt ?_
    refine Next.rt ?_
    -- ret 0
    refine Ret.go (.cons (.tmp _ _ rfl) .nil) _ (Heap.le.refl _) ?_
    refine ⟨?_, rfl⟩
    simp only [packed, RightV]
    first | rw [if_pos (by omega)] | rw [if_neg (by omega), if_pos (by omega)] | rw [if_neg (by omega), if_neg (by omega), if_pos (by omega)] | rw [if_neg (by omega), if_neg (by omega), if_neg (by omega), if_pos (by omega)] | rw [if_neg (by omega), if_neg (by omega), if_neg (by omega), if_neg (by omega), if_pos (by omega)] | rw [if_neg (by omega), if_neg (by omega), if_neg (by omega), if_neg (by omega), if_neg (by omega)]
    first | done | rfl | (rw [hg38]; simp)
  · try simp only [decide_eq_false_iff_not] at hc5
    refine AWP.seq ?_
    -- region 4
    refine AWP.region ?_
    refine AList.p rfl (pure_eql (.tmp _ _ rfl) ev_int) ?_
    refine AList.p rfl (pure_assign (.tmp _ _ rfl)) ?_
    refine AList.nil ?_
    refine Next.go ?_
    -- c1
    refine AWP.cond (.tmp _ _ rfl) (fun hc10 => ?_) (fun hc10 => ?_)
    · try simp only [decide_eq_true_eq] at hc10
      refine AWP.seq ?_
      -- region 5
      refine AWP.draw [(0, true), (1, true), (2, true), (3, true), (4, true), (5, true)] rfl (by decide +kernel) ?_
      first | (refine APlan.p rfl rfl (pure_loadN Tryz.isAgg24 Tryz.sizeOf24 (.tmp _ _ rfl) (Nat.le_of_ble_eq_true rfl)) ?_) | (refine APlan.f rfl rfl (fun _ => step_loadN Tryz.isAgg24 Tryz.sizeOf24 (.tmp _ _ rfl) (by first | assumption | exact (by assumption : Heap.le _ _).objs _ _ (by assumption) | exact Heap.objs_set_same _ _ _ | exact (Heap.objs_set_ne _ _ (by assumption)).trans (Heap.objs_set_same _ _ _) | exact (Heap.objs_set_ne _ _ (by assumption)).trans ((Heap.objs_set_ne _ _ (by assumption)).trans (Heap.objs_set_same _ _ _)) | exact (Heap.objs_set_ne _ _ (by assumption)).trans (by assumption)) (Nat.le_of_ble_eq_true rfl)) ?_)
      first | (refine APlan.p rfl rfl (pure_fieldI Tryz.underlying24 rfl Tryz.sizeOf22 (.tmp _ _ rfl)) ?_) | (refine APlan.p rfl rfl (pure_field Tryz.underlying24 rfl Tryz.sizeOf22 (.tmp _ _ rfl)) ?_)
      first | (refine APlan.p rfl rfl (pure_load1 Tryz.isAgg22 (.tmp _ _ rfl)) ?_) | (refine APlan.f rfl rfl (fun _ => step_load1 Tryz.isAgg22 (.tmp _ _ rfl) (by first | assumption | exact (by assumption : Heap.le _ _).objs _ _ (by assumption) | exact Heap.objs_set_same _ _ _ | exact (Heap.objs_set_ne _ _ (by assumption)).trans (Heap.objs_set_same _ _ _) | exact (Heap.objs_set_ne _ _ (by assumption)).trans ((Heap.objs_set_ne _ _ (by assumption)).trans (Heap.objs_set_same _ _ _)) | exact (Heap.objs_set_ne _ _ (by assumption)).trans (by assumption)) rfl) ?_)
      refine APlan.f rfl rfl (fun _ => step_call0 Tryz.call21 (.cons (.tmp _ _ rfl) .nil) (vNumber_calls _ (by first | assumption | omega) _)) ?_
      refine APlan.p rfl rfl (pure_eqlA Tryz.eqGuardType24 (.tmp _ _ rfl) (.tmp _ _ rfl) (eqVal v (NumV v.bits))) ?_
      refine APlan.p rfl rfl (pure_assign (.tmp _ _ rfl)) ?_
      refine APlan.nil ?_
      refine Next.go ?_
      refine AWP.ret ?_
      refine Block.rt ?_
      refine Next.rt ?_
      -- ret 1
      refine Ret.go (.cons (.tmp _ _ rfl) .nil) _ (Heap.le.refl _) ?_
      refine ⟨?_, rfl⟩
      simp only [packed, RightV]
      first | rw [if_pos (by omega)] | rw [if_neg (by omega), if_pos (by omega)] | rw [if_neg (by omega), if_neg (by omega), if_pos (by omega)] | rw [if_neg (by omega), if_neg (by omega), if_neg (by omega), if_pos (by omega)] | rw [if_neg (by omega), if_neg (by omega), if_neg (by omega), if_neg (by omega), if_pos (by omega)] | rw [if_neg (by omega), if_neg (by omega), if_neg (by omega), if_neg (by omega), if_neg (by omega)]
      first | done | rfl | (rw [hg38]; simp)
    · try simp only [decide_eq_false_iff_not] at hc10
      refine AWP.seq ?_
      -- region 6
      refine AWP.region ?_
      refine AList.p rfl (pure_eql (.tmp _ _ rfl) ev_int) ?_
      refine AList.p rfl (pure_assign (.tmp _ _ rfl)) ?_
      refine AList.nil ?_
      refine Next.go ?_
      -- c2
      refine AWP.cond (.tmp _ _ rfl) (fun hc17 => ?_) (fun hc17 => ?_)
      · try simp only [decide_eq_true_eq] at hc17
        refine AWP.seq ?_
        -- region 7
        refine AWP.draw [(0, true), (1, true), (2, true), (3, true), (4, true), (5, true)] rfl (by decide +kernel) ?_
        first | (refine APlan.p rfl rfl (pure_loadN Tryz.isAgg24 Tryz.sizeOf24 (.tmp _ _ rfl) (Nat.le_of_ble_eq_true rfl)) ?_) | (refine APlan.f rfl rfl (fun _ => step_loadN Tryz.isAgg24 Tryz.sizeOf24 (.tmp _ _ rfl) (by first | assumption | exact (by assumption : Heap.le _ _).objs _ _ (by assumption) | exact Heap.objs_set_same _ _ _ | exact (Heap.objs_set_ne _ _ (by assumption)).trans (Heap.objs_set_same _ _ _) | exact (Heap.objs_set_ne _ _ (by assumption)).trans ((Heap.objs_set_ne _ _ (by assumption)).trans (Heap.objs_set_same _ _ _)) | exact (Heap.objs_set_ne _ _ (by assumption)).trans (by assumption)) (Nat.le_of_ble_eq_true rfl)) ?_)
        first | (refine APlan.p rfl rfl (pure_fieldI Tryz.underlying24 rfl Tryz.sizeOf4 (.tmp _ _ rfl)) ?_) | (refine APlan.p rfl rfl (pure_field Tryz.underlying24 rfl Tryz.sizeOf4 (.tmp _ _ rfl)) ?_)
        first | (refine APlan.p rfl rfl (pure_load1 Tryz.isAgg4 (.tmp _ _ rfl)) ?_) | (refine APlan.f rfl rfl (fun _ => step_load1 Tryz.isAgg4 (.tmp _ _ rfl) (by first | assumption | exact (by assumption : Heap.le _ _).objs _ _ (by assumption) | exact Heap.objs_set_same _ _ _ | exact (Heap.objs_set_ne _ _ (by assumption)).trans (Heap.objs_set_same _ _ _) | exact (Heap.objs_set_ne _ _ (by assumption)).trans ((Heap.objs_set_ne _ _ (by assumption)).trans (Heap.objs_set_same _ _ _)) | exact (Heap.objs_set_ne _ _ (by assumption)).trans (by assumption)) rfl) ?_)
        refine APlan.f rfl rfl (fun _ => step_call0 Tryz.call22 (.cons (.tmp _ _ rfl) .nil) (vBool_calls _ _)) ?_
        refine APlan.p rfl rfl (pure_eqlA Tryz.eqGuardType24 (.tmp _ _ rfl) (.tmp _ _ rfl) (eqVal v (BoolV v.is))) ?_
        refine APlan.p rfl rfl (pure_assign (.tmp _ _ rfl)) ?_
        refine APlan.nil ?_
        refine Next.go ?_
        refine AWP.ret ?_
        refine Block.rt ?_
        refine Next.rt ?_
        -- ret 2
        refine Ret.go (.cons (.tmp _ _ rfl) .nil) _ (Heap.le.refl _) ?_
        refine ⟨?_, rfl⟩
        simp only [packed, RightV]
        first | rw [if_pos (by omega)] | rw [if_neg (by omega), if_pos (by omega)] | rw [if_neg (by omega), if_neg (by omega), if_pos (by omega)] | rw [if_neg (by omega), if_neg (by omega), if_neg (by omega), if_pos (by omega)] | rw [if_neg (by omega), if_neg (by omega), if_neg (by omega), if_neg (by omega), if_pos (by omega)] | rw [if_neg (by omega), if_neg (by omega), if_neg (by omega), if_neg (by omega), if_neg (by omega)]
        first | done | rfl | (rw [hg38]; simp)
      · try simp only [decide_eq_false_iff_not] at hc17
        refine AWP.seq ?_
        -- region 8
        refine AWP.region ?_
        refine AList.p rfl (pure_eql (.tmp _ _ rfl) ev_int) ?_
        refine AList.p rfl (pure_assign (.tmp _ _ rfl)) ?_
        refine AList.nil ?_
        refine Next.go ?_
        -- c3
        refine AWP.cond (.tmp _ _ rfl) (fun hc24 => ?_) (fun hc24 => ?_)
        · try simp only [decide_eq_true_eq] at hc24
          refine AWP.seq ?_
          -- region 9
          refine AWP.draw [(0, true), (1, true), (2, true), (3, true), (4, true), (5, true)] rfl (by decide +kernel) ?_
          first | (refine APlan.p rfl rfl (pure_loadN Tryz.isAgg24 Tryz.sizeOf24 (.tmp _ _ rfl) (Nat.le_of_ble_eq_true rfl)) ?_) | (refine APlan.f rfl rfl (fun _ => step_loadN Tryz.isAgg24 Tryz.sizeOf24 (.tmp _ _ rfl) (by first | assumption | exact (by assumption : Heap.le _ _).objs _ _ (by assumption) | exact Heap.objs_set_same _ _ _ | exact (Heap.objs_set_ne _ _ (by assumption)).trans (Heap.objs_set_same _ _ _) | exact (Heap.objs_set_ne _ _ (by assumption)).trans ((Heap.objs_set_ne _ _ (by assumption)).trans (Heap.objs_set_same _ _ _)) | exact (Heap.objs_set_ne _ _ (by assumption)).trans (by assumption)) (Nat.le_of_ble_eq_true rfl)) ?_)
          first | (refine APlan.p rfl rfl (pure_fieldI Tryz.underlying24 rfl Tryz.sizeOf9 (.tmp _ _ rfl)) ?_) | (refine APlan.p rfl rfl (pure_field Tryz.underlying24 rfl Tryz.sizeOf9 (.tmp _ _ rfl)) ?_)
          first | (refine APlan.p rfl rfl (pure_load1 Tryz.isAgg9 (.tmp _ _ rfl)) ?_) | (refine APlan.f rfl rfl (fun _ => step_load1 Tryz.isAgg9 (.tmp _ _ rfl) (by first | assumption | exact (by assumption : Heap.le _ _).objs _ _ (by assumption) | exact Heap.objs_set_same _ _ _ | exact (Heap.objs_set_ne _ _ (by assumption)).trans (Heap.objs_set_same _ _ _) | exact (Heap.objs_set_ne _ _ (by assumption)).trans ((Heap.objs_set_ne _ _ (by assumption)).trans (Heap.objs_set_same _ _ _)) | exact (Heap.objs_set_ne _ _ (by assumption)).trans (by assumption)) rfl) ?_)
          refine APlan.f rfl rfl (fun _ => step_call0 Tryz.call23 (.cons (.tmp _ _ rfl) .nil) (vText_calls _ (by assumption) _)) ?_
          refine APlan.p rfl rfl (pure_eqlA Tryz.eqGuardType24 (.tmp _ _ rfl) (.tmp _ _ rfl) (eqVal v (TextV v.text))) ?_
          refine APlan.p rfl rfl (pure_assign (.tmp _ _ rfl)) ?_
          refine APlan.nil ?_
          refine Next.go ?_
          refine AWP.ret ?_
          refine Block.rt ?_
          refine Next.rt ?_
          -- ret 3
          refine Ret.go (.cons (.tmp _ _ rfl) .nil) _ (Heap.le.refl _) ?_
          refine ⟨?_, rfl⟩
          simp only [packed, RightV]
          first | rw [if_pos (by omega)] | rw [if_neg (by omega), if_pos (by omega)] | rw [if_neg (by omega), if_neg (by omega), if_pos (by omega)] | rw [if_neg (by omega), if_neg (by omega), if_neg (by omega), if_pos (by omega)] | rw [if_neg (by omega), if_neg (by omega), if_neg (by omega), if_neg (by omega), if_pos (by omega)] | rw [if_neg (by omega), if_neg (by omega), if_neg (by omega), if_neg (by omega), if_neg (by omega)]
          first | done | rfl | (rw [hg38]; simp)
        · try simp only [decide_eq_false_iff_not] at hc24
          refine AWP.seq ?_
          -- region 10
          refine AWP.region ?_
          refine AList.p rfl (pure_eql (.tmp _ _ rfl) ev_int) ?_
          refine AList.p rfl (pure_assign (.tmp _ _ rfl)) ?_
          refine AList.nil ?_
          refine Next.go ?_
          -- c4
          refine AWP.cond (.tmp _ _ rfl) (fun hc31 => ?_) (fun hc31 => ?_)
          · try simp only [decide_eq_true_eq] at hc31
            refine AWP.seq ?_
            -- region 11
            refine AWP.draw [(0, true), (1, true), (2, true), (3, true), (4, true), (5, true), (6, true), (7, true), (8, true), (9, true), (10, true), (11, true)] rfl (by decide +kernel) ?_
            first | (refine APlan.p rfl rfl (pure_loadN Tryz.isAgg24 Tryz.sizeOf24 (.tmp _ _ rfl) (Nat.le_of_ble_eq_true rfl)) ?_) | (refine APlan.f rfl rfl (fun _ => step_loadN Tryz.isAgg24 Tryz.sizeOf24 (.tmp _ _ rfl) (by first | assumption | exact (by assumption : Heap.le _ _).objs _ _ (by assumption) | exact Heap.objs_set_same _ _ _ | exact (Heap.objs_set_ne _ _ (by assumption)).trans (Heap.objs_set_same _ _ _) | exact (Heap.objs_set_ne _ _ (by assumption)).trans ((Heap.objs_set_ne _ _ (by assumption)).trans (Heap.objs_set_same _ _ _)) | exact (Heap.objs_set_ne _ _ (by assumption)).trans (by assumption)) (Nat.le_of_ble_eq_true rfl)) ?_)
            first | (refine APlan.p rfl rfl (pure_fieldI Tryz.underlying24 rfl Tryz.sizeOf3 (.tmp _ _ rfl)) ?_) | (refine APlan.p rfl rfl (pure_field Tryz.underlying24 rfl Tryz.sizeOf3 (.tmp _ _ rfl)) ?_)
            first | (refine APlan.p rfl rfl (pure_load1 Tryz.isAgg3 (.tmp _ _ rfl)) ?_) | (refine APlan.f rfl rfl (fun _ => step_load1 Tryz.isAgg3 (.tmp _ _ rfl) (by first | assumption | exact (by assumption : Heap.le _ _).objs _ _ (by assumption) | exact Heap.objs_set_same _ _ _ | exact (Heap.objs_set_ne _ _ (by assumption)).trans (Heap.objs_set_same _ _ _) | exact (Heap.objs_set_ne _ _ (by assumption)).trans ((Heap.objs_set_ne _ _ (by assumption)).trans (Heap.objs_set_same _ _ _)) | exact (Heap.objs_set_ne _ _ (by assumption)).trans (by assumption)) rfl) ?_)
            refine APlan.f rfl rfl (fun _ => step_call0 Tryz.call24 (.cons (.tmp _ _ rfl) .nil) (vFail_calls _ _)) ?_
            refine APlan.p rfl rfl (pure_eqlA Tryz.eqGuardType24 (.tmp _ _ rfl) (.tmp _ _ rfl) (eqVal v (FailV v.fail))) ?_
            refine APlan.p rfl rfl (pure_move (.tmp _ _ rfl)) ?_
            -- the guard in slot 38
            refine bool_casesP (t := 38) rfl (fun hg38 => ?_) (fun hg38 => ?_)
            · first | (refine APlan.gp rfl rfl rfl rfl (by first | rfl | assumption) (pure_fieldI Tryz.underlying24 rfl Tryz.sizeOf3 (.tmp _ _ rfl)) ?_) | (refine APlan.gp rfl rfl rfl rfl (by first | rfl | assumption) (pure_field Tryz.underlying24 rfl Tryz.sizeOf3 (.tmp _ _ rfl)) ?_)
              first | (refine APlan.gp rfl rfl rfl rfl (by first | rfl | assumption) (pure_load1 Tryz.isAgg3 (.tmp _ _ rfl)) ?_) | (refine APlan.gf rfl rfl rfl rfl (by first | rfl | assumption) (fun _ => step_load1 Tryz.isAgg3 (.tmp _ _ rfl) (by first | assumption | exact (by assumption : Heap.le _ _).objs _ _ (by assumption) | exact Heap.objs_set_same _ _ _ | exact (Heap.objs_set_ne _ _ (by assumption)).trans (Heap.objs_set_same _ _ _) | exact (Heap.objs_set_ne _ _ (by assumption)).trans ((Heap.objs_set_ne _ _ (by assumption)).trans (Heap.objs_set_same _ _ _)) | exact (Heap.objs_set_ne _ _ (by assumption)).trans (by assumption)) rfl) ?_)
              refine APlan.gf rfl rfl rfl rfl (by first | rfl | assumption) (fun _ => step_call0 Tryz.call25 (.cons (.tmp _ _ rfl) .nil) (FailName_calls _ _)) ?_
              refine APlan.gp rfl rfl rfl rfl (by first | rfl | assumption) (pure_neqStr (.tmp _ _ rfl) (ev_str rfl)) ?_
              refine APlan.p rfl rfl (pure_pickT (.tmp _ _ rfl) (by first | rfl | assumption) (.tmp _ _ rfl)) ?_
              refine APlan.p rfl rfl (pure_assign (.tmp _ _ rfl)) ?_
              refine APlan.nil ?_
              refine Next.go ?_
              refine AWP.ret ?_
              refine Block.rt ?_
              refine Next.rt ?_
              -- ret 4
              refine Ret.go (.cons (.tmp _ _ rfl) .nil) _ (Heap.le.refl _) ?_
              refine ⟨?_, rfl⟩
              simp only [packed, RightV]
              first | rw [if_pos (by omega)] | rw [if_neg (by omega), if_pos (by omega)] | rw [if_neg (by omega), if_neg (by omega), if_pos (by omega)] | rw [if_neg (by omega), if_neg (by omega), if_neg (by omega), if_pos (by omega)] | rw [if_neg (by omega), if_neg (by omega), if_neg (by omega), if_neg (by omega), if_pos (by omega)] | rw [if_neg (by omega), if_neg (by omega), if_neg (by omega), if_neg (by omega), if_neg (by omega)]
              first | done | rfl | (rw [hg38]; simp)
            · refine APlan.gn rfl rfl rfl rfl (by first | rfl | assumption) ?_
              refine APlan.gn rfl rfl rfl rfl (by first | rfl | assumption) ?_
              refine APlan.gn rfl rfl rfl rfl (by first | rfl | assumption) ?_
              refine APlan.gn rfl rfl rfl rfl (by first | rfl | assumption) ?_
              refine APlan.p rfl rfl (pure_pickF (.tmp _ _ rfl) (by first | rfl | assumption) ev_bool) ?_
              refine APlan.p rfl rfl (pure_assign (.tmp _ _ rfl)) ?_
              refine APlan.nil ?_
              refine Next.go ?_
              refine AWP.ret ?_
              refine Block.rt ?_
              refine Next.rt ?_
              -- ret 5
              refine Ret.go (.cons (.tmp _ _ rfl) .nil) _ (Heap.le.refl _) ?_
              refine ⟨?_, rfl⟩
              simp only [packed, RightV]
              first | rw [if_pos (by omega)] | rw [if_neg (by omega), if_pos (by omega)] | rw [if_neg (by omega), if_neg (by omega), if_pos (by omega)] | rw [if_neg (by omega), if_neg (by omega), if_neg (by omega), if_pos (by omega)] | rw [if_neg (by omega), if_neg (by omega), if_neg (by omega), if_neg (by omega), if_pos (by omega)] | rw [if_neg (by omega), if_neg (by omega), if_neg (by omega), if_neg (by omega), if_neg (by omega)]
              first | done | rfl | (rw [hg38]; simp)
          · try simp only [decide_eq_false_iff_not] at hc31
            refine AWP.skip ?_
            refine Block.go ?_
            refine Next.go ?_
            refine AWP.seq ?_
            -- region 12
            refine AWP.region ?_
            refine AList.p rfl (pure_assign ev_bool) ?_
            refine AList.nil ?_
            refine Next.go ?_
            refine AWP.ret ?_
            -- ret 6
            refine Ret.go (.cons (.tmp _ _ rfl) .nil) _ (Heap.le.refl _) ?_
            refine ⟨?_, rfl⟩
            simp only [packed, RightV]
            first | rw [if_pos (by omega)] | rw [if_neg (by omega), if_pos (by omega)] | rw [if_neg (by omega), if_neg (by omega), if_pos (by omega)] | rw [if_neg (by omega), if_neg (by omega), if_neg (by omega), if_pos (by omega)] | rw [if_neg (by omega), if_neg (by omega), if_neg (by omega), if_neg (by omega), if_pos (by omega)] | rw [if_neg (by omega), if_neg (by omega), if_neg (by omega), if_neg (by omega), if_neg (by omega)]
            first | done | rfl | (rw [hg38]; simp)

end Go.Proofs.YtifoddpbmlajfaaGreatDoor

namespace Go.Proofs.YtifoddpbmlajfaaGreatDoor
open Go Go.RowKit

theorem name_some (n : Int) : FailName n ≠ [] ↔ 1 ≤ n ∧ n ≤ 8 := by
  constructor
  · intro h
    by_cases q : 1 ≤ n ∧ n ≤ 8
    · exact q
    · exact absurd (by unfold FailName; rw [if_neg (by omega), if_neg (by omega), if_neg (by omega), if_neg (by omega), if_neg (by omega), if_neg (by omega), if_neg (by omega), if_neg (by omega)]) h
  · rintro ⟨h1, h2⟩
    have : n = 1 ∨ n = 2 ∨ n = 3 ∨ n = 4 ∨ n = 5 ∨ n = 6 ∨ n = 7 ∨ n = 8 := by omega
    rcases this with rfl | rfl | rfl | rfl | rfl | rfl | rfl | rfl <;> decide
def okR (v : Val) : Bool := if v.kind = 0 then true else if v.kind = 1 then decide (kindN v.bits < 3) else if v.kind = 2 then true else if v.kind = 3 then decide (v.text.length ≤ 1000) else if v.kind = 4 then (decide (1 ≤ v.fail) && decide (v.fail ≤ 8)) else false
def bareR (v : Val) : Val := if v.kind = 1 then ⟨v.kind, v.bits, false, [], 0⟩ else if v.kind = 2 then ⟨v.kind, 0, v.is, [], 0⟩ else if v.kind = 3 then ⟨v.kind, 0, false, v.text, 0⟩ else if v.kind = 4 then ⟨v.kind, 0, false, [], v.fail⟩ else zeroV v.kind
theorem right_ref (v : Val) : (okR v && decide (v = bareR v)) = RightV v := by
  obtain ⟨k, b, i, s, f⟩ := v
  unfold RightV okR bareR
  simp only
  by_cases h0 : k = 0
  · subst h0; simp [zeroV]
  rw [if_neg h0, if_neg h0]
  by_cases h1 : k = 1
  · subst h1
    rw [if_pos rfl, if_pos rfl, if_pos rfl]
    unfold NumV FailV
    by_cases h : 3 ≤ kindN b
    · rw [if_pos h, decide_eq_false (show ¬ kindN b < 3 by omega)]; simp
    · rw [if_neg h, decide_eq_true (show kindN b < 3 by omega)]; simp
  rw [if_neg h1, if_neg h1, if_neg h1]
  by_cases h2 : k = 2
  · subst h2; simp [BoolV]
  rw [if_neg h2, if_neg h2, if_neg h2]
  by_cases h3 : k = 3
  · subst h3
    rw [if_pos rfl, if_pos rfl, if_pos rfl]
    unfold TextV FailV
    by_cases h : 1000 < s.length
    · rw [if_pos h, decide_eq_false (show ¬ s.length ≤ 1000 by omega)]; simp
    · rw [if_neg h, decide_eq_true (show s.length ≤ 1000 by omega)]; simp
  rw [if_neg h3, if_neg h3, if_neg h3]
  by_cases h4 : k = 4
  · subst h4
    have e : decide (FailName f ≠ []) = (decide (1 ≤ f) && decide (f ≤ 8)) := by
      rw [← Bool.decide_and, decide_eq_decide]; exact name_some f
    rw [if_pos rfl, if_pos rfl, if_pos rfl, e, Bool.and_comm]; rfl
  rw [if_neg h4, Bool.false_and, if_neg h4]

set_option maxRecDepth 100000 in
theorem rRightV_calls (v : Val) (hb : v.bits < 18446744073709551616) (H : Heap) : ACall Tryz.prog 31 [v.av] H (fun y H' => y = .bool (RightV v) ∧ H' = H) := by
  refine ACall.of_body Tryz.func31 rfl Tryz.ntmps31 Tryz.results31 rfl ?_
  refine AWP.seq ?_
  -- region 0
  refine AWP.region ?_
  refine AList.s rfl (step_boxI (.tmp _ _ rfl) (.inr ⟨_, rfl⟩)) ?_
  rintro _ _ ⟨rfl, hH⟩
  obtain rfl := hH.symm
  refine AList.p rfl (pure_assign ev_bool) ?_
  refine AList.nil ?_
  refine Next.go ?_
  refine AWP.seq ?_
  -- region 1
  refine AWP.region ?_
  first | (refine AList.p rfl (pure_fieldI Tryz.underlying24 rfl Tryz.sizeOf3 (.tmp _ _ rfl)) ?_) | (refine AList.p rfl (pure_field Tryz.underlying24 rfl Tryz.sizeOf3 (.tmp _ _ rfl)) ?_)
  first | (refine AList.p rfl (pure_load1 Tryz.isAgg3 (.tmp _ _ rfl)) ?_) | (refine AList.s rfl (step_load1 Tryz.isAgg3 (.tmp _ _ rfl) (by first | assumption | exact (by assumption : Heap.le _ _).objs _ _ (by assumption) | exact Heap.objs_set_same _ _ _ | exact (Heap.objs_set_ne _ _ (by assumption)).trans (Heap.objs_set_same _ _ _) | exact (Heap.objs_set_ne _ _ (by assumption)).trans ((Heap.objs_set_ne _ _ (by assumption)).trans (Heap.objs_set_same _ _ _)) | exact (Heap.objs_set_ne _ _ (by assumption)).trans (by assumption)) rfl) ?_; rintro _ _ ⟨rfl, hH⟩; obtain rfl := hH.symm)
  refine AList.p rfl (pure_build [(0, 1), (1, 1), (2, 1), (3, 1), (4, 1)] Tryz.underlying24 Tryz.zeroValue24 (zr24) rfl (pl24 _ Tryz.underlying24) (.cons (.tmp _ _ rfl) (.inl rfl) .nil) rfl) ?_
  refine AList.s rfl (step_alloc Tryz.zeroValue24 (zr24)) ?_
  rintro _ _ ⟨b3, hb3, rfl, hH⟩
  obtain rfl := hH.symm
  refine AList.s0 (step_store Tryz.sizeOf24 (.tmp _ _ rfl) (.tmp _ _ rfl) rfl rfl (.inr ⟨_, rfl⟩) (by first | assumption | exact (by assumption : Heap.le _ _).objs _ _ (by assumption) | exact Heap.objs_set_same _ _ _ | exact (Heap.objs_set_ne _ _ (by assumption)).trans (Heap.objs_set_same _ _ _) | exact (Heap.objs_set_ne _ _ (by assumption)).trans ((Heap.objs_set_ne _ _ (by assumption)).trans (Heap.objs_set_same _ _ _)) | exact (Heap.objs_set_ne _ _ (by assumption)).trans (by assumption)) (Nat.le_of_ble_eq_true rfl)) ?_
  rintro _ _ ⟨rfl, hH⟩
  obtain rfl := hH.symm
  try first | rw [Heap.set_set] | rw [Heap.set_under (by assumption)]
  refine AList.nil ?_
  refine Next.go ?_
  refine AWP.seq ?_
  -- region 2
  refine AWP.region ?_
  first | (refine AList.p rfl (pure_fieldI Tryz.underlying24 rfl Tryz.sizeOf3 (.tmp _ _ rfl)) ?_) | (refine AList.p rfl (pure_field Tryz.underlying24 rfl Tryz.sizeOf3 (.tmp _ _ rfl)) ?_)
  first | (refine AList.p rfl (pure_load1 Tryz.isAgg3 (.tmp _ _ rfl)) ?_) | (refine AList.s rfl (step_load1 Tryz.isAgg3 (.tmp _ _ rfl) (by first | assumption | exact (by assumption : Heap.le _ _).objs _ _ (by assumption) | exact Heap.objs_set_same _ _ _ | exact (Heap.objs_set_ne _ _ (by assumption)).trans (Heap.objs_set_same _ _ _) | exact (Heap.objs_set_ne _ _ (by assumption)).trans ((Heap.objs_set_ne _ _ (by assumption)).trans (Heap.objs_set_same _ _ _)) | exact (Heap.objs_set_ne _ _ (by assumption)).trans (by assumption)) rfl) ?_; rintro _ _ ⟨rfl, hH⟩; obtain rfl := hH.symm)
  refine AList.p rfl (pure_eql (.tmp _ _ rfl) ev_int) ?_
  refine AList.p rfl (pure_assign (.tmp _ _ rfl)) ?_
  refine AList.nil ?_
  refine Next.go ?_
  refine AWP.meet (fun env H2 => env = [(1, .iptr v.cs), (2, .bool false), (3, .ptr (some ⟨b3, 0, none⟩)), (4, .bool (okR v))] ∧ H2 = H.set b3 (.box 24 (bareR v).cs)) ?_ ?_
  · refine AWP.seq ?_
    -- region 3
    refine AWP.region ?_
    first | (refine AList.p rfl (pure_fieldI Tryz.underlying24 rfl Tryz.sizeOf3 (.tmp _ _ rfl)) ?_) | (refine AList.p rfl (pure_field Tryz.underlying24 rfl Tryz.sizeOf3 (.tmp _ _ rfl)) ?_)
    first | (refine AList.p rfl (pure_load1 Tryz.isAgg3 (.tmp _ _ rfl)) ?_) | (refine AList.s rfl (step_load1 Tryz.isAgg3 (.tmp _ _ rfl) (by first | assumption | exact (by assumption : Heap.le _ _).objs _ _ (by assumption) | exact Heap.objs_set_same _ _ _ | exact (Heap.objs_set_ne _ _ (by assumption)).trans (Heap.objs_set_same _ _ _) | exact (Heap.objs_set_ne _ _ (by assumption)).trans ((Heap.objs_set_ne _ _ (by assumption)).trans (Heap.objs_set_same _ _ _)) | exact (Heap.objs_set_ne _ _ (by assumption)).trans (by assumption)) rfl) ?_; rintro _ _ ⟨rfl, hH⟩; obtain rfl := hH.symm)
    refine AList.nil ?_
    refine Next.go ?_
    refine AWP.block ?_
    refine AWP.seq ?_
    -- region 4
    refine AWP.region ?_
    refine AList.p rfl (pure_eql (.tmp _ _ rfl) ev_int) ?_
    refine AList.p rfl (pure_assign (.tmp _ _ rfl)) ?_
    refine AList.nil ?_
    refine Next.go ?_
    -- c0
    refine AWP.cond (.tmp _ _ rfl) (fun hc13 => ?_) (fun hc13 => ?_)
    · try simp only [decide_eq_true_eq] at hc13
      refine AWP.seq ?_
      -- region 5
      refine AWP.region ?_
      first | (refine AList.p rfl (pure_fieldI Tryz.underlying24 rfl Tryz.sizeOf22 (.tmp _ _ rfl)) ?_) | (refine AList.p rfl (pure_field Tryz.underlying24 rfl Tryz.sizeOf22 (.tmp _ _ rfl)) ?_)
      first | (refine AList.p rfl (pure_load1 Tryz.isAgg22 (.tmp _ _ rfl)) ?_) | (refine AList.s rfl (step_load1 Tryz.isAgg22 (.tmp _ _ rfl) (by first | assumption | exact (by assumption : Heap.le _ _).objs _ _ (by assumption) | exact Heap.objs_set_same _ _ _ | exact (Heap.objs_set_ne _ _ (by assumption)).trans (Heap.objs_set_same _ _ _) | exact (Heap.objs_set_ne _ _ (by assumption)).trans ((Heap.objs_set_ne _ _ (by assumption)).trans (Heap.objs_set_same _ _ _)) | exact (Heap.objs_set_ne _ _ (by assumption)).trans (by assumption)) rfl) ?_; rintro _ _ ⟨rfl, hH⟩; obtain rfl := hH.symm)
      first | (refine AList.p rfl (pure_fieldI Tryz.underlying24 rfl Tryz.sizeOf22 (.tmp _ _ rfl)) ?_) | (refine AList.p rfl (pure_field Tryz.underlying24 rfl Tryz.sizeOf22 (.tmp _ _ rfl)) ?_)
      refine AList.s0 (step_store Tryz.sizeOf22 (.tmp _ _ rfl) (.tmp _ _ rfl) rfl rfl (.inl rfl) (by first | assumption | exact (by assumption : Heap.le _ _).objs _ _ (by assumption) | exact Heap.objs_set_same _ _ _ | exact (Heap.objs_set_ne _ _ (by assumption)).trans (Heap.objs_set_same _ _ _) | exact (Heap.objs_set_ne _ _ (by assumption)).trans ((Heap.objs_set_ne _ _ (by assumption)).trans (Heap.objs_set_same _ _ _)) | exact (Heap.objs_set_ne _ _ (by assumption)).trans (by assumption)) (Nat.le_of_ble_eq_true rfl)) ?_
      rintro _ _ ⟨rfl, hH⟩
      obtain rfl := hH.symm
      try first | rw [Heap.set_set] | rw [Heap.set_under (by assumption)]
      refine AList.nil ?_
      refine Next.go ?_
      -- region 6
      refine AWP.region ?_
      first | (refine AList.p rfl (pure_fieldI Tryz.underlying24 rfl Tryz.sizeOf22 (.tmp _ _ rfl)) ?_) | (refine AList.p rfl (pure_field Tryz.underlying24 rfl Tryz.sizeOf22 (.tmp _ _ rfl)) ?_)
      first | (refine AList.p rfl (pure_load1 Tryz.isAgg22 (.tmp _ _ rfl)) ?_) | (refine AList.s rfl (step_load1 Tryz.isAgg22 (.tmp _ _ rfl) (by first | assumption | exact (by assumption : Heap.le _ _).objs _ _ (by assumption) | exact Heap.objs_set_same _ _ _ | exact (Heap.objs_set_ne _ _ (by assumption)).trans (Heap.objs_set_same _ _ _) | exact (Heap.objs_set_ne _ _ (by assumption)).trans ((Heap.objs_set_ne _ _ (by assumption)).trans (Heap.objs_set_same _ _ _)) | exact (Heap.objs_set_ne _ _ (by assumption)).trans (by assumption)) rfl) ?_; rintro _ _ ⟨rfl, hH⟩; obtain rfl := hH.symm)
      refine AList.s rfl (step_call0 Tryz.call38 (.cons (.tmp _ _ rfl) .nil) (rKind_calls _ (by assumption) _)) ?_
      rintro _ _ ⟨rfl, hH⟩
      obtain rfl := hH.symm
      refine AList.p rfl (pure_lss (.tmp _ _ rfl) ev_int) ?_
      refine AList.p rfl (pure_assign (.tmp _ _ rfl)) ?_
      refine AList.nil ?_
      refine Block.go ?_
      refine Next.go ?_
      refine Meets.mk (M := fun env H2 => env = [(1, .iptr v.cs), (2, .bool false), (3, .ptr (some ⟨b3, 0, none⟩)), (4, .bool (okR v))] ∧ H2 = H.set b3 (.box 24 (bareR v).cs)) ⟨rfl, rfl⟩ (sub_c rfl (sub_c rfl (sub_c rfl (sub_e rfl (by first | (unfold okR; rw [if_neg (by omega), if_pos (by omega)]; exact congrArg AV.bool (decide_eq_decide.2 (by omega))) | (unfold okR; rw [if_neg (by omega), if_neg (by omega), if_pos (by omega)]; done) | (unfold okR; rw [if_neg (by omega), if_neg (by omega), if_neg (by omega), if_pos (by omega)]; exact congrArg AV.bool (decide_eq_decide.2 (by omega))) | (unfold okR; rw [if_neg (by omega), if_neg (by omega), if_neg (by omega), if_neg (by omega), if_pos (by omega), show decide (1 ≤ v.fail) = _ from hg44]; rfl) | (by_cases h0 : v.kind = 0; unfold okR; rw [if_pos h0, decide_eq_true h0]; rw [decide_eq_false h0]; unfold okR; rw [if_neg h0, if_neg (by omega), if_neg (by omega), if_neg (by omega), if_neg (by omega)])) sub_n)))) (by unfold bareR; first | (rw [if_pos (by omega)]; exact Heap.le.refl _) | (rw [if_neg (by omega), if_pos (by omega)]; exact Heap.le.refl _) | (rw [if_neg (by omega), if_neg (by omega), if_pos (by omega)]; exact Heap.le.refl _) | (rw [if_neg (by omega), if_neg (by omega), if_neg (by omega), if_pos (by omega)]; exact Heap.le.refl _) | (rw [if_neg (by omega), if_neg (by omega), if_neg (by omega), if_neg (by omega)]; exact Heap.le.refl _))
    · try simp only [decide_eq_false_iff_not] at hc13
      refine AWP.seq ?_
      -- region 7
      refine AWP.region ?_
      refine AList.p rfl (pure_eql (.tmp _ _ rfl) ev_int) ?_
      refine AList.p rfl (pure_assign (.tmp _ _ rfl)) ?_
      refine AList.nil ?_
      refine Next.go ?_
      -- c1
      refine AWP.cond (.tmp _ _ rfl) (fun hc22 => ?_) (fun hc22 => ?_)
      · try simp only [decide_eq_true_eq] at hc22
        refine AWP.seq ?_
        -- region 8
        refine AWP.region ?_
        first | (refine AList.p rfl (pure_fieldI Tryz.underlying24 rfl Tryz.sizeOf4 (.tmp _ _ rfl)) ?_) | (refine AList.p rfl (pure_field Tryz.underlying24 rfl Tryz.sizeOf4 (.tmp _ _ rfl)) ?_)
        first | (refine AList.p rfl (pure_load1 Tryz.isAgg4 (.tmp _ _ rfl)) ?_) | (refine AList.s rfl (step_load1 Tryz.isAgg4 (.tmp _ _ rfl) (by first | assumption | exact (by assumption : Heap.le _ _).objs _ _ (by assumption) | exact Heap.objs_set_same _ _ _ | exact (Heap.objs_set_ne _ _ (by assumption)).trans (Heap.objs_set_same _ _ _) | exact (Heap.objs_set_ne _ _ (by assumption)).trans ((Heap.objs_set_ne _ _ (by assumption)).trans (Heap.objs_set_same _ _ _)) | exact (Heap.objs_set_ne _ _ (by assumption)).trans (by assumption)) rfl) ?_; rintro _ _ ⟨rfl, hH⟩; obtain rfl := hH.symm)
        first | (refine AList.p rfl (pure_fieldI Tryz.underlying24 rfl Tryz.sizeOf4 (.tmp _ _ rfl)) ?_) | (refine AList.p rfl (pure_field Tryz.underlying24 rfl Tryz.sizeOf4 (.tmp _ _ rfl)) ?_)
        refine AList.s0 (step_store Tryz.sizeOf4 (.tmp _ _ rfl) (.tmp _ _ rfl) rfl rfl (.inl rfl) (by first | assumption | exact (by assumption : Heap.le _ _).objs _ _ (by assumption) | exact Heap.objs_set_same _ _ _ | exact (Heap.objs_set_ne _ _ (by assumption)).trans (Heap.objs_set_same _ _ _) | exact (Heap.objs_set_ne _ _ (by assumption)).trans ((Heap.objs_set_ne _ _ (by assumption)).trans (Heap.objs_set_same _ _ _)) | exact (Heap.objs_set_ne _ _ (by assumption)).trans (by assumption)) (Nat.le_of_ble_eq_true rfl)) ?_
        rintro _ _ ⟨rfl, hH⟩
        obtain rfl := hH.symm
        try first | rw [Heap.set_set] | rw [Heap.set_under (by assumption)]
        refine AList.nil ?_
        refine Next.go ?_
        -- region 9
        refine AWP.region ?_
        refine AList.p rfl (pure_assign ev_bool) ?_
        refine AList.nil ?_
        refine Block.go ?_
        refine Next.go ?_
        refine Meets.mk (M := fun env H2 => env = [(1, .iptr v.cs), (2, .bool false), (3, .ptr (some ⟨b3, 0, none⟩)), (4, .bool (okR v))] ∧ H2 = H.set b3 (.box 24 (bareR v).cs)) ⟨rfl, rfl⟩ (sub_c rfl (sub_c rfl (sub_c rfl (sub_e rfl (by first | (unfold okR; rw [if_neg (by omega), if_pos (by omega)]; exact congrArg AV.bool (decide_eq_decide.2 (by omega))) | (unfold okR; rw [if_neg (by omega), if_neg (by omega), if_pos (by omega)]; done) | (unfold okR; rw [if_neg (by omega), if_neg (by omega), if_neg (by omega), if_pos (by omega)]; exact congrArg AV.bool (decide_eq_decide.2 (by omega))) | (unfold okR; rw [if_neg (by omega), if_neg (by omega), if_neg (by omega), if_neg (by omega), if_pos (by omega), show decide (1 ≤ v.fail) = _ from hg44]; rfl) | (by_cases h0 : v.kind = 0; unfold okR; rw [if_pos h0, decide_eq_true h0]; rw [decide_eq_false h0]; unfold okR; rw [if_neg h0, if_neg (by omega), if_neg (by omega), if_neg (by omega), if_neg (by omega)])) sub_n)))) (by unfold bareR; first | (rw [if_pos (by omega)]; exact Heap.le.refl _) | (rw [if_neg (by omega), if_pos (by omega)]; exact Heap.le.refl _) | (rw [if_neg (by omega), if_neg (by omega), if_pos (by omega)]; exact Heap.le.refl _) | (rw [if_neg (by omega), if_neg (by omega), if_neg (by omega), if_pos (by omega)]; exact Heap.le.refl _) | (rw [if_neg (by omega), if_neg (by omega), if_neg (by omega), if_neg (by omega)]; exact Heap.le.refl _))
      · try simp only [decide_eq_false_iff_not] at hc22
        refine AWP.seq ?_
        -- region 10
        refine AWP.region ?_
        refine AList.p rfl (pure_eql (.tmp _ _ rfl) ev_int) ?_
        refine AList.p rfl (pure_assign (.tmp _ _ rfl)) ?_
        refine AList.nil ?_
        refine Next.go ?_
        -- c2
        refine AWP.cond (.tmp _ _ rfl) (fun hc27 => ?_) (fun hc27 => ?_)
        · try simp only [decide_eq_true_eq] at hc27
          refine AWP.seq ?_
          -- region 11
          refine AWP.region ?_
          first | (refine AList.p rfl (pure_fieldI Tryz.underlying24 rfl Tryz.sizeOf9 (.tmp _ _ rfl)) ?_) | (refine AList.p rfl (pure_field Tryz.underlying24 rfl Tryz.sizeOf9 (.tmp _ _ rfl)) ?_)
          first | (refine AList.p rfl (pure_load1 Tryz.isAgg9 (.tmp _ _ rfl)) ?_) | (refine AList.s rfl (step_load1 Tryz.isAgg9 (.tmp _ _ rfl) (by first | assumption | exact (by assumption : Heap.le _ _).objs _ _ (by assumption) | exact Heap.objs_set_same _ _ _ | exact (Heap.objs_set_ne _ _ (by assumption)).trans (Heap.objs_set_same _ _ _) | exact (Heap.objs_set_ne _ _ (by assumption)).trans ((Heap.objs_set_ne _ _ (by assumption)).trans (Heap.objs_set_same _ _ _)) | exact (Heap.objs_set_ne _ _ (by assumption)).trans (by assumption)) rfl) ?_; rintro _ _ ⟨rfl, hH⟩; obtain rfl := hH.symm)
          first | (refine AList.p rfl (pure_fieldI Tryz.underlying24 rfl Tryz.sizeOf9 (.tmp _ _ rfl)) ?_) | (refine AList.p rfl (pure_field Tryz.underlying24 rfl Tryz.sizeOf9 (.tmp _ _ rfl)) ?_)
          refine AList.s0 (step_store Tryz.sizeOf9 (.tmp _ _ rfl) (.tmp _ _ rfl) rfl rfl (.inl rfl) (by first | assumption | exact (by assumption : Heap.le _ _).objs _ _ (by assumption) | exact Heap.objs_set_same _ _ _ | exact (Heap.objs_set_ne _ _ (by assumption)).trans (Heap.objs_set_same _ _ _) | exact (Heap.objs_set_ne _ _ (by assumption)).trans ((Heap.objs_set_ne _ _ (by assumption)).trans (Heap.objs_set_same _ _ _)) | exact (Heap.objs_set_ne _ _ (by assumption)).trans (by assumption)) (Nat.le_of_ble_eq_true rfl)) ?_
          rintro _ _ ⟨rfl, hH⟩
          obtain rfl := hH.symm
          try first | rw [Heap.set_set] | rw [Heap.set_under (by assumption)]
          refine AList.nil ?_
          refine Next.go ?_
          -- region 12
          refine AWP.region ?_
          first | (refine AList.p rfl (pure_fieldI Tryz.underlying24 rfl Tryz.sizeOf9 (.tmp _ _ rfl)) ?_) | (refine AList.p rfl (pure_field Tryz.underlying24 rfl Tryz.sizeOf9 (.tmp _ _ rfl)) ?_)
          first | (refine AList.p rfl (pure_load1 Tryz.isAgg9 (.tmp _ _ rfl)) ?_) | (refine AList.s rfl (step_load1 Tryz.isAgg9 (.tmp _ _ rfl) (by first | assumption | exact (by assumption : Heap.le _ _).objs _ _ (by assumption) | exact Heap.objs_set_same _ _ _ | exact (Heap.objs_set_ne _ _ (by assumption)).trans (Heap.objs_set_same _ _ _) | exact (Heap.objs_set_ne _ _ (by assumption)).trans ((Heap.objs_set_ne _ _ (by assumption)).trans (Heap.objs_set_same _ _ _)) | exact (Heap.objs_set_ne _ _ (by assumption)).trans (by assumption)) rfl) ?_; rintro _ _ ⟨rfl, hH⟩; obtain rfl := hH.symm)
          refine AList.p rfl (pure_lenStr Tryz.underlying9 (.tmp _ _ rfl)) ?_
          refine AList.p rfl (pure_leq (.tmp _ _ rfl) ev_int) ?_
          refine AList.p rfl (pure_assign (.tmp _ _ rfl)) ?_
          refine AList.nil ?_
          refine Block.go ?_
          refine Next.go ?_
          refine Meets.mk (M := fun env H2 => env = [(1, .iptr v.cs), (2, .bool false), (3, .ptr (some ⟨b3, 0, none⟩)), (4, .bool (okR v))] ∧ H2 = H.set b3 (.box 24 (bareR v).cs)) ⟨rfl, rfl⟩ (sub_c rfl (sub_c rfl (sub_c rfl (sub_e rfl (by first | (unfold okR; rw [if_neg (by omega), if_pos (by omega)]; exact congrArg AV.bool (decide_eq_decide.2 (by omega))) | (unfold okR; rw [if_neg (by omega), if_neg (by omega), if_pos (by omega)]; done) | (unfold okR; rw [if_neg (by omega), if_neg (by omega), if_neg (by omega), if_pos (by omega)]; exact congrArg AV.bool (decide_eq_decide.2 (by omega))) | (unfold okR; rw [if_neg (by omega), if_neg (by omega), if_neg (by omega), if_neg (by omega), if_pos (by omega), show decide (1 ≤ v.fail) = _ from hg44]; rfl) | (by_cases h0 : v.kind = 0; unfold okR; rw [if_pos h0, decide_eq_true h0]; rw [decide_eq_false h0]; unfold okR; rw [if_neg h0, if_neg (by omega), if_neg (by omega), if_neg (by omega), if_neg (by omega)])) sub_n)))) (by unfold bareR; first | (rw [if_pos (by omega)]; exact Heap.le.refl _) | (rw [if_neg (by omega), if_pos (by omega)]; exact Heap.le.refl _) | (rw [if_neg (by omega), if_neg (by omega), if_pos (by omega)]; exact Heap.le.refl _) | (rw [if_neg (by omega), if_neg (by omega), if_neg (by omega), if_pos (by omega)]; exact Heap.le.refl _) | (rw [if_neg (by omega), if_neg (by omega), if_neg (by omega), if_neg (by omega)]; exact Heap.le.refl _))
        · try simp only [decide_eq_false_iff_not] at hc27
          refine AWP.seq ?_
          -- region 13
          refine AWP.region ?_
          refine AList.p rfl (pure_eql (.tmp _ _ rfl) ev_int) ?_
          refine AList.p rfl (pure_assign (.tmp _ _ rfl)) ?_
          refine AList.nil ?_
          refine Next.go ?_
          -- c3
          refine AWP.cond (.tmp _ _ rfl) (fun hc36 => ?_) (fun hc36 => ?_)
          · try simp only [decide_eq_true_eq] at hc36
            refine AWP.seq ?_
            -- region 14
            refine AWP.region ?_
            first | (refine AList.p rfl (pure_fieldI Tryz.underlying24 rfl Tryz.sizeOf3 (.tmp _ _ rfl)) ?_) | (refine AList.p rfl (pure_field Tryz.underlying24 rfl Tryz.sizeOf3 (.tmp _ _ rfl)) ?_)
            first | (refine AList.p rfl (pure_load1 Tryz.isAgg3 (.tmp _ _ rfl)) ?_) | (refine AList.s rfl (step_load1 Tryz.isAgg3 (.tmp _ _ rfl) (by first | assumption | exact (by assumption : Heap.le _ _).objs _ _ (by assumption) | exact Heap.objs_set_same _ _ _ | exact (Heap.objs_set_ne _ _ (by assumption)).trans (Heap.objs_set_same _ _ _) | exact (Heap.objs_set_ne _ _ (by assumption)).trans ((Heap.objs_set_ne _ _ (by assumption)).trans (Heap.objs_set_same _ _ _)) | exact (Heap.objs_set_ne _ _ (by assumption)).trans (by assumption)) rfl) ?_; rintro _ _ ⟨rfl, hH⟩; obtain rfl := hH.symm)
            first | (refine AList.p rfl (pure_fieldI Tryz.underlying24 rfl Tryz.sizeOf3 (.tmp _ _ rfl)) ?_) | (refine AList.p rfl (pure_field Tryz.underlying24 rfl Tryz.sizeOf3 (.tmp _ _ rfl)) ?_)
            refine AList.s0 (step_store Tryz.sizeOf3 (.tmp _ _ rfl) (.tmp _ _ rfl) rfl rfl (.inl rfl) (by first | assumption | exact (by assumption : Heap.le _ _).objs _ _ (by assumption) | exact Heap.objs_set_same _ _ _ | exact (Heap.objs_set_ne _ _ (by assumption)).trans (Heap.objs_set_same _ _ _) | exact (Heap.objs_set_ne _ _ (by assumption)).trans ((Heap.objs_set_ne _ _ (by assumption)).trans (Heap.objs_set_same _ _ _)) | exact (Heap.objs_set_ne _ _ (by assumption)).trans (by assumption)) (Nat.le_of_ble_eq_true rfl)) ?_
            rintro _ _ ⟨rfl, hH⟩
            obtain rfl := hH.symm
            try first | rw [Heap.set_set] | rw [Heap.set_under (by assumption)]
            refine AList.nil ?_
            refine Next.go ?_
            -- region 15
            refine AWP.region ?_
            first | (refine AList.p rfl (pure_fieldI Tryz.underlying24 rfl Tryz.sizeOf3 (.tmp _ _ rfl)) ?_) | (refine AList.p rfl (pure_field Tryz.underlying24 rfl Tryz.sizeOf3 (.tmp _ _ rfl)) ?_)
            first | (refine AList.p rfl (pure_load1 Tryz.isAgg3 (.tmp _ _ rfl)) ?_) | (refine AList.s rfl (step_load1 Tryz.isAgg3 (.tmp _ _ rfl) (by first | assumption | exact (by assumption : Heap.le _ _).objs _ _ (by assumption) | exact Heap.objs_set_same _ _ _ | exact (Heap.objs_set_ne _ _ (by assumption)).trans (Heap.objs_set_same _ _ _) | exact (Heap.objs_set_ne _ _ (by assumption)).trans ((Heap.objs_set_ne _ _ (by assumption)).trans (Heap.objs_set_same _ _ _)) | exact (Heap.objs_set_ne _ _ (by assumption)).trans (by assumption)) rfl) ?_; rintro _ _ ⟨rfl, hH⟩; obtain rfl := hH.symm)
            refine AList.p rfl (pure_geq (.tmp _ _ rfl) ev_int) ?_
            refine AList.p rfl (pure_move (.tmp _ _ rfl)) ?_
            -- the guard in slot 44
            refine bool_casesL (t := 44) rfl (fun hg44 => ?_) (fun hg44 => ?_)
            · have hh44 := hg44; try simp only [decide_eq_true_eq] at hh44
              first | (refine AList.gp rfl rfl rfl (by first | rfl | assumption) (pure_fieldI Tryz.underlying24 rfl Tryz.sizeOf3 (.tmp _ _ rfl)) ?_) | (refine AList.gp rfl rfl rfl (by first | rfl | assumption) (pure_field Tryz.underlying24 rfl Tryz.sizeOf3 (.tmp _ _ rfl)) ?_)
              first | (refine AList.gp rfl rfl rfl (by first | rfl | assumption) (pure_load1 Tryz.isAgg3 (.tmp _ _ rfl)) ?_) | (refine AList.gs rfl rfl rfl (by first | rfl | assumption) (step_load1 Tryz.isAgg3 (.tmp _ _ rfl) (by first | assumption | exact (by assumption : Heap.le _ _).objs _ _ (by assumption) | exact Heap.objs_set_same _ _ _ | exact (Heap.objs_set_ne _ _ (by assumption)).trans (Heap.objs_set_same _ _ _) | exact (Heap.objs_set_ne _ _ (by assumption)).trans ((Heap.objs_set_ne _ _ (by assumption)).trans (Heap.objs_set_same _ _ _)) | exact (Heap.objs_set_ne _ _ (by assumption)).trans (by assumption)) rfl) ?_; rintro _ _ ⟨rfl, hH⟩; obtain rfl := hH.symm)
              refine AList.gp rfl rfl rfl (by first | rfl | assumption) (pure_leq (.tmp _ _ rfl) ev_int) ?_
              refine AList.p rfl (pure_pickT (.tmp _ _ rfl) (by first | rfl | assumption) (.tmp _ _ rfl)) ?_
              refine AList.p rfl (pure_assign (.tmp _ _ rfl)) ?_
              refine AList.nil ?_
              refine Block.go ?_
              refine Next.go ?_
              refine Meets.mk (M := fun env H2 => env = [(1, .iptr v.cs), (2, .bool false), (3, .ptr (some ⟨b3, 0, none⟩)), (4, .bool (okR v))] ∧ H2 = H.set b3 (.box 24 (bareR v).cs)) ⟨rfl, rfl⟩ (sub_c rfl (sub_c rfl (sub_c rfl (sub_e rfl (by first | (unfold okR; rw [if_neg (by omega), if_pos (by omega)]; exact congrArg AV.bool (decide_eq_decide.2 (by omega))) | (unfold okR; rw [if_neg (by omega), if_neg (by omega), if_pos (by omega)]; done) | (unfold okR; rw [if_neg (by omega), if_neg (by omega), if_neg (by omega), if_pos (by omega)]; exact congrArg AV.bool (decide_eq_decide.2 (by omega))) | (unfold okR; rw [if_neg (by omega), if_neg (by omega), if_neg (by omega), if_neg (by omega), if_pos (by omega), show decide (1 ≤ v.fail) = _ from hg44]; rfl) | (by_cases h0 : v.kind = 0; unfold okR; rw [if_pos h0, decide_eq_true h0]; rw [decide_eq_false h0]; unfold okR; rw [if_neg h0, if_neg (by omega), if_neg (by omega), if_neg (by omega), if_neg (by omega)])) sub_n)))) (by unfold bareR; first | (rw [if_pos (by omega)]; exact Heap.le.refl _) | (rw [if_neg (by omega), if_pos (by omega)]; exact Heap.le.refl _) | (rw [if_neg (by omega), if_neg (by omega), if_pos (by omega)]; exact Heap.le.refl _) | (rw [if_neg (by omega), if_neg (by omega), if_neg (by omega), if_pos (by omega)]; exact Heap.le.refl _) | (rw [if_neg (by omega), if_neg (by omega), if_neg (by omega), if_neg (by omega)]; exact Heap.le.refl _))
            · have hh44 := hg44; try simp only [decide_eq_false_iff_not, Int.not_le] at hh44
              refine AList.gn rfl rfl rfl (by first | rfl | assumption) ?_
              refine AList.gn rfl rfl rfl (by first | rfl | assumption) ?_
              refine AList.gn rfl rfl rfl (by first | rfl | assumption) ?_
              refine AList.p rfl (pure_pickF (.tmp _ _ rfl) (by first | rfl | assumption) ev_bool) ?_
              refine AList.p rfl (pure_assign (.tmp _ _ rfl)) ?_
              refine AList.nil ?_
              refine Block.go ?_
              refine Next.go ?_
              refine Meets.mk (M := fun env H2 => env = [(1, .iptr v.cs), (2, .bool false), (3, .ptr (some ⟨b3, 0, none⟩)), (4, .bool (okR v))] ∧ H2 = H.set b3 (.box 24 (bareR v).cs)) ⟨rfl, rfl⟩ (sub_c rfl (sub_c rfl (sub_c rfl (sub_e rfl (by first | (unfold okR; rw [if_neg (by omega), if_pos (by omega)]; exact congrArg AV.bool (decide_eq_decide.2 (by omega))) | (unfold okR; rw [if_neg (by omega), if_neg (by omega), if_pos (by omega)]; done) | (unfold okR; rw [if_neg (by omega), if_neg (by omega), if_neg (by omega), if_pos (by omega)]; exact congrArg AV.bool (decide_eq_decide.2 (by omega))) | (unfold okR; rw [if_neg (by omega), if_neg (by omega), if_neg (by omega), if_neg (by omega), if_pos (by omega), show decide (1 ≤ v.fail) = _ from hg44]; rfl) | (by_cases h0 : v.kind = 0; unfold okR; rw [if_pos h0, decide_eq_true h0]; rw [decide_eq_false h0]; unfold okR; rw [if_neg h0, if_neg (by omega), if_neg (by omega), if_neg (by omega), if_neg (by omega)])) sub_n)))) (by unfold bareR; first | (rw [if_pos (by omega)]; exact Heap.le.refl _) | (rw [if_neg (by omega), if_pos (by omega)]; exact Heap.le.refl _) | (rw [if_neg (by omega), if_neg (by omega), if_pos (by omega)]; exact Heap.le.refl _) | (rw [if_neg (by omega), if_neg (by omega), if_neg (by omega), if_pos (by omega)]; exact Heap.le.refl _) | (rw [if_neg (by omega), if_neg (by omega), if_neg (by omega), if_neg (by omega)]; exact Heap.le.refl _))
          · try simp only [decide_eq_false_iff_not] at hc36
            refine AWP.skip ?_
            refine Block.go ?_
            refine Next.go ?_
            refine Meets.mk (M := fun env H2 => env = [(1, .iptr v.cs), (2, .bool false), (3, .ptr (some ⟨b3, 0, none⟩)), (4, .bool (okR v))] ∧ H2 = H.set b3 (.box 24 (bareR v).cs)) ⟨rfl, rfl⟩ (sub_c rfl (sub_c rfl (sub_c rfl (sub_e rfl (by first | (unfold okR; rw [if_neg (by omega), if_pos (by omega)]; exact congrArg AV.bool (decide_eq_decide.2 (by omega))) | (unfold okR; rw [if_neg (by omega), if_neg (by omega), if_pos (by omega)]; done) | (unfold okR; rw [if_neg (by omega), if_neg (by omega), if_neg (by omega), if_pos (by omega)]; exact congrArg AV.bool (decide_eq_decide.2 (by omega))) | (unfold okR; rw [if_neg (by omega), if_neg (by omega), if_neg (by omega), if_neg (by omega), if_pos (by omega), show decide (1 ≤ v.fail) = _ from hg44]; rfl) | (by_cases h0 : v.kind = 0; unfold okR; rw [if_pos h0, decide_eq_true h0]; rw [decide_eq_false h0]; unfold okR; rw [if_neg h0, if_neg (by omega), if_neg (by omega), if_neg (by omega), if_neg (by omega)])) sub_n)))) (by unfold bareR; first | (rw [if_pos (by omega)]; exact Heap.le.refl _) | (rw [if_neg (by omega), if_pos (by omega)]; exact Heap.le.refl _) | (rw [if_neg (by omega), if_neg (by omega), if_pos (by omega)]; exact Heap.le.refl _) | (rw [if_neg (by omega), if_neg (by omega), if_neg (by omega), if_pos (by omega)]; exact Heap.le.refl _) | (rw [if_neg (by omega), if_neg (by omega), if_neg (by omega), if_neg (by omega)]; exact Heap.le.refl _))
  · rintro _ _ ⟨rfl, rfl⟩
    refine AWP.seqTo 2 (.bool (okR v && decide (v = bareR v))) [] ?_ ?_
    · -- region 16
      refine AWP.region ?_
      refine AList.p rfl (pure_move (.tmp _ _ rfl)) ?_
      refine AList.p rfl (pure_move (.tmp _ _ rfl)) ?_
      -- the guard in slot 50
      refine bool_casesL (t := 50) rfl (fun hg50 => ?_) (fun hg50 => ?_)
      · have hh50 := hg50; try simp only [decide_eq_true_eq, decide_eq_false_iff_not, Bool.not_eq_true', Bool.not_eq_false', Int.not_lt, Int.not_le, ne_eq, Decidable.not_not] at hh50
        first | (refine AList.gp rfl rfl rfl (by first | rfl | assumption) (pure_loadN Tryz.isAgg24 Tryz.sizeOf24 (.tmp _ _ rfl) (Nat.le_of_ble_eq_true rfl)) ?_) | (refine AList.gs rfl rfl rfl (by first | rfl | assumption) (step_loadN Tryz.isAgg24 Tryz.sizeOf24 (.tmp _ _ rfl) (by first | assumption | exact (by assumption : Heap.le _ _).objs _ _ (by assumption) | exact Heap.objs_set_same _ _ _ | exact (Heap.objs_set_ne _ _ (by assumption)).trans (Heap.objs_set_same _ _ _) | exact (Heap.objs_set_ne _ _ (by assumption)).trans ((Heap.objs_set_ne _ _ (by assumption)).trans (Heap.objs_set_same _ _ _)) | exact (Heap.objs_set_ne _ _ (by assumption)).trans (by assumption)) (Nat.le_of_ble_eq_true rfl)) ?_; rintro _ _ ⟨rfl, hH⟩; obtain rfl := hH.symm)
        first | (refine AList.gp rfl rfl rfl (by first | rfl | assumption) (pure_loadN Tryz.isAgg24 Tryz.sizeOf24 (.tmp _ _ rfl) (Nat.le_of_ble_eq_true rfl)) ?_) | (refine AList.gs rfl rfl rfl (by first | rfl | assumption) (step_loadN Tryz.isAgg24 Tryz.sizeOf24 (.tmp _ _ rfl) (by first | assumption | exact (by assumption : Heap.le _ _).objs _ _ (by assumption) | exact Heap.objs_set_same _ _ _ | exact (Heap.objs_set_ne _ _ (by assumption)).trans (Heap.objs_set_same _ _ _) | exact (Heap.objs_set_ne _ _ (by assumption)).trans ((Heap.objs_set_ne _ _ (by assumption)).trans (Heap.objs_set_same _ _ _)) | exact (Heap.objs_set_ne _ _ (by assumption)).trans (by assumption)) (Nat.le_of_ble_eq_true rfl)) ?_; rintro _ _ ⟨rfl, hH⟩; obtain rfl := hH.symm)
        refine AList.gp rfl rfl rfl (by first | rfl | assumption) (pure_eqlA Tryz.eqGuardType24 (.tmp _ _ rfl) (.tmp _ _ rfl) (eqVal v (bareR v))) ?_
        refine AList.p rfl (pure_pickT (.tmp _ _ rfl) (by first | rfl | assumption) (.tmp _ _ rfl)) ?_
        refine AList.p rfl (pure_assign (.tmp _ _ rfl)) ?_
        refine AList.nil ?_
        exact ⟨rfl, sub_b rfl (by first | rfl | (rw [show okR v = _ from hg50]; rfl) | (simp; omega) | (simp [*]; done) | simp_all) sub_n, rfl⟩
      · have hh50 := hg50; try simp only [decide_eq_true_eq, decide_eq_false_iff_not, Bool.not_eq_true', Bool.not_eq_false', Int.not_lt, Int.not_le, ne_eq, Decidable.not_not] at hh50
        refine AList.gn rfl rfl rfl (by first | rfl | assumption) ?_
        refine AList.gn rfl rfl rfl (by first | rfl | assumption) ?_
        refine AList.gn rfl rfl rfl (by first | rfl | assumption) ?_
        refine AList.p rfl (pure_pickF (.tmp _ _ rfl) (by first | rfl | assumption) ev_bool) ?_
        refine AList.p rfl (pure_assign (.tmp _ _ rfl)) ?_
        refine AList.nil ?_
        exact ⟨rfl, sub_b rfl (by first | rfl | (rw [show okR v = _ from hg50]; rfl) | (simp; omega) | (simp [*]; done) | simp_all) sub_n, rfl⟩
    · refine AWP.sub [(2, _)] (sub_c rfl sub_n) ?_
      refine AWP.dropb (by first | exact hb3 | exact Heap.fresh_set hb3 _) ?_
      refine AWP.ret ?_
      -- ret 0
      refine Ret.go (.cons (.tmp _ _ rfl) .nil) _ (Heap.le.refl _) ?_
      refine ⟨?_, rfl⟩
      rw [← right_ref]; rfl

end Go.Proofs.YtifoddpbmlajfaaGreatDoor
