/-
  The library's functions on texts, as contracts of the frame.
-/
import Derived.Test.YtifoddpbmlajfaaGreatDoorN2
import Derived.Test.YtifoddpbmlajfaaGreatDoorLsk
import Derived.Shelf.Strings.SlTrimAscii
import Derived.Test.YtifoddpbmlajfaaGreatDoorS5
namespace Go.Proofs.YtifoddpbmlajfaaGreatDoor
open Go Go.RowKit Go.Shelf

theorem below_drawn (B : Nat) (w : World) (n : Nat) : Below B w (w.drewN n) := ⟨rfl, rfl, rfl, Nat.le_refl _, fun _ _ => rfl⟩
theorem Sat.tab {g : G} {H : Heap} {w : World} (s : Sat g H w) : Lib.TabIs Tryz.prog w "internal/strconv.uint64pow10" .u64 Lib.pow10Tab := by
  obtain ⟨t, f, h⟩ := g.hinv.tab
  have hlt : 10 < g.base.heap.size := (Array.getElem?_eq_some_iff.1 h).1
  have h2 : w.heap[10]? = some (.cells (Lib.pow10Tab.map fun z => Value.int .u64 z).toArray t f) := (s.below.block 10 hlt).trans h
  have hn : Tryz.prog.globalNamed "internal/strconv.uint64pow10" = some 10 := by kernel_rfl
  unfold Lib.TabIs World.var?
  rw [hn, Option.bind_some, h2]
end Go.Proofs.YtifoddpbmlajfaaGreatDoor

namespace Go.Proofs.YtifoddpbmlajfaaGreatDoor
open Go Go.RowKit

end Go.Proofs.YtifoddpbmlajfaaGreatDoor

namespace Go.Proofs.YtifoddpbmlajfaaGreatDoor
open Go Go.RowKit Go.Shelf

def isD (b : UInt8) : Prop := 48 ≤ b.toNat ∧ b.toNat ≤ 57
def Digs (l : List UInt8) : Prop := ∀ b, b ∈ l → isD b
def numX (acc : Nat) (l : List UInt8) : Nat := l.foldl (fun a c => a * 10 + (c.toNat - 48)) acc
def num (l : List UInt8) : Nat := numX 0 l
theorem Digs.take {l : List UInt8} (h : Digs l) (n : Nat) : Digs (l.take n) := fun b hb => h b (List.mem_of_mem_take hb)
theorem Digs.drop {l : List UInt8} (h : Digs l) (n : Nat) : Digs (l.drop n) := fun b hb => h b (List.mem_of_mem_drop hb)
theorem Digs.dropWhile {l : List UInt8} (h : Digs l) (q : UInt8 → Bool) : Digs (l.dropWhile q) := fun b hb => h b ((List.dropWhile_sublist q).subset hb)
end Go.Proofs.YtifoddpbmlajfaaGreatDoor

namespace Go.Proofs.YtifoddpbmlajfaaGreatDoor
open Go Go.RowKit Go.Shelf

def longD (ds : List UInt8) : List UInt8 := ds.dropWhile (· == 48)
def coreD (ds : List UInt8) : List UInt8 := Lib.trimRightB (longD ds) 48
def moreD (ds : List UInt8) : Nat := (longD ds).length - (coreD ds).length
def okD (ds : List UInt8) (e : Int) : Prop := (coreD ds).length ≤ 1100 ∧ -100000 ≤ e + moreD ds ∧ e + moreD ds ≤ 100000
instance (ds : List UInt8) (e : Int) : Decidable (okD ds e) := inferInstanceAs (Decidable (_ ∧ _ ∧ _))
end Go.Proofs.YtifoddpbmlajfaaGreatDoor

namespace Go.Proofs.YtifoddpbmlajfaaGreatDoor
open Go Go.RowKit

def kindN (x : Nat) : Nat :=
  if x / 4503599627370496 % 2048 = 2047 then (if x % 4503599627370496 = 0 then 3 else 4)
  else if x / 4503599627370496 % 2048 = 0 then (if x % 4503599627370496 = 0 then 0 else 1) else 2
theorem and_2047 (x : Nat) : x &&& 2047 = x % 2048 := Nat.and_two_pow_sub_one_eq_mod x 11
theorem and_frac (x : Nat) : x &&& 4503599627370495 = x % 4503599627370496 := Nat.and_two_pow_sub_one_eq_mod x 52
end Go.Proofs.YtifoddpbmlajfaaGreatDoor

namespace Go.Proofs.YtifoddpbmlajfaaGreatDoor
open Go Go.RowKit

set_option maxRecDepth 100000 in
theorem Kind_calls (x : Nat) (hx : x < 18446744073709551616) (H : Heap) : ACall Tryz.prog 35 [.int .u64 (x : Int)] H (fun y H' => y = .int .i64 (kindN x : Int) ∧ H' = H) := by
  have hp : (2 : Nat) ^ 52 = 4503599627370496 := by decide
  refine ACall.of_body Tryz.func35 rfl Tryz.ntmps35 Tryz.results35 rfl ?_
  refine .sr ?_
  refine .p rfl (pure_assign ev_int) ?_
  refine .ng ?_
  refine .seq ?_
  refine .sr ?_
  refine .mv rfl rfl ?_
  refine .p rfl (pure_shr64 (tm rfl) (ev_nat 52) (by assumption)) ?_
  refine .p rfl (pure_and64 (tm rfl) (ev_nat 2047) (by omega) (by omega)) ?_
  refine .mv rfl rfl ?_
  refine .p rfl (pure_and64 (tm rfl) (ev_nat 4503599627370495) (by assumption) (by omega)) ?_
  refine .as rfl rfl ?_
  refine .as rfl rfl ?_
  refine .ng ?_
  refine .block ?_
  refine .seq ?_
  rw [and_2047, and_frac, hp]
  refine .region ?_
  refine .mv rfl rfl ?_
  refine .p rfl (pure_eql (tm rfl) (ev_nat 2047)) ?_
  refine .mv rfl rfl ?_
  refine bool_casesL (t := 13) rfl (fun hg13 => ?_) (fun hg13 => ?_)
  · have hh13 := hg13; try simp only [decide_eq_true_eq] at hh13
    refine .gp rfl rfl rfl (by assumption) (pure_move (tm rfl)) ?_
    refine .gp rfl rfl rfl (by assumption) (pure_neq (tm rfl) (ev_nat 0)) ?_
    refine .p rfl (pure_pickT (tm rfl) (by assumption) (tm rfl)) ?_
    refine .as rfl rfl ?_
    refine .ng ?_
    refine AWP.cond (tm rfl) (fun hc10 => ?_) (fun hc10 => ?_)
    · try simp only [decide_eq_true_eq, ne_eq] at hc10
      refine .sr ?_
      refine .p rfl (pure_assign ev_int) ?_
      refine .ng ?_
      refine .ret ?_
      refine Block.rt ?_
      refine Next.rt ?_
      refine Ret.go (.cons (.tmp _ _ rfl) .nil) _ (Heap.le.refl _) ?_
      refine ⟨?_, rfl⟩
      simp only [packed, kindN]
      congr 1
      (repeat' split) <;> first | rfl | omega
    · try simp only [decide_eq_false_iff_not, ne_eq, Decidable.not_not] at hc10
      refine .sr ?_
      refine .mv rfl rfl ?_
      refine .p rfl (pure_eql (tm rfl) (ev_nat 2047)) ?_
      refine .as rfl rfl ?_
      refine .ng ?_
      refine AWP.cond (tm rfl) (fun hc17 => ?_) (fun hc17 => ?_)
      · try simp only [decide_eq_true_eq] at hc17
        refine .sr ?_
        refine .p rfl (pure_assign ev_int) ?_
        refine .ng ?_
        refine .ret ?_
        refine Block.rt ?_
        refine Next.rt ?_
        refine Ret.go (.cons (.tmp _ _ rfl) .nil) _ (Heap.le.refl _) ?_
        refine ⟨?_, rfl⟩
        simp only [packed, kindN]
        congr 1
        (repeat' split) <;> first | rfl | omega
      · try simp only [decide_eq_false_iff_not] at hc17
        refine .sr ?_
        refine .mv rfl rfl ?_
        refine .p rfl (pure_gtr (tm rfl) (ev_nat 0)) ?_
        refine .as rfl rfl ?_
        refine .ng ?_
        refine AWP.cond (tm rfl) (fun hc20 => ?_) (fun hc20 => ?_)
        · try simp only [decide_eq_true_eq] at hc20
          refine .sr ?_
          refine .p rfl (pure_assign ev_int) ?_
          refine .ng ?_
          refine .ret ?_
          refine Block.rt ?_
          refine Next.rt ?_
          refine Ret.go (.cons (.tmp _ _ rfl) .nil) _ (Heap.le.refl _) ?_
          refine ⟨?_, rfl⟩
          simp only [packed, kindN]
          congr 1
          (repeat' split) <;> first | rfl | omega
        · try simp only [decide_eq_false_iff_not, Int.not_lt] at hc20
          refine .sr ?_
          refine .mv rfl rfl ?_
          refine .p rfl (pure_gtr (tm rfl) (ev_nat 0)) ?_
          refine .as rfl rfl ?_
          refine .ng ?_
          refine AWP.cond (tm rfl) (fun hc23 => ?_) (fun hc23 => ?_)
          · try simp only [decide_eq_true_eq] at hc23
            refine .sr ?_
            refine .p rfl (pure_assign ev_int) ?_
            refine .ng ?_
            refine .ret ?_
            refine Block.rt ?_
            refine Next.rt ?_
            refine Ret.go (.cons (.tmp _ _ rfl) .nil) _ (Heap.le.refl _) ?_
            refine ⟨?_, rfl⟩
            simp only [packed, kindN]
            congr 1
            (repeat' split) <;> first | rfl | omega
          · try simp only [decide_eq_false_iff_not, Int.not_lt] at hc23
            refine .skip ?_
            refine Block.go ?_
            refine Next.go ?_
            refine .sr ?_
            refine .p rfl (pure_assign ev_int) ?_
            refine .ng ?_
            refine .ret ?_
            refine Ret.go (.cons (.tmp _ _ rfl) .nil) _ (Heap.le.refl _) ?_
            refine ⟨?_, rfl⟩
            simp only [packed, kindN]
            congr 1
            (repeat' split) <;> first | rfl | omega
  · have hh13 := hg13; try simp only [decide_eq_false_iff_not] at hh13
    refine .gn rfl rfl rfl (by assumption) ?_
    refine .gn rfl rfl rfl (by assumption) ?_
    refine .p rfl (pure_pickF (tm rfl) (by assumption) ev_bool) ?_
    refine .as rfl rfl ?_
    refine .ng ?_
    refine AWP.cond_false (tm rfl) (by rfl) ?_
    refine .sr ?_
    refine .mv rfl rfl ?_
    refine .p rfl (pure_eql (tm rfl) (ev_nat 2047)) ?_
    refine .as rfl rfl ?_
    refine .ng ?_
    refine AWP.cond (tm rfl) (fun hc17 => ?_) (fun hc17 => ?_)
    · try simp only [decide_eq_true_eq] at hc17
      refine .sr ?_
      refine .p rfl (pure_assign ev_int) ?_
      refine .ng ?_
      refine .ret ?_
      refine Block.rt ?_
      refine Next.rt ?_
      refine Ret.go (.cons (.tmp _ _ rfl) .nil) _ (Heap.le.refl _) ?_
      refine ⟨?_, rfl⟩
      simp only [packed, kindN]
      congr 1
      (repeat' split) <;> first | rfl | omega
    · try simp only [decide_eq_false_iff_not] at hc17
      refine .sr ?_
      refine .mv rfl rfl ?_
      refine .p rfl (pure_gtr (tm rfl) (ev_nat 0)) ?_
      refine .as rfl rfl ?_
      refine .ng ?_
      refine AWP.cond (tm rfl) (fun hc20 => ?_) (fun hc20 => ?_)
      · try simp only [decide_eq_true_eq] at hc20
        refine .sr ?_
        refine .p rfl (pure_assign ev_int) ?_
        refine .ng ?_
        refine .ret ?_
        refine Block.rt ?_
        refine Next.rt ?_
        refine Ret.go (.cons (.tmp _ _ rfl) .nil) _ (Heap.le.refl _) ?_
        refine ⟨?_, rfl⟩
        simp only [packed, kindN]
        congr 1
        (repeat' split) <;> first | rfl | omega
      · try simp only [decide_eq_false_iff_not, Int.not_lt] at hc20
        refine .sr ?_
        refine .mv rfl rfl ?_
        refine .p rfl (pure_gtr (tm rfl) (ev_nat 0)) ?_
        refine .as rfl rfl ?_
        refine .ng ?_
        refine AWP.cond (tm rfl) (fun hc23 => ?_) (fun hc23 => ?_)
        · try simp only [decide_eq_true_eq] at hc23
          refine .sr ?_
          refine .p rfl (pure_assign ev_int) ?_
          refine .ng ?_
          refine .ret ?_
          refine Block.rt ?_
          refine Next.rt ?_
          refine Ret.go (.cons (.tmp _ _ rfl) .nil) _ (Heap.le.refl _) ?_
          refine ⟨?_, rfl⟩
          simp only [packed, kindN]
          congr 1
          (repeat' split) <;> first | rfl | omega
        · try simp only [decide_eq_false_iff_not, Int.not_lt] at hc23
          refine .skip ?_
          refine Block.go ?_
          refine Next.go ?_
          refine .sr ?_
          refine .p rfl (pure_assign ev_int) ?_
          refine .ng ?_
          refine .ret ?_
          refine Ret.go (.cons (.tmp _ _ rfl) .nil) _ (Heap.le.refl _) ?_
          refine ⟨?_, rfl⟩
          simp only [packed, kindN]
          congr 1
          (repeat' split) <;> first | rfl | omega

set_option maxRecDepth 100000 in
theorem rKind_calls (x : Nat) (hx : x < 18446744073709551616) (H : Heap) : ACall Tryz.prog 38 [.int .u64 (x : Int)] H (fun y H' => y = .int .i64 (kindN x : Int) ∧ H' = H) := by
  have hp : (2 : Nat) ^ 52 = 4503599627370496 := by decide
  refine ACall.of_body Tryz.func38 rfl Tryz.ntmps38 Tryz.results38 rfl ?_
  refine .sr ?_
  refine .p rfl (pure_assign ev_int) ?_
  refine .nr ?_
  refine .mv rfl rfl ?_
  refine .p rfl (pure_shr64 (tm rfl) (ev_nat 52) (by assumption)) ?_
  refine .p rfl (pure_rem64 (tm rfl) (ev_nat 2048) (by omega)) ?_
  refine .as rfl rfl ?_
  refine .nr ?_
  refine .mv rfl rfl ?_
  refine .p rfl (pure_rem64 (tm rfl) (ev_nat 4503599627370496) (by omega)) ?_
  refine .as rfl rfl ?_
  refine .ng ?_
  refine .seq ?_
  refine .block ?_
  refine .seq ?_
  rw [hp]
  refine .region ?_
  refine .mv rfl rfl ?_
  refine .p rfl (pure_eql (tm rfl) (ev_nat 2047)) ?_
  refine .mv rfl rfl ?_
  refine bool_casesL (t := 13) rfl (fun hg13 => ?_) (fun hg13 => ?_)
  · have hh13 := hg13; try simp only [decide_eq_true_eq] at hh13
    refine .gp rfl rfl rfl (by assumption) (pure_move (tm rfl)) ?_
    refine .gp rfl rfl rfl (by assumption) (pure_eql (tm rfl) (ev_nat 0)) ?_
    refine .p rfl (pure_pickT (tm rfl) (by assumption) (tm rfl)) ?_
    refine .as rfl rfl ?_
    refine .ng ?_
    refine AWP.cond (tm rfl) (fun hc10 => ?_) (fun hc10 => ?_)
    · try simp only [decide_eq_true_eq] at hc10
      refine .sr ?_
      refine .p rfl (pure_assign ev_int) ?_
      refine .ng ?_
      refine .ret ?_
      refine Block.rt ?_
      refine Next.rt ?_
      refine Ret.go (.cons (.tmp _ _ rfl) .nil) _ (Heap.le.refl _) ?_
      refine ⟨?_, rfl⟩
      simp only [packed, kindN]
      congr 1
      (repeat' split) <;> first | rfl | omega
    · try simp only [decide_eq_false_iff_not] at hc10
      refine .sr ?_
      refine .mv rfl rfl ?_
      refine .p rfl (pure_eql (tm rfl) (ev_nat 2047)) ?_
      refine .as rfl rfl ?_
      refine .ng ?_
      refine AWP.cond (tm rfl) (fun hc17 => ?_) (fun hc17 => ?_)
      · try simp only [decide_eq_true_eq] at hc17
        refine .sr ?_
        refine .p rfl (pure_assign ev_int) ?_
        refine .ng ?_
        refine .ret ?_
        refine Block.rt ?_
        refine Next.rt ?_
        refine Ret.go (.cons (.tmp _ _ rfl) .nil) _ (Heap.le.refl _) ?_
        refine ⟨?_, rfl⟩
        simp only [packed, kindN]
        congr 1
        (repeat' split) <;> first | rfl | omega
      · try simp only [decide_eq_false_iff_not] at hc17
        refine .sr ?_
        refine .mv rfl rfl ?_
        refine .p rfl (pure_eql (tm rfl) (ev_nat 0)) ?_
        refine .mv rfl rfl ?_
        refine bool_casesL (t := 23) rfl (fun hg23 => ?_) (fun hg23 => ?_)
        · have hh23 := hg23; try simp only [decide_eq_true_eq] at hh23
          refine .gp rfl rfl rfl (by assumption) (pure_move (tm rfl)) ?_
          refine .gp rfl rfl rfl (by assumption) (pure_eql (tm rfl) (ev_nat 0)) ?_
          refine .p rfl (pure_pickT (tm rfl) (by assumption) (tm rfl)) ?_
          refine .as rfl rfl ?_
          refine .ng ?_
          refine AWP.cond (tm rfl) (fun hc20 => ?_) (fun hc20 => ?_)
          · try simp only [decide_eq_true_eq] at hc20
            refine .sr ?_
            refine .p rfl (pure_assign ev_int) ?_
            refine .ng ?_
            refine .ret ?_
            refine Block.rt ?_
            refine Next.rt ?_
            refine Ret.go (.cons (.tmp _ _ rfl) .nil) _ (Heap.le.refl _) ?_
            refine ⟨?_, rfl⟩
            simp only [packed, kindN]
            congr 1
            (repeat' split) <;> first | rfl | omega
          · try simp only [decide_eq_false_iff_not] at hc20
            refine .sr ?_
            refine .mv rfl rfl ?_
            refine .p rfl (pure_eql (tm rfl) (ev_nat 0)) ?_
            refine .as rfl rfl ?_
            refine .ng ?_
            refine AWP.cond (tm rfl) (fun hc27 => ?_) (fun hc27 => ?_)
            · try simp only [decide_eq_true_eq] at hc27
              refine .sr ?_
              refine .p rfl (pure_assign ev_int) ?_
              refine .ng ?_
              refine .ret ?_
              refine Block.rt ?_
              refine Next.rt ?_
              refine Ret.go (.cons (.tmp _ _ rfl) .nil) _ (Heap.le.refl _) ?_
              refine ⟨?_, rfl⟩
              simp only [packed, kindN]
              congr 1
              (repeat' split) <;> first | rfl | omega
            · try simp only [decide_eq_false_iff_not] at hc27
              refine .skip ?_
              refine Block.go ?_
              refine Next.go ?_
              refine .sr ?_
              refine .p rfl (pure_assign ev_int) ?_
              refine .ng ?_
              refine .ret ?_
              refine Ret.go (.cons (.tmp _ _ rfl) .nil) _ (Heap.le.refl _) ?_
              refine ⟨?_, rfl⟩
              simp only [packed, kindN]
              congr 1
              (repeat' split) <;> first | rfl | omega
        · have hh23 := hg23; try simp only [decide_eq_false_iff_not] at hh23
          refine .gn rfl rfl rfl (by assumption) ?_
          refine .gn rfl rfl rfl (by assumption) ?_
          refine .p rfl (pure_pickF (tm rfl) (by assumption) ev_bool) ?_
          refine .as rfl rfl ?_
          refine .ng ?_
          refine AWP.cond_false (tm rfl) (by rfl) ?_
          refine .sr ?_
          refine .mv rfl rfl ?_
          refine .p rfl (pure_eql (tm rfl) (ev_nat 0)) ?_
          refine .as rfl rfl ?_
          refine .ng ?_
          refine AWP.cond (tm rfl) (fun hc27 => ?_) (fun hc27 => ?_)
          · try simp only [decide_eq_true_eq] at hc27
            refine .sr ?_
            refine .p rfl (pure_assign ev_int) ?_
            refine .ng ?_
            refine .ret ?_
            refine Block.rt ?_
            refine Next.rt ?_
            refine Ret.go (.cons (.tmp _ _ rfl) .nil) _ (Heap.le.refl _) ?_
            refine ⟨?_, rfl⟩
            simp only [packed, kindN]
            congr 1
            (repeat' split) <;> first | rfl | omega
          · try simp only [decide_eq_false_iff_not] at hc27
            refine .skip ?_
            refine Block.go ?_
            refine Next.go ?_
            refine .sr ?_
            refine .p rfl (pure_assign ev_int) ?_
            refine .ng ?_
            refine .ret ?_
            refine Ret.go (.cons (.tmp _ _ rfl) .nil) _ (Heap.le.refl _) ?_
            refine ⟨?_, rfl⟩
            simp only [packed, kindN]
            congr 1
            (repeat' split) <;> first | rfl | omega
  · have hh13 := hg13; try simp only [decide_eq_false_iff_not] at hh13
    refine .gn rfl rfl rfl (by assumption) ?_
    refine .gn rfl rfl rfl (by assumption) ?_
    refine .p rfl (pure_pickF (tm rfl) (by assumption) ev_bool) ?_
    refine .as rfl rfl ?_
    refine .ng ?_
    refine AWP.cond_false (tm rfl) (by rfl) ?_
    refine .sr ?_
    refine .mv rfl rfl ?_
    refine .p rfl (pure_eql (tm rfl) (ev_nat 2047)) ?_
    refine .as rfl rfl ?_
    refine .ng ?_
    refine AWP.cond (tm rfl) (fun hc17 => ?_) (fun hc17 => ?_)
    · try simp only [decide_eq_true_eq] at hc17
      refine .sr ?_
      refine .p rfl (pure_assign ev_int) ?_
      refine .ng ?_
      refine .ret ?_
      refine Block.rt ?_
      refine Next.rt ?_
      refine Ret.go (.cons (.tmp _ _ rfl) .nil) _ (Heap.le.refl _) ?_
      refine ⟨?_, rfl⟩
      simp only [packed, kindN]
      congr 1
      (repeat' split) <;> first | rfl | omega
    · try simp only [decide_eq_false_iff_not] at hc17
      refine .sr ?_
      refine .mv rfl rfl ?_
      refine .p rfl (pure_eql (tm rfl) (ev_nat 0)) ?_
      refine .mv rfl rfl ?_
      refine bool_casesL (t := 23) rfl (fun hg23 => ?_) (fun hg23 => ?_)
      · have hh23 := hg23; try simp only [decide_eq_true_eq] at hh23
        refine .gp rfl rfl rfl (by assumption) (pure_move (tm rfl)) ?_
        refine .gp rfl rfl rfl (by assumption) (pure_eql (tm rfl) (ev_nat 0)) ?_
        refine .p rfl (pure_pickT (tm rfl) (by assumption) (tm rfl)) ?_
        refine .as rfl rfl ?_
        refine .ng ?_
        refine AWP.cond (tm rfl) (fun hc20 => ?_) (fun hc20 => ?_)
        · try simp only [decide_eq_true_eq] at hc20
          refine .sr ?_
          refine .p rfl (pure_assign ev_int) ?_
          refine .ng ?_
          refine .ret ?_
          refine Block.rt ?_
          refine Next.rt ?_
          refine Ret.go (.cons (.tmp _ _ rfl) .nil) _ (Heap.le.refl _) ?_
          refine ⟨?_, rfl⟩
          simp only [packed, kindN]
          congr 1
          (repeat' split) <;> first | rfl | omega
        · try simp only [decide_eq_false_iff_not] at hc20
          refine .sr ?_
          refine .mv rfl rfl ?_
          refine .p rfl (pure_eql (tm rfl) (ev_nat 0)) ?_
          refine .as rfl rfl ?_
          refine .ng ?_
          refine AWP.cond (tm rfl) (fun hc27 => ?_) (fun hc27 => ?_)
          · try simp only [decide_eq_true_eq] at hc27
            refine .sr ?_
            refine .p rfl (pure_assign ev_int) ?_
            refine .ng ?_
            refine .ret ?_
            refine Block.rt ?_
            refine Next.rt ?_
            refine Ret.go (.cons (.tmp _ _ rfl) .nil) _ (Heap.le.refl _) ?_
            refine ⟨?_, rfl⟩
            simp only [packed, kindN]
            congr 1
            (repeat' split) <;> first | rfl | omega
          · try simp only [decide_eq_false_iff_not] at hc27
            refine .skip ?_
            refine Block.go ?_
            refine Next.go ?_
            refine .sr ?_
            refine .p rfl (pure_assign ev_int) ?_
            refine .ng ?_
            refine .ret ?_
            refine Ret.go (.cons (.tmp _ _ rfl) .nil) _ (Heap.le.refl _) ?_
            refine ⟨?_, rfl⟩
            simp only [packed, kindN]
            congr 1
            (repeat' split) <;> first | rfl | omega
      · have hh23 := hg23; try simp only [decide_eq_false_iff_not] at hh23
        refine .gn rfl rfl rfl (by assumption) ?_
        refine .gn rfl rfl rfl (by assumption) ?_
        refine .p rfl (pure_pickF (tm rfl) (by assumption) ev_bool) ?_
        refine .as rfl rfl ?_
        refine .ng ?_
        refine AWP.cond_false (tm rfl) (by rfl) ?_
        refine .sr ?_
        refine .mv rfl rfl ?_
        refine .p rfl (pure_eql (tm rfl) (ev_nat 0)) ?_
        refine .as rfl rfl ?_
        refine .ng ?_
        refine AWP.cond (tm rfl) (fun hc27 => ?_) (fun hc27 => ?_)
        · try simp only [decide_eq_true_eq] at hc27
          refine .sr ?_
          refine .p rfl (pure_assign ev_int) ?_
          refine .ng ?_
          refine .ret ?_
          refine Block.rt ?_
          refine Next.rt ?_
          refine Ret.go (.cons (.tmp _ _ rfl) .nil) _ (Heap.le.refl _) ?_
          refine ⟨?_, rfl⟩
          simp only [packed, kindN]
          congr 1
          (repeat' split) <;> first | rfl | omega
        · try simp only [decide_eq_false_iff_not] at hc27
          refine .skip ?_
          refine Block.go ?_
          refine Next.go ?_
          refine .sr ?_
          refine .p rfl (pure_assign ev_int) ?_
          refine .ng ?_
          refine .ret ?_
          refine Ret.go (.cons (.tmp _ _ rfl) .nil) _ (Heap.le.refl _) ?_
          refine ⟨?_, rfl⟩
          simp only [packed, kindN]
          congr 1
          (repeat' split) <;> first | rfl | omega

end Go.Proofs.YtifoddpbmlajfaaGreatDoor
