import Derived.Test.YteedncdcbgplfaaGreatDoorK7
set_option maxHeartbeats 1000000
namespace Go.Proofs.YteedncdcbgplfaaGreatDoor
open Go.Proofs.Tryz
open Go Go.RowKit
theorem bvU {o : Loc} (ho : o.ok) {s : SecN} (h : zY s = 2 ∨ zY s = 3) (hl : s.items.length ≤ 100) {neg : Bool} {ds : List UInt8} {e : Int} (hr : yN ds e = true) (hp : -4000 ≤ yF ds e ∧ yF ds e ≤ 4000) :
  (boT s.items s.grouped s.scale o neg ds e (s.items.map (abY o))).map Pc.txt = bmC s.items s.grouped s.scale o neg ds e ((s.items.map (abY o)).map Pc.txt) ∧
  ∀ q : List (List UInt8), q = abN s.items (arT (akI s.items s.scale neg ds e) (abS s.items).length).2 0 (abS s.items) (bbE s.items neg ds e ((s.items.map (abY o)).map Pc.txt)) → (afU s.items).length = 0 → yC s.items [3, 5] < s.items.length ∧ (q.getD (yC s.items [3, 5]) []).length ≤ 1000 := by
 obtain ⟨h1, _, h3, h4, _⟩ := ahE h
 obtain ⟨f1, f2, f3⟩ := apZ h
 have hok := auX (l := s.items) (sc := s.scale) (neg := neg) hr hp aA aA
 have hc5 := aaK s.items [5]
 have hlb : (abS s.items).length ≤ s.items.length := bH (abA _ _ _) hc5
 refine ⟨bgK f1 f2 (fun k hk hd => byP h1 hk hd) (fun q => (f3 q).1) ?_, fun q hq hz => ?_⟩
 ·exact (atS hok.1 hok.2).1
 obtain ⟨g1, g2⟩ := f2 hz
 refine ⟨by omega, ?_⟩
 rw [hq, amZ 0 (abS s.items) _ (fun z => by have := (qM.1 z).2.2; rw [g2] at this; cases this), aqB (fun q => (f3 q).1) g1, ayB o aA g2]
 have := ho.1; omega
theorem bjR{o:Loc}(ho:o.ok){s:SecN}(hl:s.items.length≤100)(hi:s.items.all afS=true){x:Nat}(hk:yZ x<3):((qI o s x).1.map Pc.txt).flatten.length≤1000000000:=by
 have:=(anS ho hl hi hk).2;unfold afA at this;omega
section
open Go Go.RowKit
set_option maxRecDepth 100000
theorem bfX(x:Nat)(hx:x<18446744073709551616)(hk:yZ x<3):Fn 44 [.int .u64 (x:Int)] (.int .u64 ((abK x:Nat):Int)):=by
 intro H;refine .of_body func44 rfl ntmps44 results44 rfl ?_;iterate 9 refine AM ?_
 refine .cl rfl C17 (evs1 rfl) (abE x hx _) ?_;iterate 3 refine AX ?_
 refine .cx rfl (λhc5=>?_) (λhc5=>?_)
 ·omega
 iterate 11 refine AM ?_
 exact⟨rfl,rfl⟩
theorem auL (p : List SecN) (tp : Tail) (hs : ∀ s, s ∈ p → s.items.length ≤ 1000) (x : Nat) (hx : x < 18446744073709551616) (o : Loc) (ho : o.ok) (hs2 : o.second = 2 ∨ o.second = 3) (H : Heap) : ACall prog 13 [adV p tp, .int .u64 (x : Int), rL o] H (fun y H' => y = .tuple [.str (yV o p x).1, .int .i64 (yV o p x).2] ∧ H' = H) := by
 refine ACall.of_body func13 rfl ntmps13 results13 rfl ?_
 iterate 10 refine AX ?_
 refine .cl rfl C18 (evs1 rfl) (aeA p tp hs _) ?_
 iterate 10 refine AX ?_
 refine AWP.cx rfl (fun hc19 => ?_) (fun hc19 => ?_)
 ·iterate 9 refine AX ?_
  refine ⟨?_, rfl⟩
  unfold yV
  rw [aN (by simpa using hc19)]; rfl
 have hr : aaN p = true := by simpa using hc19
 obtain ⟨hp1, hp4⟩ := aeJ hr
 obtain ⟨hl1, hl2, hl3⟩ := ahI hr (atV hp1 x)
 iterate 6 refine AX ?_
 refine .cl rfl C17 (evs1 rfl) (abE x hx _) ?_
 iterate 3 refine AX ?_
 refine AWP.cx rfl (fun hc22 => ?_) (fun hc22 => ?_)
 ·iterate 9 refine AX ?_
  refine ⟨?_, rfl⟩
  unfold yV
  rw [aM (by rw [hr]; simp), aK]; rfl
 have hk : yZ x < 3 := by omega
 have hka : yZ (abK x) < 3 := by rw [alC]; exact hk
 have hax := alB x
 obtain ⟨hq1, hq2⟩ := anS ho hl1 hl2 hk
 have hq3 := bjR ho hl1 hl2 hk
 have hnt : yV o p x = ((if (qI o (aqU p x) x).2 = true ∧ x / 9223372036854775808 = 1 ∧ p.length = 1 then o.minus else []) ++ afA (qI o (aqU p x) x).1, 0) := by unfold yV; rw [aM (by rw [hr]; simp), aJ]
 have hsec := aqY p tp ⟨hp1, hp4⟩ x hx
 generalize aqU p x = z at *
 obtain ⟨l, gr, sc⟩ := z
 have hl1 : l.length ≤ 100 := hl1
 have hq1 : (qI o ⟨l, gr, sc⟩ x).1.length = l.length := hq1
 have hq3 : ((qI o ⟨l, gr, sc⟩ x).1.map Pc.txt).flatten.length ≤ 1000000000 := hq3
 iterate 6 refine AX ?_
 refine .cl rfl call42 (evs2 rfl rfl) (hsec _) ?_
 refine .al zr48 (fun b9 hb9 => ?_)
 iterate 3 refine AX ?_
 refine AWP.frz (t := 9) rfl (hb9) ?_
 iterate 4 refine AX ?_
 refine .s rfl (zD call43 (evs2 rfl rfl) (asC l gr sc o aA _)) ?_
 rintro _ _ ⟨b, rfl, hb, rfl⟩
 iterate 6 refine AX ?_
 refine .cl rfl call44 (evs1 rfl) (bfX x hx hk _) ?_
 iterate 8 refine AX ?_
 refine AWP.meet (fun env H2 => env = [(0, adV p tp), (1, .int .u64 (x : Int)), (5, .iptr (rL o).cells), (10, .iptr (acW l gr sc o b l.length)), (12, .bool (qI o ⟨l, gr, sc⟩ x).2)] ∧ H2 = H.set b (wdR ((qI o ⟨l, gr, sc⟩ x).1.map Pc.txt))) ?_ ?_
 ·iterate 3 refine AX ?_
  refine .cl rfl C16 (evs1 rfl) (afK l gr sc _ aA _) ?_
  iterate 9 refine AX ?_
  refine AWP.cx rfl (fun hc33 => ?_) (fun hc33 => ?_)
  ·iterate 4 refine AX ?_
   refine .cl rfl call46 (evs2 rfl rfl) (aiQ o ho x hx _) (.s rfl (zD call45 (.cons (tm rfl) (.cons zJ (evs1 rfl))) (aiZ l gr sc o b l.length ((l.map (abY o)).map Pc.txt) aF rfl aA 8 _ _ (oS _ _ _))) ?_)
   rintro _ _ rfl
   rw [sS]
   iterate 3 refine AX ?_
   refine Meets.mk (M := fun env H2 => env = [(0, adV p tp), (1, .int .u64 (x : Int)), (5, .iptr (rL o).cells), (10, .iptr (acW l gr sc o b l.length)), (12, .bool (qI o ⟨l, gr, sc⟩ x).2)] ∧ H2 = H.set b (wdR ((qI o ⟨l, gr, sc⟩ x).1.map Pc.txt))) ⟨rfl, congrArg (fun z => H.set b (wdR z)) (by rw [avP]; exact congrArg (List.map Pc.txt) (show _ = (qI o ⟨l, gr, sc⟩ x).1 by unfold qI; rw [aN (show zY ⟨l, gr, sc⟩ = 6 by omega)]))⟩ (zF rfl (zF rfl (zF rfl (zF rfl (zU rfl ((by unfold qI; rw [aN (show zY ⟨l, gr, sc⟩ = 6 by omega)] <;> rfl)) zW))))) (hRa _)
  iterate 6 refine AX ?_
  refine AWP.cx rfl (fun hc40 => ?_) (fun hc40 => ?_)
  ·iterate 4 refine AX ?_
   refine .cl rfl call46 (evs2 rfl rfl) (aiQ o ho (abK x) hax _) ?_
   iterate 7 refine AX ?_
   refine .s rfl (zD call45 (.cons (tm rfl) (.cons zJ (evs1 rfl))) (aiZ l gr sc o b l.length ((l.map (abY o)).map Pc.txt) aF rfl aA 7 _ _ (oS _ _ _))) ?_
   rintro _ _ rfl
   rw [sS]
   iterate 9 refine AX ?_
   refine Meets.mk (M := fun env H2 => env = [(0, adV p tp), (1, .int .u64 (x : Int)), (5, .iptr (rL o).cells), (10, .iptr (acW l gr sc o b l.length)), (12, .bool (qI o ⟨l, gr, sc⟩ x).2)] ∧ H2 = H.set b (wdR ((qI o ⟨l, gr, sc⟩ x).1.map Pc.txt))) ⟨rfl, congrArg (fun z => H.set b (wdR z)) (by rw [avP]; exact congrArg (List.map Pc.txt) (show _ = (qI o ⟨l, gr, sc⟩ x).1 by unfold qI; rw [aM (show ¬ zY ⟨l, gr, sc⟩ = 6 by omega), aN (show zY ⟨l, gr, sc⟩ = 5 by omega)]))⟩ (zF rfl (zF rfl (zF rfl (zF rfl (zU rfl ((by unfold qI; rw [aM (show ¬ zY ⟨l, gr, sc⟩ = 6 by omega), aN (show zY ⟨l, gr, sc⟩ = 5 by omega)]; exact congrArg AV.bool decide_not.symm)) zW))))) (hRa _)
  refine AWP.seqToL [(50, .bool (decide (zY ⟨l, gr, sc⟩ = 2 ∨ zY ⟨l, gr, sc⟩ = 3)))] [0, 1, 5, 6, 7, 10, 11, 12, 32] ?_ ?_
  ·iterate 6 refine AX ?_
   refine AWP.cx rfl (fun hc50 => ?_) (fun hc50 => ?_)
   ·refine AX ?_
    exact ⟨rfl, (zU rfl (by exact congrArg AV.bool (aO.2 aA)) sX), rfl⟩
   iterate 4 refine AX ?_
   exact ⟨rfl, (zU rfl (by exact congrArg AV.bool (aO.2 aA)) sX), rfl⟩
  refine AWP.sub [(50, _), (0, _), (1, _), (5, _), (6, _), (7, _), (10, _), (11, _), (12, _), (32, _)] sX ?_
  refine AWP.cx rfl (fun hc50 => ?_) (fun hc50 => ?_)
  ·have hsh : zY ⟨l, gr, sc⟩ = 2 ∨ zY ⟨l, gr, sc⟩ = 3 := by omega
   obtain ⟨_, hx6, hs3, hs4, _⟩ := ahE hsh
   obtain ⟨_, _, hn3⟩ := apZ hsh
   have hn3 : yC l [5] < l.length → acN l (yC l [5]) l.length ≠ [] ∧ sc = 0 := hn3
   have hs3 : 0 ≤ sc := hs3
   have hs4 : sc ≤ 9 := hs4
   have hfine := aqN hka
   have hdr := acO (abK x)
   have hnum := bvU (s := ⟨l, gr, sc⟩) ho hsh hl1 (neg := (agF (abK x)).1.1) hdr hfine
   iterate 3 refine AX ?_
   refine .cl rfl call47 (evs1 rfl) (aoU (abK x) hax _) ?_
   iterate 3 refine AX ?_
   refine .al zr61 (fun b14 hb14 => ?_)
   iterate 4 refine AX ?_
   refine AWP.frz (t := 14) rfl (hb14) ?_
   iterate 3 refine AX ?_
   refine .s rfl (zD call48 (evs2 rfl rfl) (arA l gr sc o b l.length ((l.map (abY o)).map Pc.txt) ho hs2 aA aA rfl aF (agF (abK x)).1.1 (agF (abK x)).1.2.1 (agF (abK x)).1.2.2 hdr hfine (bnG hx6) (fun q => (hn3 q).2) (fun q => (hn3 q).1) hnum.2 _ (oS _ _ _))) ?_
   rintro _ _ ⟨rfl, hH⟩
   obtain rfl := hH
   rw [sS]
   iterate 4 refine AX ?_
   refine Meets.mk (M := fun env H2 => env = [(0, adV p tp), (1, .int .u64 (x : Int)), (5, .iptr (rL o).cells), (10, .iptr (acW l gr sc o b l.length)), (12, .bool (qI o ⟨l, gr, sc⟩ x).2)] ∧ H2 = H.set b (wdR ((qI o ⟨l, gr, sc⟩ x).1.map Pc.txt))) ⟨rfl, congrArg (fun z => H.set b (wdR z)) (by rw [← hnum.1]; exact congrArg (List.map Pc.txt) (show _ = (qI o ⟨l, gr, sc⟩ x).1 by unfold qI; rw [aM (show ¬ zY ⟨l, gr, sc⟩ = 6 by omega), aM (show ¬ zY ⟨l, gr, sc⟩ = 5 by omega), aN (show zY ⟨l, gr, sc⟩ = 2 ∨ zY ⟨l, gr, sc⟩ = 3 by omega)]))⟩ (zF rfl (zF rfl (zF rfl (zF rfl (zU rfl ((by unfold qI; rw [aM (show ¬ zY ⟨l, gr, sc⟩ = 6 by omega), aM (show ¬ zY ⟨l, gr, sc⟩ = 5 by omega), aN (show zY ⟨l, gr, sc⟩ = 2 ∨ zY ⟨l, gr, sc⟩ = 3 by omega)] <;> rfl)) zW))))) (hRa _)
  iterate 6 refine AX ?_
  refine AWP.cx rfl (fun hc61 => ?_) (fun hc61 => ?_)
  ·obtain ⟨_, hfg, _, hf4, hf5, hf6, hf7, _⟩ := alM (s := ⟨l, gr, sc⟩) aA
   have hfs : yW l ≤ l.length := aaK l [6]
   have hnf := bmD (l := l) hf6 hfs hf7
   have hfrt := brB (l := l) gr o (afB (abK x) (adE l)) (l.map (abY o)) hnf
   have hmo : 1 ≤ adE l ∧ adE l ≤ 9999 := by
    have hf4 : 1 ≤ (abH l).length := hf4
    have hf5 : (abH l).length ≤ 4 := hf5
    unfold adE; rcases (by omega : (abH l).length = 1 ∨ (abH l).length = 2 ∨ (abH l).length = 3 ∨ (abH l).length = 4) with q | q | q | q <;> rw [q] <;> decide
   have hfb := brC l (abK x) hmo
   iterate 3 refine AX ?_
   refine .s rfl (zD call49 (evs2 rfl rfl) (anH l gr sc o b l.length ((l.map (abY o)).map Pc.txt) ho hs2 aA rfl aF (abK x) hax hka hfs hnf hf4 hf5 _ (oS _ _ _))) ?_
   rintro _ _ ⟨rfl, hH⟩
   obtain rfl := hH
   rw [sS]
   iterate 4 refine AX ?_
   refine Meets.mk (M := fun env H2 => env = [(0, adV p tp), (1, .int .u64 (x : Int)), (5, .iptr (rL o).cells), (10, .iptr (acW l gr sc o b l.length)), (12, .bool (qI o ⟨l, gr, sc⟩ x).2)] ∧ H2 = H.set b (wdR ((qI o ⟨l, gr, sc⟩ x).1.map Pc.txt))) ⟨rfl, congrArg (fun z => H.set b (wdR z)) (by rw [← hfrt]; exact congrArg (List.map Pc.txt) (show _ = (qI o ⟨l, gr, sc⟩ x).1 by unfold qI; rw [aM (show ¬ zY ⟨l, gr, sc⟩ = 6 by omega), aM (show ¬ zY ⟨l, gr, sc⟩ = 5 by omega), aM (show ¬ (zY ⟨l, gr, sc⟩ = 2 ∨ zY ⟨l, gr, sc⟩ = 3) by omega), aN (show zY ⟨l, gr, sc⟩ = 4 by omega)]))⟩ (zF rfl (zF rfl (zF rfl (zF rfl (zU rfl ((by rw [← hfb]; exact congrArg AV.bool (show _ = (qI o ⟨l, gr, sc⟩ x).2 by unfold qI; rw [aM (show ¬ zY ⟨l, gr, sc⟩ = 6 by omega), aM (show ¬ zY ⟨l, gr, sc⟩ = 5 by omega), aM (show ¬ (zY ⟨l, gr, sc⟩ = 2 ∨ zY ⟨l, gr, sc⟩ = 3) by omega), aN (show zY ⟨l, gr, sc⟩ = 4 by omega)]))) zW))))) (hRa _)
  iterate 3 refine AX ?_
  refine Meets.mk (M := fun env H2 => env = [(0, adV p tp), (1, .int .u64 (x : Int)), (5, .iptr (rL o).cells), (10, .iptr (acW l gr sc o b l.length)), (12, .bool (qI o ⟨l, gr, sc⟩ x).2)] ∧ H2 = H.set b (wdR ((qI o ⟨l, gr, sc⟩ x).1.map Pc.txt))) ⟨rfl, congrArg (fun z => H.set b (wdR z)) (congrArg (List.map Pc.txt) (show _ = (qI o ⟨l, gr, sc⟩ x).1 by unfold qI; rw [aM (show ¬ zY ⟨l, gr, sc⟩ = 6 by omega), aM (show ¬ zY ⟨l, gr, sc⟩ = 5 by omega), aM (show ¬ (zY ⟨l, gr, sc⟩ = 2 ∨ zY ⟨l, gr, sc⟩ = 3) by omega), aM (show ¬ zY ⟨l, gr, sc⟩ = 4 by omega)]))⟩ (zF rfl (zF rfl (zF rfl (zF rfl (zU rfl ((by unfold qI; rw [aM (show ¬ zY ⟨l, gr, sc⟩ = 6 by omega), aM (show ¬ zY ⟨l, gr, sc⟩ = 5 by omega), aM (show ¬ (zY ⟨l, gr, sc⟩ = 2 ∨ zY ⟨l, gr, sc⟩ = 3) by omega), aM (show ¬ zY ⟨l, gr, sc⟩ = 4 by omega)] <;> rfl)) zW))))) (hRa _)
 rintro _ _ ⟨rfl, rfl⟩
 generalize qI o ⟨l, gr, sc⟩ x = S at *
 refine AX ?_
 refine AWP.seqTo 75 (.bool (decide (S.2 = true ∧ x / 9223372036854775808 = 1 ∧ p.length = 1))) [5, 10] ?_ ?_
 ·-- region 23
  iterate 3 refine AX ?_
  refine zC (t := 67) rfl (fun hg67 => ?_) (fun hg67 => ?_)
  ·have hh67 := hg67; try simp only [aL] at hh67
   iterate 5 refine AX ?_
   refine zC (t := 72) rfl (fun hg72 => ?_) (fun hg72 => ?_)
   ·have hh72 := hg72; try simp only [aL] at hh72
    refine AX ?_
    refine .gs rfl rfl rfl aB (zD C50 (evs1 rfl) (ahJ x hx _)) ?_
    rintro _ _ ⟨rfl, hH⟩
    obtain rfl := hH.symm
    iterate 2 refine AX ?_
    exact ⟨rfl, zO rfl (by (refine Eq.symm ?_; (try unfold ahQ); first | (refine aO.2 ⟨fun q => by omega, fun q => ⟨by assumption, by omega, by omega⟩⟩) | (refine aP fun q => ?_; obtain ⟨q1, q2, q3⟩ := q; first | omega | simp_all))) sX, rfl⟩
   have hh72 := hg72; try simp only [aL] at hh72
   iterate 4 refine AX ?_
   exact ⟨rfl, zO rfl (by (refine Eq.symm ?_; (try unfold ahQ); first | (refine aO.2 ⟨fun q => by omega, fun q => ⟨by assumption, by omega, by omega⟩⟩) | (refine aP fun q => ?_; obtain ⟨q1, q2, q3⟩ := q; first | omega | simp_all))) sX, rfl⟩
  have hh67 := hg67; try simp only [aL] at hh67
  iterate 9 refine AX ?_
  exact ⟨rfl, zO rfl (by (refine Eq.symm ?_; (try unfold ahQ); first | (refine aO.2 ⟨fun q => by omega, fun q => ⟨by assumption, by omega, by omega⟩⟩) | (refine aP fun q => ?_; obtain ⟨q1, q2, q3⟩ := q; first | omega | simp_all))) sX, rfl⟩
 refine AWP.sub [(75, _), (5, _), (10, _)] sX ?_
 refine AWP.cx rfl (fun hc75 => ?_) (fun hc75 => ?_)
 ·refine AX ?_
  refine AWP.draw [(0, true), (1, true), (2, true), (3, false), (4, true), (5, true), (6, true)] rfl aE ?_
  refine .p rfl rfl (zA U34 rfl Z9 (tm rfl)) ?_
  iterate 2 refine AX ?_
  refine .s rfl rfl (zD call51 (evs1 rfl) (ahH l gr sc o b l.length (S.1.map Pc.txt) (by rw [bQ]; exact hq1) aA hq3 _ (oS _ _ _))) ?_
  rintro _ _ ⟨rfl, hH⟩
  obtain rfl := hH.symm
  refine .p rfl rfl (zQ (tm rfl) (tm rfl) (by have := ho.2.2.1; rw [zN]; omega)) ?_
  iterate 6 refine AX ?_
  refine Ret.go (.cons (.tmp _ _ rfl) (.cons (.tmp _ _ rfl) .nil)) H (Heap.le_set hb _) ?_
  refine ⟨?_, rfl⟩
  rw [hnt, aN hc75]; rfl
 iterate 5 refine AX ?_
 refine .cl rfl call51 (evs1 rfl) (ahH l gr sc o b l.length (S.1.map Pc.txt) (by rw [bQ]; exact hq1) aA hq3 _ (oS _ _ _)) ?_
 iterate 5 refine AX ?_
 refine Ret.go (.cons (.tmp _ _ rfl) (.cons (.tmp _ _ rfl) .nil)) H (Heap.le_set hb _) ?_
 refine ⟨?_, rfl⟩
 rw [hnt, aM hc75, cP]; rfl

end
end Go.Proofs.YteedncdcbgplfaaGreatDoor
