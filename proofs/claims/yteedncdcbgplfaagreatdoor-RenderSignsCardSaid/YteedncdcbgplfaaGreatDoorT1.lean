import Derived.Test.YteedncdcbgplfaaGreatDoorX1
namespace Go.Proofs.YteedncdcbgplfaaGreatDoor
open Go.Proofs.Tryz
open Go Go.RowKit Go.Shelf
section
set_option maxRecDepth 100000
theorem aoZ{W:World}(h:Inv W){n:Nat}{d:DataW Unit}{xs:List Value}(hn:(n,d)∈aqE)(hx:afD 4 d=some xs){i:Nat}{v:Value}(hi:xs[i]?=some v):W.cell? ⟨n,i,none⟩=some v:=by
 obtain⟨T,fz,hh⟩:=h.rows n d hn xs hx;unfold World.cell?;rw[hh];simpa using hi
theorem bhC:afD 4 Rows.laid_unicode_utf8_first=some ((List.range 256).map λc=>Value.int .u8 (Lib.firstT c)):=by kernel_rfl
theorem aqI:afD 4 Rows.laid_unicode_utf8_acceptRanges=some ((List.range 32).map λc=>Value.int .u8 (if c%2=0 then Lib.accLo (c/2)else Lib.accHi (c/2))):=by kernel_rfl
theorem Sat.utf8{g:G}{H:Heap}{w:World}(s:Sat g H w):Lib.Utf8Tabs 2 3 w:=by
 have hl:=g.hinv.size;have key:∀(n:Nat),n<10→∀i,w.cell? ⟨n,i,none⟩=g.base.cell? ⟨n,i,none⟩:=λn hn i=>World.cell?_of_block (s.below.block n aA);refine⟨λc hc=>?_,λi hi=>⟨?_,?_⟩⟩
 ·rw[key 2 aC];exact aoZ g.hinv (by simp[aqE]) bhC (by simp[hc])
 ·rw[key 3 aC];refine aoZ g.hinv (by simp[aqE]) aqI ?_;rw[cH,List.getElem?_range aA];simp
 rw[key 3 aC];refine aoZ g.hinv (by simp[aqE]) aqI ?_;rw[cH,List.getElem?_range aA];simp only[Option.map_some];rw[aJ,show(2*i+1)/2=i by omega]
end
section
open Go Go.RowKit
theorem indexByteA(s:List UInt8)(c:Nat):Fn 135 [.str s,.int .u8 (c:Int)] (.int .i64 (Lib.indexByte s c.toUInt8)):=by
 intro H;refine .lib _ λg vs w k st=>?_;obtain⟨v,u,rfl,hv,hu⟩:=relvs2 k;cases hv;cases hu
 refine(Tryz.strings_IndexByte ⟨s.toArray⟩ (c:Int) w).mono ?_;rintro e w' ⟨rfl,rfl⟩;rw[Int.toNat_natCast];exact⟨_,rfl,.int _ _,Below.refl _ _⟩
end
end Go.Proofs.YteedncdcbgplfaaGreatDoor
