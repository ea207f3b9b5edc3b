import Derived.Test.YteedncdcbgplfaaGreatDoorX1
namespace Go.Proofs.YteedncdcbgplfaaGreatDoor
open Go.Proofs.Tryz
open Go Go.RowKit Go.Shelf
section
set_option maxRecDepth 100000
theorem aqV{W:World}(h:Inv W){n:Nat}{d:DataW Unit}{xs:List Value}(hn:(n,d)∈asI)(hx:agB 4 d=some xs){i:Nat}{v:Value}(hi:xs[i]?=some v):W.cell? ⟨n,i,none⟩=some v:=by
 obtain⟨T,fz,hh⟩:=h.rows n d hn xs hx;unfold World.cell?;rw[hh];simpa using hi
theorem boN:agB 4 Rows.laid_unicode_utf8_first=some ((List.range 256).map λc=>Value.int .u8 (Lib.firstT c)):=by kernel_rfl
theorem asQ:agB 4 Rows.laid_unicode_utf8_acceptRanges=some ((List.range 32).map λc=>Value.int .u8 (if c%2=0 then Lib.accLo (c/2)else Lib.accHi (c/2))):=by kernel_rfl
theorem Sat.utf8{g:G}{H:Heap}{w:World}(s:Sat g H w):Lib.Utf8Tabs 2 3 w:=by
 have hl:=g.hinv.size;have key:∀(n:Nat),n<10→∀i,w.cell? ⟨n,i,none⟩=g.base.cell? ⟨n,i,none⟩:=λn hn i=>World.cell?_of_block (s.below.block n aA);refine⟨λc hc=>?_,λi hi=>⟨?_,?_⟩⟩
 ·rw[key 2 aC];exact aqV g.hinv (by simp[asI]) boN (by simp[hc])
 ·rw[key 3 aC];refine aqV g.hinv (by simp[asI]) asQ ?_;rw[cT,List.getElem?_range aA];simp
 rw[key 3 aC];refine aqV g.hinv (by simp[asI]) asQ ?_;rw[cT,List.getElem?_range aA];simp only[Option.map_some];rw[aJ,show(2*i+1)/2=i by omega]
end
section
open Go Go.RowKit
theorem afM(s p:List UInt8):(Lib.trimPrefix s p).length≤s.length:=by
 unfold Lib.trimPrefix;split
 ·rw[bO];omega
 exact aZ _
theorem adI(s p:List UInt8):(Lib.trimSuffix s p).length≤s.length:=by
 unfold Lib.trimSuffix;split
 ·rw[aV];omega
 exact aZ _
theorem bgX(s p:List UInt8):(Lib.cut s p).1.length≤s.length∧(Lib.cut s p).2.1.length≤s.length:=by
 unfold Lib.cut;split
 ·simp only[aV,bO];omega
 exact⟨aZ _,Nat.zero_le _⟩
theorem cutPrefixA(s p:List UInt8):Fn 66 [.str s,.str p] (.tuple [.str (Lib.trimPrefix s p),.bool (Lib.hasPrefix s p)]):=by
 intro H;refine .lib _ λg vs w k st=>?_;obtain⟨v,u,rfl,hv,hu⟩:=relvs2 k;cases hv with|str _ hs=>?_
 cases hu
 refine(Tryz.strings_CutPrefix ⟨s.toArray⟩ ⟨p.toArray⟩ w).mono ?_;rintro e w' ⟨rfl,rfl⟩;exact⟨_,rfl,RelV.two (.str _ (bC (afM s p) hs)) (.bool _),Below.refl _ _⟩
theorem cutSuffixA(s p:List UInt8):Fn 67 [.str s,.str p] (.tuple [.str (Lib.trimSuffix s p),.bool (Lib.hasSuffix s p)]):=by
 intro H;refine .lib _ λg vs w k st=>?_;obtain⟨v,u,rfl,hv,hu⟩:=relvs2 k;cases hv with|str _ hs=>?_
 cases hu
 refine(Tryz.strings_CutSuffix ⟨s.toArray⟩ ⟨p.toArray⟩ w (by show s.toArray.size≤_;rw[zQ]at hs;simpa using hs)).mono ?_;rintro e w' ⟨rfl,rfl⟩;exact⟨_,rfl,RelV.two (.str _ (bC (adI s p) hs)) (.bool _),Below.refl _ _⟩
theorem cutA(s p:List UInt8)(hs:s.length≤1000000):Fn 224 [.str s,.str p] (.tuple [.str (Lib.cut s p).1,.str (Lib.cut s p).2.1,.bool (Lib.cut s p).2.2]):=by
 intro H;refine .lib _ λg vs w k st=>?_;obtain⟨v,u,rfl,hv,hu⟩:=relvs2 k;cases hv with|str _ hs2=>?_
 cases hu
 obtain⟨m,hm⟩:=st.maxCell;refine(Tryz.strings_Cut ⟨s.toArray⟩ ⟨p.toArray⟩ m w (by show s.toArray.size<_;rw[eH];omega) hm).mono ?_;rintro e w' ⟨rfl,n,rfl⟩;have hl:=bgX s p;refine⟨_,rfl,.tuple _ _ rfl λi c z hc hz=>?_,bhF _ _ _⟩
 match i with
 |0=>simp at hc hz;subst hc;subst hz;exact .str _ (bC hl.1 hs2)
 |1=>simp at hc hz;subst hc;subst hz;exact .str _ (bC hl.2 hs2)
 |2=>simp at hc hz;subst hc;subst hz;exact .bool _
 |_+3=>simp at hc
theorem indexByteA(s:List UInt8)(c:Nat):Fn 135 [.str s,.int .u8 (c:Int)] (.int .i64 (Lib.indexByte s c.toUInt8)):=by
 intro H;refine .lib _ λg vs w k st=>?_;obtain⟨v,u,rfl,hv,hu⟩:=relvs2 k;cases hv;cases hu
 refine(Tryz.strings_IndexByte ⟨s.toArray⟩ (c:Int) w).mono ?_;rintro e w' ⟨rfl,rfl⟩;rw[dZ];exact⟨_,rfl,.int _ _,Below.refl _ _⟩
end
end Go.Proofs.YteedncdcbgplfaaGreatDoor
