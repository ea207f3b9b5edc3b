import Derived.Test.YtmmgbnolccpjoaaGreatDoorZb
import Derived.Test.YtmmgbnolccpjoaaGreatDoorRows
import Derived.Lib.ItoaNum
namespace Go.Proofs.YtmmgbnolccpjoaaGreatDoor
open Go.Proofs.Tryz
open Go
def agY:Nat→DataW Unit→Option (List Value)
 |0,_=>none
 |_+1,.lit (.int k m)=>some [.int k m]
 |_+1,.lit (.string s)=>some [.string ⟨s.toArray⟩]
 |_+1,.lit (.bool b)=>some [.bool b]
 |n+1,.agg ds=>ds.foldr (λd r=>match agY n d,r with|some x,some y=>some (x++y)|_,_=>none) (some [])
 |_,_=>none
def auS:List (Nat×DataW Unit):=[(0,Rows.laid_tabard_locale_names),(1,Rows.laid_tabard_locale_signs),(5,Rows.laid_unicode_utf8_first),(6,Rows.laid_unicode_utf8_acceptRanges),(7,Rows.laid_internal_strconv_uint64pow10),(10,Rows.laid_math_bits_deBruijn32tab),(11,Rows.laid_math_bits_deBruijn64tab)]
structure Inv (W:World):Prop where
 rows:∀n d,(n,d)∈auS→∀xs,agY 4 d=some xs→∃T fz,W.heap[n]?=some (.cells xs.toArray T fz)
 tab:∃t f,W.heap[7]?=some (.cells (Lib.pow10Tab.map λz=>Value.int .u64 z).toArray t f)
 errs:∀n,n=8∨n=9→∃te pe,W.cell? ⟨n,0,none⟩=some (.iface te pe)
 max:∃m,W.cell? ⟨2,0,none⟩=some (.int .i64 m)
 size:12≤W.heap.size
theorem cdF{n:Nat}{d:DataW Unit}(h:(n,d)∈auS):n<12:=by
 simp only[auS,cP,Prod.mk.injEq,eW,or_false]at h;omega
theorem bgK{w w':World}{b:Nat}(h:w'.heap[b]?=w.heap[b]?):w'.cell? ⟨b,0,none⟩=w.cell? ⟨b,0,none⟩:=by
 unfold World.cell?;rw[h]
theorem Inv.grow{w w':World}(h:Inv w)(hs:w.heap.size≤w'.heap.size)(hb:∀k,k<w.heap.size→w'.heap[k]?=w.heap[k]?):Inv w':=by
 have h12:=h.size;exact{
   rows:=λn d hn xs hx=>by rw[hb n (by have:=cdF hn;omega)];exact h.rows n d hn xs hx
   tab:=by rw[hb 7 aA];exact h.tab
   errs:=λn hn=>by rw[bgK (hb n aA)];exact h.errs n hn
   max:=by rw[bgK (hb 2 aA)];exact h.max
   size:=aZ h12 hs}
end Go.Proofs.YtmmgbnolccpjoaaGreatDoor
