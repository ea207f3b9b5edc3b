import Derived.Test.YteedncdcbgplfaaGreatDoorZb
import Derived.Test.YteedncdcbgplfaaGreatDoorRows
import Derived.Lib.ItoaNum
namespace Go.Proofs.YteedncdcbgplfaaGreatDoor
open Go.Proofs.Tryz
open Go
def agB:Nat→DataW Unit→Option (List Value)
 |0,_=>none
 |_+1,.lit (.int k m)=>some [.int k m]
 |_+1,.lit (.string s)=>some [.string ⟨s.toArray⟩]
 |_+1,.lit (.bool b)=>some [.bool b]
 |n+1,.agg ds=>ds.foldr (λd r=>match agB n d,r with|some x,some y=>some (x++y)|_,_=>none) (some [])
 |_,_=>none
def asI:List (Nat×DataW Unit):=[(0,Rows.laid_tabard_locale_names),(1,Rows.laid_tabard_locale_signs),(2,Rows.laid_unicode_utf8_first),(3,Rows.laid_unicode_utf8_acceptRanges),(7,Rows.laid_internal_strconv_uint64pow10),(8,Rows.laid_math_bits_deBruijn32tab),(9,Rows.laid_math_bits_deBruijn64tab)]
structure Inv (W:World):Prop where
 rows:∀n d,(n,d)∈asI→∀xs,agB 4 d=some xs→∃T fz,W.heap[n]?=some (.cells xs.toArray T fz)
 tab:∃t f,W.heap[7]?=some (.cells (Lib.pow10Tab.map λz=>Value.int .u64 z).toArray t f)
 errs:∀n,n=4∨n=5→∃te pe,W.cell? ⟨n,0,none⟩=some (.iface te pe)
 max:∃m,W.cell? ⟨6,0,none⟩=some (.int .i64 m)
 size:10≤W.heap.size
theorem cbE{n:Nat}{d:DataW Unit}(h:(n,d)∈asI):n<10:=by
 simp only[asI,dG,Prod.mk.injEq,gH,or_false]at h;omega
theorem bdA{w w':World}{b:Nat}(h:w'.heap[b]?=w.heap[b]?):w'.cell? ⟨b,0,none⟩=w.cell? ⟨b,0,none⟩:=by
 unfold World.cell?;rw[h]
theorem Inv.grow{w w':World}(h:Inv w)(hs:w.heap.size≤w'.heap.size)(hb:∀k,k<w.heap.size→w'.heap[k]?=w.heap[k]?):Inv w':=by
 have h10:=h.size;exact{
   rows:=λn d hn xs hx=>by rw[hb n (by have:=cbE hn;omega)];exact h.rows n d hn xs hx
   tab:=by rw[hb 7 aA];exact h.tab
   errs:=λn hn=>by rw[bdA (hb n aA)];exact h.errs n hn
   max:=by rw[bdA (hb 6 aA)];exact h.max
   size:=bC h10 hs}
end Go.Proofs.YteedncdcbgplfaaGreatDoor
