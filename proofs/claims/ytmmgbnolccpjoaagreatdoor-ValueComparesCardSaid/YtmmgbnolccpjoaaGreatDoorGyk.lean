/-
  ValueCompares (chapter 17, the card): two values are compared, and operators worked out, as the document says, whatever the two values and the locale. Conditions: none but the card's own.
-/
import Derived.Test.YtmmgbnolccpjoaaGreatDoorM3
import Derived.Test.YtmmgbnolccpjoaaGreatDoorGvk
import Derived.Test.YtmmgbnolccpjoaaGreatDoorGjCk
set_option maxHeartbeats 1000000
namespace Go.Proofs.YtmmgbnolccpjoaaGreatDoor
open Go.Proofs.Tryz
open Go Go.RowKit
set_option maxRecDepth 100000
attribute [local irreducible] yR acV acN aaG afR ahV qI
theorem bcI(hsh:∀H,ACall prog 8 [] H (λy H'=>y= .bool true∧H'=H))(op:List UInt8)(hop:op.length≤maxLen)(v:Val)(v_b:v.bits<18446744073709551616)(v_m:v.text.length≤maxLen)(w:Val)(w_b:w.bits<18446744073709551616)(w_m:w.text.length≤maxLen)(d:Int)(hd: -9223372036854775808≤d∧d≤9223372036854775807)(H:Heap):ACall prog 4 [.str op,v.av,w.av,.int .i64 d] H (λy H'=>y= .bool true∧H'=H):=by
 refine ACall.of_body func4 rfl ntmps4 results4 rfl ?_;iterate 9 refine AX ?_
 refine .cl rfl call8 .nil (hsh _) ?_;iterate 6 refine AX ?_
 refine .cl rfl C9 (evs1 rfl) (afQ v v_b _) ?_;iterate 6 refine AX ?_
 refine .cl rfl C9 (evs1 rfl) (afQ w w_b _) ?_;iterate 4 refine AX ?_
 refine AWP.seqTo 34 (.bool (!acN v|| !acN w||decide ((100:Int)<((op.length:Nat):Int)))) [0,3,5,6,8,9] ?_ ?_
 ·iterate 8 refine AX ?_
  refine zC (t:=26) rfl (λhg26=>?_) (λhg26=>?_)
  ·iterate 9 refine AX ?_
   exact⟨rfl,zL rfl (by(simp[*];done)) sX,rfl⟩
  iterate 4 refine AX ?_
  refine zC (t:=30) rfl (λhg30=>?_) (λhg30=>?_)
  ·iterate 5 refine AX ?_
   exact⟨rfl,zL rfl (by(simp[*];done)) sX,rfl⟩
  iterate 5 refine AX ?_
  exact⟨rfl,zL rfl (by(simp[*];done)) sX,rfl⟩
 refine AWP.sub [(34,_),(0,_),(3,_),(5,_),(6,_),(8,_),(9,_)] sX ?_;refine AWP.cx rfl (λhc34=>?_) (λhc34=>?_)
 ·iterate 9 refine AX ?_
  exact⟨rfl,rfl⟩
 simp only[cC,dF]at hc34;obtain⟨⟨ra,rb⟩,_⟩:=hc34;have ta:=aiG ra;have tb:=aiG rb;iterate 5 refine AX ?_
 refine .s rfl (zB call10 (evs1 rfl) (auO d hd _)) ?_;rintro _ _ ⟨⟨l,hlm,rfl⟩,hH⟩;obtain rfl:=hH.symm;have hk:=abG l hlm;have hgr:=aaE l hlm;have hle:=bnP l hlm;have h50:decide (aaG v w=qI v w)=true:=aY (ayY v_b w_b ra rb);have h60:decide (acV l op v=acV l op v)=true:=aY rfl;have h73:decide (yR l op v w=yR l op v w)=true:=aY rfl;iterate 3 refine AX ?_
 refine .al zr29 (λb12 hb12=>?_);refine .al zr31 (λb13 hb13=>?_);have hn12_13:=Heap.ne_of (oS _ _ _) hb13;iterate 4 refine AX ?_
 refine AWP.frz (t:=13) rfl (fS hb13 _) ?_;refine AWP.frz (t:=12) rfl (hb12) ?_;iterate 3 refine AX ?_
 refine .s rfl (zB call11 (evs1 rfl) (aoW l _)) ?_;rintro _ _ ⟨b,hb0,rfl,rfl⟩;iterate 4 refine AX ?_
 refine AWP.draw [(0,true),(1,true),(2,true),(4,true),(5,true),(3,false),(6,true),(7,true),(8,true),(9,true),(10,true),(11,true),(13,true),(14,true),(15,true),(12,false),(16,false),(17,true),(18,true),(19,true),(20,true),(21,true),(22,true),(23,true),(25,true),(26,true),(27,true),(28,true),(24,false),(29,false),(30,true),(31,true),(32,true)] rfl aE ?_;iterate 5 refine AX ?_
 refine .s rfl rfl (zB C18 (evs3 rfl rfl rfl) (abQ _ v w v_b w_b aA aA _)) ?_;rintro _ _ ⟨rfl,hH⟩;obtain rfl:=hH.symm;refine APlan.f rfl rfl (λ_=>zB call19 (evs2 rfl rfl) (alU v w v_b w_b aA aA _)) ?_;iterate 8 refine AX ?_
 refine .gs rfl rfl rfl rfl aB (zB C20 (evs3 rfl rfl rfl) (ajO l hk hgr op v v_b ta auY auX b _ (oS _ _ _))) ?_;rintro _ _ ⟨rfl,f2,hf2,rfl⟩;rw[sS];refine .gs rfl rfl rfl rfl aB (zB call21 (evs3 rfl rfl rfl) (aqS l hle hk hgr op v v_b ta (by rw[←afN ra];exact aeA v_b) _)) ?_;rintro _ _ ⟨rfl,hH⟩;obtain rfl:=hH.symm;rw[←blO ra];refine .gp rfl rfl rfl rfl aB (qC eqGuardType24 (tm rfl) (tm rfl) (eqVal (acV l op v) (acV l op v))) ?_;iterate 10 refine AX ?_
 refine .gs rfl rfl rfl rfl aB (zB C22 (.cons (tm rfl) (evs3 rfl rfl rfl)) (qF l hk hgr op v v_b ta w w_b tb (acP hlm ra) (acP hlm rb) f2 hf2 b _ (oS _ _ _))) ?_;rintro _ _ ⟨rfl,f3,hf3,rfl⟩;rw[sS];refine .gs rfl rfl rfl rfl aB (zB call23 (.cons (tm rfl) (evs3 rfl rfl rfl)) (anL l hle hk hgr op v v_b ta (by rw[←afN ra];exact aeA v_b) w w_b tb (by rw[←afN rb];exact aeA w_b) (by rw[←aiC ra];exact acP hlm ra) (by rw[←aiC rb];exact acP hlm rb) _)) ?_;rintro _ _ ⟨rfl,hH⟩;obtain rfl:=hH.symm;rw[←bgN v_b w_b ra rb];refine .gp rfl rfl rfl rfl aB (qC eqGuardType24 (tm rfl) (tm rfl) (eqVal (yR l op v w) (yR l op v w))) ?_;iterate 5 refine AX ?_
 refine Ret.go (.cons (.tmp _ _ rfl) .nil) H (Heap.le_set hb0 _) ?_;exact⟨congrArg AV.bool h73,rfl⟩
end Go.Proofs.YtmmgbnolccpjoaaGreatDoor
namespace Go.Proofs.YtmmgbnolccpjoaaGreatDoor
open Go.Proofs.Tryz
open Go Go.ChangeShapes Go.WideShapes Go.ChangeAt Go.RowKit
theorem aqE(s0:List UInt8)(hs0:s0.length≤maxLen)(v1:Val)(hv1:v1.bits<18446744073709551616)(ht1:v1.text.length≤maxLen)(v2:Val)(hv2:v2.bits<18446744073709551616)(ht2:v2.text.length≤maxLen)(c3:Int)(hc3: -9223372036854775808≤c3∧c3≤9223372036854775807):Fn 4 [.str s0,v1.av,v2.av,.int .i64 c3] (.bool true):=λH=>bcI asX s0 hs0 v1 hv1 ht1 v2 hv2 ht2 c3 hc3 H
set_option maxRecDepth 1000000 in
theorem avX(os:Os)(started:os.Started)(H:Type)(enc:TypeId×Value→H):
  ReturnsInHanded {} Tryz.checked os 4 .any (λw args=>(Rows.valueComparesSpec.pre enc prog Tryz.f4 [] false w args∧laidMetH prog laidL w)∧sizedMet enc prog Tryz.f4 (OpenSpec.ofChange Rows.valueComparesSpec) false w args)
   (Rows.valueComparesSpec.post enc prog Tryz.f4 false true false false):=by
 refine bnR (C:=Tryz.checked) (X:=λw _=>laidMetH prog laidL w) (λ_ _ _ hh h=>h.of_heap hh) Tryz.own started (by kernel_rfl) func4
  (ChangeSpec.witness_at (enc:=enc) (C:=Tryz.checked) (os:=os) (X:=λw _=>laidMetH prog laidL w) false (auR os) #[.string ⟨#[]⟩,.agg #[.int .i64 0,.int .u64 0,.bool false,.string ⟨#[]⟩,.int .i64 0],.agg #[.int .i64 0,.int .u64 0,.bool false,.string ⟨#[]⟩,.int .i64 0],.int .i64 0] 8 rfl (by kernel_rfl) (by kernel_rfl) (by kernel_rfl) (by kernel_rfl) (by kernel_rfl) (aoE os _)) ?_
 intro W base args ds gs before hsh hval0 hW _ _ hL;have hI:=chC hsh hL;have hval:∀(j:Nat) t v,Tryz.f4.params[j]?=some t→args[j]?=some v→Value.okWide prog W .any base t v:=hval0;have hW':=hW;obtain⟨p,q,hA0,hV,rfl,_,_⟩:=hW;have hA:DataW.TrodAll enc prog W 0 (λ_=>true) true Tryz.f4.params.toList args.toList ds p:=hA0;rw[Tryz.params4]at hA hval;obtain⟨v0,v1,v2,v3,d0,d1,d2,d3,p0,p1,p2,p3,rfl,rfl,rfl,h0,h1,h2,h3⟩:=trodAll_four hA;obtain⟨rfl,rfl⟩:=trodVars_none hV;clear hA0 hval0;simp only[bP]at hW';obtain⟨s0,rfl⟩:=okWide_string U9 (hval 0 9 v0 rfl rfl);obtain⟨x0,hx0,hr0⟩:=bmN (bdX (hI:=hI) U9) h0 (λ_=>rfl) rfl;obtain⟨cs1,rfl,_⟩:=okWide_struct U24 (hval 1 24 v1 rfl rfl);obtain⟨x1,hx1,hr1⟩:=baF (fl:=Val.cs) (bmM (hI:=hI)) h1;obtain⟨cs2,rfl,_⟩:=okWide_struct U24 (hval 2 24 v2 rfl rfl);obtain⟨x2,hx2,hr2⟩:=baF (fl:=Val.cs) (bmM (hI:=hI)) h2;obtain⟨n3,rfl⟩:=okWide_int U3 (hval 3 3 v3 rfl rfl);obtain⟨x3,hx3,hr3⟩:=bmN (axR (hI:=hI) U3) h3 (λ_=>rfl) rfl;have hlt:∀x∈p0++p1++p2++p3,x.block<W.heap.size:=λx hx=>by simpa using hW'.lt x hx
 have hargs:∀{t:TypeId}{v:Value}{d:DataW H}{ps:List MemPlace},DataW.Trod enc prog W 0 (λ_=>true) true t v d ps→(∀x∈ps,x.block<W.heap.size)→prog.readableRec t=true→t<prog.types.size→∀W':World,Below W.heap.size W W'→DataW.Trod enc prog W' 0 (λb=>decide (b<W.heap.size)) true t v d ps:=
  λh hl hr ht W' hn=>Below.trod Tryz.laidOut hr ht h hn hl
 refine(bfL (P:=prog) (f:=4) (λH=>aqE x0 hx0 x1 hx1.1 hx1.2 x2 hx2.1 hx2.2 x3 (wfi64 hx3) H) (akE hr0 (akE hr1 (akE hr2 (akE hr3 bvT))))).mono λe W' ⟨he,hn⟩=>?_;subst he;exact⟨_,rfl,_,_,_,[],_,[],hW',trodAll_mk1 (shut_bool U4 true),trodAll_mk4 (hargs h0 (λx hx=>hlt x (by simp[hx])) (by kernel_rfl) (of_decide_eq_true (by kernel_rfl)) W' hn) (hargs h1 (λx hx=>hlt x (by simp[hx])) (by kernel_rfl) (of_decide_eq_true (by kernel_rfl)) W' hn) (hargs h2 (λx hx=>hlt x (by simp[hx])) (by kernel_rfl) (of_decide_eq_true (by kernel_rfl)) W' hn) (hargs h3 (λx hx=>hlt x (by simp[hx])) (by kernel_rfl) (of_decide_eq_true (by kernel_rfl)) W' hn),rfl,hn.frame _,λh=>by cases h⟩
theorem bgV:Rows.ValueComparesSaid:=
 OpenClaim.holds_of_wide 4 Tryz.f4 rfl rfl rfl rfl rfl rfl rfl ⟨rfl,rfl,rfl,rfl,rfl⟩ rfl rfl rfl rfl rfl ahZ func4 avZ
  (of_decide_eq_true (by kernel_rfl)) (by unfold Func.isWrapper;first|(rw[aN aE];kernel_rfl)|(rw[aL aE];exact⟨rfl,rfl⟩))
  (λos started H enc _=>avX os started H enc)
theorem Compares_holds:Rows.ValueComparesCardSaid:=
 Claim7.holds_tied_plain_at .later [] [.data,.data,.data,.data,.sentinel,.sentinel,.data,.data,.pinned] true (true,"f704989f6919a0ea7c8883d8e1cb54e6184a9502f3eaac99d17da075bde6860b") true
  bgV (λ_ h=>by cases h) (by kernel_rfl) (λ_ h=>by cases h) valueCompares_row_tie rfl ⟨rfl,rfl⟩ bcK rfl
  (λf fn hf hfn=>by
    obtain rfl:f=4:=Option.some.inj (ahZ.symm.trans hf) |>.symm
    obtain rfl:fn=Tryz.f4:=(Option.some.inj (func4.symm.trans hfn)).symm;exact⟨awS,λj t ht=>by
      rw[Tryz.params4]at ht;have h3:t=9∨t=24∨t=3:=by
        rcases j with _|_|_|_|j
        ·exact .inl (by simpa using ht.symm)
        ·exact .inr (.inl (by simpa using ht.symm))
        ·exact .inr (.inl (by simpa using ht.symm))
        ·exact .inr (.inr (by simpa using ht.symm))
        simp at ht
      rcases h3 with rfl|rfl|rfl
      ·exact(show prog.wantsStandIn 9=false by kernel_rfl)
      ·exact(show prog.wantsStandIn 24=false by kernel_rfl)
      exact(show prog.wantsStandIn 3=false by kernel_rfl)⟩)
  bcL
end Go.Proofs.YtmmgbnolccpjoaaGreatDoor
