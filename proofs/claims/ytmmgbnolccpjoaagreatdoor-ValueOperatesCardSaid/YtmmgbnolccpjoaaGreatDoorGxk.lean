/-
  ValueOperates (chapter 17, the card): each of the operators is worked out as the document says, whatever the operator, the two values and the locale. Conditions: none but the card's own.
-/
import Derived.Test.YtmmgbnolccpjoaaGreatDoorM3
import Derived.Test.YtmmgbnolccpjoaaGreatDoorVdk
import Derived.Test.YtmmgbnolccpjoaaGreatDoorGvk
import Derived.Test.YtmmgbnolccpjoaaGreatDoorGjOk
set_option maxHeartbeats 1000000
namespace Go.Proofs.YtmmgbnolccpjoaaGreatDoor
open Go.Proofs.Tryz
open Go Go.RowKit
set_option maxRecDepth 100000
attribute [local irreducible] yR acV acN aaG afR ahV qI
theorem bcA(hsh:∀H,ACall prog 8 [] H (λy H'=>y= .bool true∧H'=H))(c:Int)(hc: -9223372036854775808≤c∧c≤9223372036854775807)(v:Val)(v_b:v.bits<18446744073709551616)(v_m:v.text.length≤maxLen)(w:Val)(w_b:w.bits<18446744073709551616)(w_m:w.text.length≤maxLen)(d:Int)(hd: -9223372036854775808≤d∧d≤9223372036854775807)(H:Heap):ACall prog 5 [.int .i64 c,v.av,w.av,.int .i64 d] H (λy H'=>y= .bool true∧H'=H):=by
 refine ACall.of_body func5 rfl ntmps5 results5 rfl ?_;iterate 9 refine AX ?_
 refine .cl rfl call8 .nil (hsh _) ?_;iterate 6 refine AX ?_
 refine .cl rfl C9 (evs1 rfl) (afQ v v_b _) ?_;iterate 6 refine AX ?_
 refine .cl rfl C9 (evs1 rfl) (afQ w w_b _) ?_;iterate 4 refine AX ?_
 refine AWP.seqTo 30 (.bool (!acN v|| !acN w)) [0,3,5,6,8,9] ?_ ?_
 ·iterate 8 refine AX ?_
  refine zC (t:=27) rfl (λhg27=>?_) (λhg27=>?_)
  ·iterate 4 refine AX ?_
   exact⟨rfl,zL rfl (by(simp[*];done)) sX,rfl⟩
  iterate 4 refine AX ?_
  exact⟨rfl,zL rfl (by(simp[*];done)) sX,rfl⟩
 refine AWP.sub [(30,_),(0,_),(3,_),(5,_),(6,_),(8,_),(9,_)] sX ?_;refine AWP.cx rfl (λhc30=>?_) (λhc30=>?_)
 ·iterate 9 refine AX ?_
  exact⟨rfl,rfl⟩
 simp only[cC,dF]at hc30;obtain⟨ra,rb⟩:=hc30;have ta:=aiG ra;have tb:=aiG rb;iterate 5 refine AX ?_
 refine .s rfl (zB call10 (evs1 rfl) (auO d hd _)) ?_;rintro _ _ ⟨⟨l,hlm,rfl⟩,hH⟩;obtain rfl:=hH.symm;have hk:=abG l hlm;have hgr:=aaE l hlm;have hle:=bnP l hlm;iterate 3 refine AX ?_
 refine .al zr29 (λb12 hb12=>?_);refine .al zr31 (λb13 hb13=>?_);have hn12_13:=Heap.ne_of (oS _ _ _) hb13;iterate 4 refine AX ?_
 refine AWP.frz (t:=13) rfl (fS hb13 _) ?_;refine AWP.frz (t:=12) rfl (hb12) ?_;iterate 3 refine AX ?_
 refine .s rfl (zB call11 (evs1 rfl) (aoW l _)) ?_;rintro _ _ ⟨b,hb0,rfl,rfl⟩;iterate 5 refine AX ?_
 refine .s rfl (azL U51 Z9 zeroValue9 rfl rfl rfl (.cons (zO rfl) (.inl rfl) (.cons (zO rfl) (.inl rfl) (.cons (zO rfl) (.inl rfl) (.cons (zO rfl) (.inl rfl) (.cons (zO rfl) (.inl rfl) (.cons (zO rfl) (.inl rfl) (.cons (zO rfl) (.inl rfl) (.cons (zO rfl) (.inl rfl) (.cons (zO rfl) (.inl rfl) (.cons (zO rfl) (.inl rfl) (.cons (zO rfl) (.inl rfl) (.cons (zO rfl) (.inl rfl) (.cons (zO rfl) (.inl rfl) .nil))))))))))))) (abT ⟨rfl,rfl⟩ (abT ⟨rfl,rfl⟩ (abT ⟨rfl,rfl⟩ (abT ⟨rfl,rfl⟩ (abT ⟨rfl,rfl⟩ (abT ⟨rfl,rfl⟩ (abT ⟨rfl,rfl⟩ (abT ⟨rfl,rfl⟩ (abT ⟨rfl,rfl⟩ (abT ⟨rfl,rfl⟩ (abT ⟨rfl,rfl⟩ (abT ⟨rfl,rfl⟩ (abT ⟨rfl,rfl⟩ bvF)))))))))))))) ?_;rintro y43 _ ⟨hv43,hH⟩;replace hv43:y43= .slice 1 (ops17.map AV.str) .full:=hv43;subst hv43;obtain rfl:=hH.symm;refine AX ?_;refine .s rfl (zB call24 (.cons (tm rfl) (.cons zH .nil)) (ayB 13 aC c hc _)) ?_;rintro _ _ ⟨⟨k,hk13,rfl⟩,hH⟩;obtain rfl:=hH.symm;have hkl:((k:Nat):Int).toNat<ops17.length:=by rw[ciQ];omega
 iterate 6 refine AX ?_
 obtain⟨op,hop⟩:∃op,op=ops17[((k:Nat):Int).toNat]'hkl:=⟨_,rfl⟩;rw[←hop];have h54:decide (yR l op v w=yR l op v w)=true:=aY rfl;have h64:decide (acV l op v=acV l op v)=true:=aY rfl;refine AWP.draw [(0,true),(1,true),(2,true),(3,true),(5,true),(6,true),(7,true),(8,true),(4,false),(9,false),(10,true),(11,true),(12,true),(13,true),(14,true),(16,true),(17,true),(18,true),(15,false),(19,false),(20,true),(21,true),(22,true)] rfl aE ?_;iterate 8 refine AX ?_
 refine .s rfl rfl (zB C22 (.cons (tm rfl) (evs3 rfl rfl rfl)) (qF l hk hgr op v v_b ta w w_b tb (acP hlm ra) (acP hlm rb) auY auX b _ (oS _ _ _))) ?_;rintro _ _ ⟨rfl,f1,hf1,rfl⟩;rw[sS];refine .s rfl rfl (zB call23 (.cons (tm rfl) (evs3 rfl rfl rfl)) (anL l hle hk hgr op v v_b ta (by rw[←afN ra];exact aeA v_b) w w_b tb (by rw[←afN rb];exact aeA w_b) (by rw[←aiC ra];exact acP hlm ra) (by rw[←aiC rb];exact acP hlm rb) _)) ?_;rintro _ _ ⟨rfl,hH⟩;obtain rfl:=hH.symm;rw[←bgN v_b w_b ra rb];refine .p rfl rfl (qC eqGuardType24 (tm rfl) (tm rfl) (eqVal (yR l op v w) (yR l op v w))) ?_;iterate 7 refine AX ?_
 refine .gs rfl rfl rfl rfl aB (zB C20 (evs3 rfl rfl rfl) (ajO l hk hgr op v v_b ta f1 hf1 b _ (oS _ _ _))) ?_;rintro _ _ ⟨rfl,f2,hf2,rfl⟩;rw[sS];refine .gs rfl rfl rfl rfl aB (zB call21 (evs3 rfl rfl rfl) (aqS l hle hk hgr op v v_b ta (by rw[←afN ra];exact aeA v_b) _)) ?_;rintro _ _ ⟨rfl,hH⟩;obtain rfl:=hH.symm;rw[←blO ra];refine .gp rfl rfl rfl rfl aB (qC eqGuardType24 (tm rfl) (tm rfl) (eqVal (acV l op v) (acV l op v))) ?_;iterate 5 refine AX ?_
 refine Ret.go (.cons (.tmp _ _ rfl) .nil) H (Heap.le_set hb0 _) ?_;exact⟨congrArg AV.bool h64,rfl⟩
end Go.Proofs.YtmmgbnolccpjoaaGreatDoor
namespace Go.Proofs.YtmmgbnolccpjoaaGreatDoor
open Go.Proofs.Tryz
open Go Go.ChangeShapes Go.WideShapes Go.ChangeAt Go.RowKit
theorem aqC(c0:Int)(hc0: -9223372036854775808≤c0∧c0≤9223372036854775807)(v1:Val)(hv1:v1.bits<18446744073709551616)(ht1:v1.text.length≤maxLen)(v2:Val)(hv2:v2.bits<18446744073709551616)(ht2:v2.text.length≤maxLen)(c3:Int)(hc3: -9223372036854775808≤c3∧c3≤9223372036854775807):Fn 5 [.int .i64 c0,v1.av,v2.av,.int .i64 c3] (.bool true):=λH=>bcA asX c0 hc0 v1 hv1 ht1 v2 hv2 ht2 c3 hc3 H
set_option maxRecDepth 1000000 in
theorem avR(os:Os)(started:os.Started)(H:Type)(enc:TypeId×Value→H):
  ReturnsInHanded {} Tryz.checked os 5 .any (λw args=>(Rows.valueOperatesSpec.pre enc prog Tryz.f5 [] false w args∧laidMetH prog laidL w)∧sizedMet enc prog Tryz.f5 (OpenSpec.ofChange Rows.valueOperatesSpec) false w args)
   (Rows.valueOperatesSpec.post enc prog Tryz.f5 false true false false):=by
 refine bnR (C:=Tryz.checked) (X:=λw _=>laidMetH prog laidL w) (λ_ _ _ hh h=>h.of_heap hh) Tryz.own started (by kernel_rfl) func5
  (ChangeSpec.witness_at (enc:=enc) (C:=Tryz.checked) (os:=os) (X:=λw _=>laidMetH prog laidL w) false (auR os) #[.int .i64 0,.agg #[.int .i64 0,.int .u64 0,.bool false,.string ⟨#[]⟩,.int .i64 0],.agg #[.int .i64 0,.int .u64 0,.bool false,.string ⟨#[]⟩,.int .i64 0],.int .i64 0] 8 rfl (by kernel_rfl) (by kernel_rfl) (by kernel_rfl) (by kernel_rfl) (by kernel_rfl) (aoE os _)) ?_
 intro W base args ds gs before hsh hval0 hW _ _ hL;have hI:=chC hsh hL;have hval:∀(j:Nat) t v,Tryz.f5.params[j]?=some t→args[j]?=some v→Value.okWide prog W .any base t v:=hval0;have hW':=hW;obtain⟨p,q,hA0,hV,rfl,_,_⟩:=hW;have hA:DataW.TrodAll enc prog W 0 (λ_=>true) true Tryz.f5.params.toList args.toList ds p:=hA0;rw[Tryz.params5]at hA hval;obtain⟨v0,v1,v2,v3,d0,d1,d2,d3,p0,p1,p2,p3,rfl,rfl,rfl,h0,h1,h2,h3⟩:=trodAll_four hA;obtain⟨rfl,rfl⟩:=trodVars_none hV;clear hA0 hval0;simp only[bP]at hW';obtain⟨n0,rfl⟩:=okWide_int U3 (hval 0 3 v0 rfl rfl);obtain⟨x0,hx0,hr0⟩:=bmN (axR (hI:=hI) U3) h0 (λ_=>rfl) rfl;obtain⟨cs1,rfl,_⟩:=okWide_struct U24 (hval 1 24 v1 rfl rfl);obtain⟨x1,hx1,hr1⟩:=baF (fl:=Val.cs) (bmM (hI:=hI)) h1;obtain⟨cs2,rfl,_⟩:=okWide_struct U24 (hval 2 24 v2 rfl rfl);obtain⟨x2,hx2,hr2⟩:=baF (fl:=Val.cs) (bmM (hI:=hI)) h2;obtain⟨n3,rfl⟩:=okWide_int U3 (hval 3 3 v3 rfl rfl);obtain⟨x3,hx3,hr3⟩:=bmN (axR (hI:=hI) U3) h3 (λ_=>rfl) rfl;have hlt:∀x∈p0++p1++p2++p3,x.block<W.heap.size:=λx hx=>by simpa using hW'.lt x hx
 have hargs:∀{t:TypeId}{v:Value}{d:DataW H}{ps:List MemPlace},DataW.Trod enc prog W 0 (λ_=>true) true t v d ps→(∀x∈ps,x.block<W.heap.size)→prog.readableRec t=true→t<prog.types.size→∀W':World,Below W.heap.size W W'→DataW.Trod enc prog W' 0 (λb=>decide (b<W.heap.size)) true t v d ps:=
  λh hl hr ht W' hn=>Below.trod Tryz.laidOut hr ht h hn hl
 refine(bfL (P:=prog) (f:=5) (λH=>aqC x0 (wfi64 hx0) x1 hx1.1 hx1.2 x2 hx2.1 hx2.2 x3 (wfi64 hx3) H) (akE hr0 (akE hr1 (akE hr2 (akE hr3 bvT))))).mono λe W' ⟨he,hn⟩=>?_;subst he;exact⟨_,rfl,_,_,_,[],_,[],hW',trodAll_mk1 (shut_bool U4 true),trodAll_mk4 (hargs h0 (λx hx=>hlt x (by simp[hx])) (by kernel_rfl) (of_decide_eq_true (by kernel_rfl)) W' hn) (hargs h1 (λx hx=>hlt x (by simp[hx])) (by kernel_rfl) (of_decide_eq_true (by kernel_rfl)) W' hn) (hargs h2 (λx hx=>hlt x (by simp[hx])) (by kernel_rfl) (of_decide_eq_true (by kernel_rfl)) W' hn) (hargs h3 (λx hx=>hlt x (by simp[hx])) (by kernel_rfl) (of_decide_eq_true (by kernel_rfl)) W' hn),rfl,hn.frame _,λh=>by cases h⟩
theorem bgR:Rows.ValueOperatesSaid:=
 OpenClaim.holds_of_wide 5 Tryz.f5 rfl rfl rfl rfl rfl rfl rfl ⟨rfl,rfl,rfl,rfl,rfl⟩ rfl rfl rfl rfl rfl ahY func5 avT
  (of_decide_eq_true (by kernel_rfl)) (by unfold Func.isWrapper;first|(rw[aN aE];kernel_rfl)|(rw[aL aE];exact⟨rfl,rfl⟩))
  (λos started H enc _=>avR os started H enc)
theorem Operates_holds:Rows.ValueOperatesCardSaid:=
 Claim7.holds_tied_plain_at .later [] [.data,.data,.data,.data,.sentinel,.sentinel,.data,.data,.pinned] true (true,"f704989f6919a0ea7c8883d8e1cb54e6184a9502f3eaac99d17da075bde6860b") true
  bgR (λ_ h=>by cases h) (by kernel_rfl) (λ_ h=>by cases h) valueOperates_row_tie rfl ⟨rfl,rfl⟩ bcC rfl
  (λf fn hf hfn=>by
    obtain rfl:f=5:=Option.some.inj (ahY.symm.trans hf) |>.symm
    obtain rfl:fn=Tryz.f5:=(Option.some.inj (func5.symm.trans hfn)).symm;exact⟨awR,λj t ht=>by
      rw[Tryz.params5]at ht;have h3:t=3∨t=24:=by
        rcases j with _|_|_|_|j
        ·exact .inl (by simpa using ht.symm)
        ·exact .inr (by simpa using ht.symm)
        ·exact .inr (by simpa using ht.symm)
        ·exact .inl (by simpa using ht.symm)
        simp at ht
      rcases h3 with rfl|rfl
      ·exact(show prog.wantsStandIn 3=false by kernel_rfl)
      exact(show prog.wantsStandIn 24=false by kernel_rfl)⟩)
  bcD
end Go.Proofs.YtmmgbnolccpjoaaGreatDoor
