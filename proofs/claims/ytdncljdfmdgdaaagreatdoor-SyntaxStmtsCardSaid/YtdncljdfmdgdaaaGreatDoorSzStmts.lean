/-
  The statement of SyntaxStmts: the row, and its card.
-/
import Derived.Test.YtdncljdfmdgdaaaGreatDoorM48
import Derived.Test.YtdncljdfmdgdaaaGreatDoorTie
import Derived.Test.YtdncljdfmdgdaaaGreatDoorCards
set_option linter.unusedSimpArgs false
set_option linter.unusedVariables false
set_option maxRecDepth 100000
namespace Go.Proofs.YtdncljdfmdgdaaaGreatDoor
open Go.ChangeShapes Go.WideShapes Go.ChangeAt Go.ChangeMaps Go.RowKit
theorem syntaxStmts_lifted (os:Os) (started:os.Started) (H:Type) (enc:TypeId×Value->H) :
  ReturnsInHanded {} Tryz.checked os 6 .any (fun w args=>(Rows.syntaxStmtsSpec.pre enc Tryz.prog Tryz.f6 [] false w args/\laidMetH Tryz.prog laidL w)/\sizedMet enc Tryz.prog Tryz.f6 (OpenSpec.ofChange Rows.syntaxStmtsSpec) false w args)
   (Rows.syntaxStmtsSpec.post enc Tryz.prog Tryz.f6 false true false false):=by
 refine returnsInHanded_of_change_and (C:= Tryz.checked) (X:=fun w _=>laidMetH Tryz.prog laidL w) (fun _ _ _ hh h=>h.of_heap hh) ownK started (by kernel_rfl) Tryz.func6
  (ChangeSpec.witness_shaped (enc:=enc) (C:= Tryz.checked) (os:=os) (X:=fun w _=>laidMetH Tryz.prog laidL w) false (World.doorLaid Tryz.prog 400 os) #[.slice none 0 0] 8 rfl (zmmZ os _) (by kernel_rfl) (by kernel_rfl) (by kernel_rfl) (zseZ os _)) ?_
 intro W base args ds gs before H3 hW _ H1 hL _;have H0:∀(j:Nat) t v, Tryz.f6.params[j]? =some t->args[j]? =some v->Value.okWide Tryz.prog W .any base t v:=H3;have hG:=zocZ hL;obtain⟨p,q,hA0,hV0,he,hz⟩:=id hW;obtain⟨rfl,rfl⟩:=trodVars_none hV0;have H2:∀n∈DataW.weightsEach Tryz.prog (Tryz.f6.params.toList++Rows.syntaxStmtsSpec.plain.varTypes Tryz.prog) (ds++[]),n<=reachBytes:=fun n hn=>by simpa using yZZ.1 H1 n hn
 have hA:DataW.TrodAll enc Tryz.prog W 0 (fun _=>true) true Tryz.f6.params.toList args.toList ds p:=hA0;rw[Tryz.params6]at hA H0 H2;obtain⟨v0,d0,rfl,rfl,h0⟩:=trodAll_one hA;obtain⟨x0,r0⟩:=zugZ (H0 0 60 v0 rfl rfl) h0 (Fit.each (i:=0) H2 rfl rfl);refine(zrqZ x0 _ W r0 hG (NG_le hG)).mono fun e W' ⟨he,hw⟩=>?_;subst he;exact⟨_,rfl,zwnZ rfl rfl (by kernel_rfl) rfl hW hw.b⟩
theorem syntaxStmts_holds:Rows.SyntaxStmtsSaid:=
 OpenClaim.holds_of_wide 6 Tryz.f6 rfl rfl rfl rfl rfl rfl rfl ⟨rfl,rfl,rfl,rfl,rfl⟩ rfl rfl rfl rfl rfl (by kernel_rfl) Tryz.func6 (by kernel_rfl)
  (yBZ (by kernel_rfl)) (by unfold Func.isWrapper;first | (rw[if_pos (by decide+kernel)];kernel_rfl) | (rw[if_neg (by decide+kernel)];exact⟨rfl,rfl⟩))
  (fun os started H enc _=>syntaxStmts_lifted os started H enc)
theorem syntaxStmts_card:Rows.SyntaxStmtsCardSaid:=
 Claim7.holds_tied_plain_at .later [] [.data,.data,.data,.sentinel,.sentinel,.listed,.data] true (true, "e4a53ab273f9f8dcd4bd76fa0e77b58e4b3e36a148cc2e279a9c0c20b8a72c19") true
  syntaxStmts_holds (fun _ h=>by cases h) (by kernel_rfl) (fun _ h=>by cases h) syntaxStmts_row_tie rfl ⟨rfl,rfl⟩ (by kernel_rfl) rfl
  (fun f fn hf hfn=>by
   obtain rfl:f= 6 :=Option.some.inj ((show Tryz.prog.funcNamed "coil/coillaw2.SyntaxStmts" =some 6 by kernel_rfl).symm.trans hf) |>.symm
   obtain rfl:fn= Tryz.f6 :=(Option.some.inj (Tryz.func6.symm.trans hfn)).symm
   exact⟨by kernel_rfl,fun j t ht=>by
    rw[Tryz.params6]at ht;have hm:=Array.mem_of_getElem? ht;have H0:([60].all fun u=>!Tryz.prog.wantsStandIn u)=true:=by kernel_rfl
    exact(show Tryz.prog.wantsStandIn t=false by simpa using yZZ.1 H0 t (by simpa using hm))⟩)
  (by kernel_rfl)
#print axioms syntaxStmts_card
end Go.Proofs.YtdncljdfmdgdaaaGreatDoor
