/-
  From the row's condition on the package-level variables to what the walks ask; a world that meets the condition.
-/
import Derived.Test.YtdncljdfmdgdaaaGreatDoorM6
import Derived.Test.YtdncljdfmdgdaaaGreatDoorRows
set_option linter.unusedSimpArgs false
set_option linter.unusedVariables false
set_option maxRecDepth 100000
namespace Go.Proofs.YtdncljdfmdgdaaaGreatDoor
open Go Go.ChangeShapes Go.WideShapes Go.ChangeAt Go.RowKit
noncomputable def laidL:List (String×DataW Unit):=Rows.syntaxRunsRow.laid
theorem ownK:ownKnob Tryz.prog.godebug=none:=by kernel_rfl
theorem zfzZ {P:Program} {W:World} : ∀ {l:List (String×DataW Unit)} {ps:List MemPlace} {x:String×DataW Unit},DataW.LaidVars P W l ps->x∈l->∃qs,DataW.LaidVars P W [x] qs/\List.Sublist qs ps
 | [],_,x,_,hx=>by cases hx
 | (n,d)::r,ps,x,h,hx=>by
  obtain⟨g,t,cs,fuel,p,q,h1,h2,h3,h4,h5,rfl⟩:=h;rcases yTZ.1 hx with rfl | hx
  ·exact⟨_,⟨g,t,cs,fuel,p,[],h1,h2,h3,h4,rfl,rfl⟩,by simp⟩
  ·obtain⟨qs,e1,e2⟩:=zfzZ h5 hx;exact⟨qs,e1,e2.trans (List.sublist_append_right _ _)⟩
theorem zcyZ {P:Program} {W:World} {l:List (String×DataW Unit)} {x:String×DataW Unit} (h:laidMet P l W) (hx:x∈l):laidMet P [x] W:=by
 obtain⟨ps,h1,h2,h3⟩:=h;obtain⟨qs,e1,e2⟩:=zfzZ h1 hx;exact⟨qs,e1,e2.nodup h2,fun b off hb=>h3 b off (e2.subset hb)⟩
theorem zsaZ:(Tryz.prog.globals[2]?).map (·.type)=some 210 :=by kernel_rfl
theorem zsbZ:(Tryz.prog.globals[0]?).map (·.type)=some 205 :=by kernel_rfl
theorem gSyn : Tryz.prog.globalNamed "strconv.ErrSyntax" =some 4 :=by kernel_rfl
theorem gRng : Tryz.prog.globalNamed "strconv.ErrRange" =some 5 :=by kernel_rfl
theorem zscZ:(Tryz.prog.globals[4]?).map (·.type)=some 75 :=by kernel_rfl
theorem zsdZ:(Tryz.prog.globals[5]?).map (·.type)=some 75 :=by kernel_rfl
theorem ziiZ {W:World} {n:String} {g:Nat} {nm:String} {d:DataW Unit} (hg : Tryz.prog.globalNamed n=some g) (ht:(Tryz.prog.globals[g]?).map (·.type)=some 75) (h:laidMet Tryz.prog [(n,.iface nm d)] W):ErrCell W g:=by
 obtain⟨ps,⟨g',t',cs,fuel,p,q,h1,h2,h3,h4,_,_⟩,_⟩:=h;obtain rfl:=Option.some.inj (hg.symm.trans h1);obtain rfl:=Option.some.inj (ht.symm.trans h2);obtain⟨f',u,v,hcs,_,_⟩:=iface_of_trod Tryz.underlying75 h4;have hc:=World.var?_cell h1 h3 0;rw[Array.eq_one_of_toList hcs]at hc;exact⟨.iface u v,by simpa using hc,.inr ⟨u,v,rfl⟩⟩
theorem NG_le {w:World} (h:GL w):NG<=w.heap.size:=by
 have h1:=zebZ gAsc h.gs.asc;have h2:=zebZ gPow h.gs.pow;obtain⟨e1,h3,_⟩:=h.gs.syn;obtain⟨e2,h4,_⟩:=h.gs.rng;have h3:=zcxZ h3;have h4:=zcxZ h4;unfold NG;simp only[Nat.max_def]
 repeat' split
 all_goals omega
theorem ascIs:(Rows.laid_strings_asciiSpace:DataW Unit)=Lib.tabData .u8 Lib.asciiSpaceTab:=by kernel_rfl
theorem powIs:(Rows.laid_internal_strconv_uint64pow10:DataW Unit)=Lib.tabData .u64 Lib.pow10Tab:=by kernel_rfl
theorem zocZ {W:World} (h:laidMetH Tryz.prog laidL W):GL W:=by
 have h':=(MakeChecks.laidMetH_plain Tryz.prog laidL W (by kernel_rfl)).mp h;have hp:laidMet Tryz.prog [("internal/strconv.uint64pow10",Rows.laid_internal_strconv_uint64pow10)] W:=zcyZ h' (.tail _ (.tail _ (.head _)))
 have ha:laidMet Tryz.prog [("strings.asciiSpace",Rows.laid_strings_asciiSpace)] W:=zcyZ h' (.tail _ (.tail _ (.tail _ (.tail _ (.tail _ (.tail _ (.head _)))))))
 have hr:laidMet Tryz.prog [("strconv.ErrRange",Rows.laid_strconv_ErrRange)] W:=zcyZ h' (.tail _ (.tail _ (.tail _ (.head _))))
 have hs:laidMet Tryz.prog [("strconv.ErrSyntax",Rows.laid_strconv_ErrSyntax)] W:=zcyZ h' (.tail _ (.tail _ (.tail _ (.tail _ (.head _)))))
 refine⟨⟨?_,?_,ziiZ gSyn zscZ hs,ziiZ gRng zsdZ hr⟩⟩
 ·exact Lib.tabIs_of_head gAsc zsaZ Tryz.underlying210 Tryz.underlying5 (by kernel_rfl) (by kernel_rfl) (by rw[ascIs]at ha;exact ha)
 ·exact Lib.tabIs_of_head gPow zsbZ Tryz.underlying205 Tryz.underlying196 (by kernel_rfl) (by kernel_rfl) (by rw[powIs]at hp;exact hp)
theorem zseZ (os:Os) (args:Array Value):laidMetH Tryz.prog laidL ((World.doorLaid Tryz.prog 400 os).forCall (fun _ _=>0) ⟨#[],args,[]⟩).memory:=
 (MakeChecks.laidMetH_plain Tryz.prog laidL _ (by kernel_rfl)).mpr (laidMet_of_run' 12 (by kernel_rfl) (by kernel_rfl))
theorem zmmZ (os:Os) (args:Array Value):((World.doorLaid Tryz.prog 400 os).forCall (fun _ _=>0) ⟨#[],args,[]⟩).Shaped Tryz.prog:=
 World.shaped_of_RefB (by kernel_rfl) (by kernel_rfl)
end Go.Proofs.YtdncljdfmdgdaaaGreatDoor
