/-
  From the row's condition on the package-level variables to what the walks ask; a world that meets the condition.
-/
import Derived.Test.YtdncljdfmdgdaaaGreatDoorM1
import Derived.Test.YtdncljdfmdgdaaaGreatDoorRows
import Derived.Test.YtdncljdfmdgdaaaGreatDoorM8
import Derived.ChangeSame
import Derived.ChangeVars
import Derived.JoinedOf
import Derived.ProofKit
import Derived.LaidLaws
import Derived.LaidHandle
import Derived.LaidMore
import Derived.OpenShut
import Derived.Stop.Joined
import Derived.Lib.LaidTab
import Derived.Carry
import Derived.MakeChecks
import Derived.ChangeMaps5
set_option linter.unusedSimpArgs false
set_option linter.unusedVariables false
set_option maxRecDepth 100000
namespace Go.Proofs.YtdncljdfmdgdaaaGreatDoor
open Go Go.ChangeShapes Go.WideShapes Go.ChangeAt Go.RowKit
noncomputable def laidL:List (String×DataW Unit):=Rows.syntaxRunsRow.laid
theorem ownK:ownKnob Tryz.prog.godebug=none:=by kernel_rfl
theorem zfgZ {P:Program} {W:World} : ∀ {l:List (String×DataW Unit)} {ps:List MemPlace} {x:String×DataW Unit},DataW.LaidVars P W l ps→x∈l→∃qs,DataW.LaidVars P W [x] qs∧List.Sublist qs ps
 | [],_,x,_,hx=>by cases hx
 | (n,d)::r,ps,x,h,hx=>by
  obtain⟨g,t,cs,fuel,p,q,h1,h2,h3,h4,h5,rfl⟩:=h
  rcases List.mem_cons.1 hx with rfl | hx
  ·exact⟨_,⟨g,t,cs,fuel,p,[],h1,h2,h3,h4,rfl,rfl⟩,by simp⟩
  ·obtain⟨qs,e1,e2⟩:=zfgZ h5 hx
   exact⟨qs,e1,e2.trans (List.sublist_append_right _ _)⟩
theorem zcuZ {P:Program} {W:World} {l:List (String×DataW Unit)} {x:String×DataW Unit} (h:laidMet P l W) (hx:x∈l):laidMet P [x] W:=by
 obtain⟨ps,h1,h2,h3⟩:=h
 obtain⟨qs,e1,e2⟩:=zfgZ h1 hx
 exact⟨qs,e1,e2.nodup h2,fun b off hb=>h3 b off (e2.subset hb)⟩
theorem zquZ:(Tryz.prog.globals[2]?).map (·.type)=some 210 :=by kernel_rfl
theorem zqvZ:(Tryz.prog.globals[0]?).map (·.type)=some 205 :=by kernel_rfl
theorem gSyn : Tryz.prog.globalNamed "strconv.ErrSyntax" =some 4 :=by kernel_rfl
theorem gRng : Tryz.prog.globalNamed "strconv.ErrRange" =some 5 :=by kernel_rfl
theorem zqwZ:(Tryz.prog.globals[4]?).map (·.type)=some 75 :=by kernel_rfl
theorem zqxZ:(Tryz.prog.globals[5]?).map (·.type)=some 75 :=by kernel_rfl
theorem zhhZ {W:World} {n:String} {g:Nat} {nm:String} {d:DataW Unit} (hg : Tryz.prog.globalNamed n=some g) (ht:(Tryz.prog.globals[g]?).map (·.type)=some 75) (h:laidMet Tryz.prog [(n,.iface nm d)] W):ErrCell W g:=by
 obtain⟨ps,⟨g',t',cs,fuel,p,q,h1,h2,h3,h4,_,_⟩,_⟩:=h
 obtain rfl:=Option.some.inj (hg.symm.trans h1)
 obtain rfl:=Option.some.inj (ht.symm.trans h2)
 obtain⟨f',u,v,hcs,_,_⟩:=iface_of_trod Tryz.underlying75 h4
 have hc:=World.var?_cell h1 h3 0
 rw[Array.eq_one_of_toList hcs]at hc
 exact⟨.iface u v,by simpa using hc,.inr ⟨u,v,rfl⟩⟩
theorem NG_le {w:World} (h:GL w):NG≤w.heap.size:=by
 have h1:=zdtZ gAsc h.gs.asc
 have h2:=zdtZ gPow h.gs.pow
 obtain⟨e1,h3,_⟩:=h.gs.syn
 obtain⟨e2,h4,_⟩:=h.gs.rng
 have h3:=zctZ h3
 have h4:=zctZ h4
 unfold NG
 simp only[Nat.max_def]
 repeat' split
 all_goals omega
theorem ascIs:(Rows.laid_strings_asciiSpace:DataW Unit)=Lib.tabData .u8 Lib.asciiSpaceTab:=by kernel_rfl
theorem powIs:(Rows.laid_internal_strconv_uint64pow10:DataW Unit)=Lib.tabData .u64 Lib.pow10Tab:=by kernel_rfl
theorem zmzZ {W:World} (h:laidMetH Tryz.prog laidL W):GL W:=by
 have h':=(MakeChecks.laidMetH_plain Tryz.prog laidL W (by kernel_rfl)).mp h
 have hp:laidMet Tryz.prog [("internal/strconv.uint64pow10",Rows.laid_internal_strconv_uint64pow10)] W:=zcuZ h' (.tail _ (.tail _ (.head _)))
 have ha:laidMet Tryz.prog [("strings.asciiSpace",Rows.laid_strings_asciiSpace)] W:=zcuZ h' (.tail _ (.tail _ (.tail _ (.tail _ (.tail _ (.tail _ (.head _)))))))
 have hr:laidMet Tryz.prog [("strconv.ErrRange",Rows.laid_strconv_ErrRange)] W:=zcuZ h' (.tail _ (.tail _ (.tail _ (.head _))))
 have hs:laidMet Tryz.prog [("strconv.ErrSyntax",Rows.laid_strconv_ErrSyntax)] W:=zcuZ h' (.tail _ (.tail _ (.tail _ (.tail _ (.head _)))))
 refine⟨⟨?_,?_,zhhZ gSyn zqwZ hs,zhhZ gRng zqxZ hr⟩⟩
 ·exact Lib.tabIs_of_head gAsc zquZ Tryz.underlying210 Tryz.underlying5 (by kernel_rfl) (by kernel_rfl) (by rw[ascIs]at ha;exact ha)
 ·exact Lib.tabIs_of_head gPow zqvZ Tryz.underlying205 Tryz.underlying196 (by kernel_rfl) (by kernel_rfl) (by rw[powIs]at hp;exact hp)
theorem zqyZ (os:Os) (args:Array Value):laidMetH Tryz.prog laidL ((World.doorLaid Tryz.prog 400 os).forCall (fun _ _=>0) ⟨#[],args,[]⟩).memory:=
 (MakeChecks.laidMetH_plain Tryz.prog laidL _ (by kernel_rfl)).mpr (laidMet_of_run' 12 (by kernel_rfl) (by kernel_rfl))
theorem zlkZ (os:Os) (args:Array Value):((World.doorLaid Tryz.prog 400 os).forCall (fun _ _=>0) ⟨#[],args,[]⟩).Shaped Tryz.prog:=
 World.shaped_of_RefB (by kernel_rfl) (by kernel_rfl)
theorem zqzZ:laidOutB Tryz.prog=true:=by kernel_rfl
theorem zizZ {H:Type} {enc:TypeId×Value→H} {P:Program} (hl:laidOutB P=true) {W W':World} (hb:Below W.heap.size W W'):∀ {ts:List TypeId} {vs:List Value} {ds:List (DataW H)} {p:List MemPlace},
  (ts.all fun t=>P.readableRec t&&decide (t<P.types.size))=true→DataW.TrodAll enc P W 0 (fun _=>true) true ts vs ds p→(∀x∈p,x.block<W.heap.size)→
  DataW.TrodAll enc P W' 0 (fun b=>decide (b<W.heap.size)) true ts vs ds p:=by
 intro ts
 induction ts with
 | nil=>
  intro vs ds p _ h _
  obtain⟨rfl,rfl,rfl⟩:=trodAll_nil h
  exact trodAll_mk0
 | cons t ts ih=>
  intro vs ds p ht h H0
  obtain⟨v,vs',d,ds',p1,p2,rfl,rfl,rfl,h1,h2⟩:=trodAll_cons h
  rw[List.all_cons,Bool.and_eq_true,Bool.and_eq_true]at ht
  exact⟨p1,p2,Below.trod hl ht.1.1 (of_decide_eq_true ht.1.2) h1 hb (fun x hx=>H0 x (by simp[hx])),ih ht.2 h2 (fun x hx=>H0 x (by simp[hx])),rfl⟩
theorem zvbZ {H:Type} {enc:TypeId×Value→H} {f:Func} {s:ChangeSpec} {W W':World} {args:Array Value} {ds:List (DataW H)} {before:List MemPlace}
  (hv:s.vars=[]) (hr:f.resultTypes=#[4]) (hps:(f.params.toList.all fun t=> Tryz.prog.readableRec t&&decide (t < Tryz.prog.types.size))=true)
  (hfn:s.fn H ds={ results:=[.lit (.bool true)],args:=ds })
  (hW:DataW.Whole enc Tryz.prog f.params.toList s.vars false W args.toList ds [] before) (hb:Below W.heap.size W W') :
  s.post enc Tryz.prog f false true false false W args (.bool true) W':=by
 have hW':=hW
 obtain⟨p,q,hA,hV,rfl,hz,hn⟩:=hW
 rw[hv]at hV
 obtain rfl:q=[]:=hV
 have H0:∀x∈p,x.block<W.heap.size:=fun x hx=>by simpa using hW'.lt x (by simpa using hx)
 have e:s.fn H (ds++[])={ results:=[.lit (.bool true)],args:=ds } :=by rw[List.append_nil];exact hfn
 refine⟨ds,[],_,[],p,[],hW',?_,?_,?_,hb.frame _,fun h=>by cases h⟩
 ·rw[e,hr];exact trodAll_mk1 (shut_bool Tryz.underlying4 true)
 ·rw[e];exact zizZ zqzZ hb hps hA H0
 ·rw[e,hv];rfl
end Go.Proofs.YtdncljdfmdgdaaaGreatDoor
namespace Go.Proofs.YtdncljdfmdgdaaaGreatDoor
open Go.ChangeShapes Go.WideShapes Go.ChangeAt Go.RowKit
theorem znaZ {n:Int} (h:(Lit.int .i64 n).wf=true):-9223372036854775808≤n∧n≤9223372036854775807:=by
 simp only[Lit.wf,Bool.and_eq_true,decide_eq_true_eq]at h
 exact h
theorem zbzZ {α:Type} {P:Nat→α→Prop} : ∀(n:Nat),(∀i,i<n→∃x,P i x)→∃l:List α,l.length=n∧∀i (h:i<l.length),P i (l[i]'h)
 | 0,_=>⟨[],rfl,fun i h=>by simp at h⟩
 | n+1,h=>by
  obtain⟨l,hl,hp⟩:=zbzZ n (fun i hi=>h i (by omega))
  obtain⟨x,hx⟩:=h n (by omega)
  refine⟨l++[x],by simp[hl],fun i hi=>?_⟩
  by_cases hin:i<l.length
  ·rw[List.getElem_append_left hin];exact hp i hin
  ·have:i=n:=by simp at hi;omega
   subst this
   rw[List.getElem_append_right (by omega)]
   simpa[hl]using hx
def TokAt (w:World) (b o:Nat) (t:Lx.Tok):Prop:=
 w.cell? ⟨b,o,none⟩=some (.int .i64 t.pos)∧w.cell? ⟨b,o+1,none⟩=some (.int .i64 t.kind)∧w.cell? ⟨b,o+2,none⟩=some (.string ⟨t.s.toArray⟩)∧w.cell? ⟨b,o+3,none⟩=some (.int .i64 t.n)∧
  -9223372036854775808≤t.n∧t.n≤9223372036854775807
theorem fP0:(Tryz.prog.fieldsOf 36)[0]?.map (fun f=>(f.type,f.offset))=some (3,0):=by kernel_rfl
theorem uP : Tryz.prog.underlying 36 =some (.struct (Tryz.prog.fieldsOf 36)):=by kernel_rfl
theorem cT : Tryz.prog.cellsOf 133 =4:=by kernel_rfl
theorem cP : Tryz.prog.cellsOf 36 =1:=by kernel_rfl
theorem cI : Tryz.prog.cellsOf 3 =1:=by kernel_rfl
theorem cS : Tryz.prog.cellsOf 9 =1:=by kernel_rfl
theorem zceZ (b off n:Nat):(⟨b,off,none⟩:Addr).add n=⟨b,off+n,none⟩:=by
 unfold Addr.add
 split <;> simp_all
end Go.Proofs.YtdncljdfmdgdaaaGreatDoor
