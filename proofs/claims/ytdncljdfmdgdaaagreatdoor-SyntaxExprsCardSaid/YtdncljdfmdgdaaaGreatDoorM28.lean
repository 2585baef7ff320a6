/-
  Plain laws: how many tokens a tree has, by its size.
-/
import Derived.Test.YtdncljdfmdgdaaaGreatDoorM1
import Derived.Test.YtdncljdfmdgdaaaGreatDoorM27
import Derived.Test.YtdncljdfmdgdaaaGreatDoorM11
import Derived.Test.YtdncljdfmdgdaaaGreatDoorM13
import Derived.Test.YtdncljdfmdgdaaaGreatDoorM24
set_option linter.unusedSimpArgs false
set_option linter.unusedVariables false
namespace Go.Proofs.YtdncljdfmdgdaaaGreatDoor
open Go.Proofs.YtdncljdfmdgdaaaGreatDoor.Lx (Bytes)
namespace Sx
mutual
theorem typ_len:∀(t:Ty),(typ t).length+3≤8 * size t
 | .mk k n ns es ps=>by
  have h1:=zkmZ ps
  have h2:=fields_len ns es ps
  have h3:=params_len 0 ps
  have h4:=methods_len ns ps
  rw[typ,size]
  split
  ·simp;omega
  split
  ·simp;omega
  split
  ·simp;omega
  split
  ·simp;omega
  split
  ·simp;omega
  split
  ·simp;omega
  split
  ·simp;omega
  split
  ·simp;omega
  ·simp;omega
theorem zkmZ:∀(l:List Ty),(typL l).length≤8 * sizeL l
 | []=>by simp[typL]
 | t::l=>by
  rw[typL,sizeL]
  have:=typ_len t
  omega
theorem fields_len:∀(ns:List Bytes) (es:List Bool) (l:List Ty),(fields ns es l).length≤8 * sizeL l
 | ns,es,[]=>by cases ns <;> cases es <;> simp[fields]
 | [],es,t::l=>by simp[fields]
 | n::ns,[],t::l=>by simp[fields]
 | n::ns,e::es,t::l=>by
  rw[fields,sizeL]
  have h1:=typ_len t
  have h2:=fields_len ns es l
  simp only[List.length_append,List.length_cons,List.length_nil]
  split <;> simp <;> omega
theorem params_len:∀(i:Nat) (l:List Ty),(params i l).length≤8 * sizeL l
 | i,[]=>by simp[params]
 | i,t::l=>by
  rw[params,sizeL]
  have h1:=typ_len t
  have h2:=params_len (i+1) l
  split
  ·simp;omega
  ·simp only[List.length_append]
   split <;> simp <;> omega
theorem methods_len:∀(ns:List Bytes) (l:List Ty),(methods ns l).length≤8 * sizeL l
 | ns,[]=>by cases ns <;> simp[methods]
 | [],t::l=>by simp[methods]
 | n::ns,t::l=>by
  rw[methods,sizeL]
  have h1:=zjdZ t
  have h2:=methods_len ns l
  simp only[List.length_append,List.length_cons,List.length_nil]
  omega
theorem zjdZ:∀(t:Ty),(signature t).length+2≤8 * size t
 | .mk k n ns es ps=>by
  have h3:=params_len 0 ps
  rw[signature,size]
  simp
  omega
end
theorem zblZ {c:Prop} [Decidable c] {l m:List Bytes} {n:Nat} (h:c→l.length≤n) (k:¬c→m.length≤n):(if c then l else m).length≤n:=by
 split
 ·exact h ‹_›
 ·exact k ‹_›
mutual
theorem expr_len (S:Says):∀(x:Ex),(expr S x).length+4≤8 * sizeX x
 | .mk pos k n s t ns ps=>by
  have h1:=zkmZ t
  have h2:=record_len S 0 ns ps
  have h3:=zjeZ S 7 ps
  have h4:=zlqZ S ps
  have h5:=zflZ S 7 ps
  have h6:=zflZ S 6 ps
  have h7:=zsaZ S (if level k=3 then 4 else level k) (level k+1) ps
  have key:(expr S (.mk pos k n s t ns ps)).length≤4+8 * sizeXs ps+8 * sizeL t:=by
   rw[expr]
   refine zblZ (fun _=>?_) fun _=>zblZ (fun _=>?_) fun _=>zblZ (fun _=>?_) fun _=>zblZ (fun _=>?_) fun _=>zblZ (fun _=>?_) fun _=>zblZ (fun _=>?_) fun _=>zblZ (fun _=>?_) fun _=>
    zblZ (fun _=>?_) fun _=>zblZ (fun _=>?_) fun _=>zblZ (fun _=>?_) fun _=>zblZ (fun _=>?_) fun _=>zblZ (fun _=>?_) fun _=>?_
   all_goals simp only[List.length_append,List.length_cons,List.length_nil]
   all_goals try omega
   split <;> simp <;> omega
  rw[sizeX]
  omega
theorem zflZ (S:Says):∀(l:Nat) (ps:List Ex),(first S l ps).length≤8 * sizeXs ps
 | l,[]=>by simp[first]
 | l,x::ps=>by
  rw[first,sizeXs]
  have:=expr_len S x
  split <;> simp <;> omega
theorem zsaZ (S:Says):∀(l m:Nat) (ps:List Ex),(first S l ps).length+(second S m ps).length≤8 * sizeXs ps
 | l,m,[]=>by simp[first,second]
 | l,m,x::ps=>by
  rw[first,second,sizeXs]
  have:=expr_len S x
  have:=zflZ S m ps
  split <;> simp <;> omega
theorem zjeZ (S:Says):∀(l:Nat) (ps:List Ex),(first S l ps).length+(args S ps).length≤8 * sizeXs ps
 | l,[]=>by simp[first,args]
 | l,x::ps=>by
  rw[first,args,sizeXs]
  have:=expr_len S x
  have:=list_len S 0 ps
  split <;> simp <;> omega
theorem zlqZ (S:Says):∀(ps:List Ex),(applied S ps).length+(args S ps).length≤8 * sizeXs ps
 | []=>by simp[applied,args]
 | x::ps=>by
  rw[applied,args,sizeXs]
  have:=expr_len S x
  have:=list_len S 0 ps
  split <;> simp <;> omega
theorem list_len (S:Says):∀(i:Nat) (ps:List Ex),(list S i ps).length≤8 * sizeXs ps
 | i,[]=>by simp[list]
 | i,x::ps=>by
  rw[list,sizeXs]
  have:=expr_len S x
  have:=list_len S (i+1) ps
  split <;> simp <;> omega
theorem record_len (S:Says):∀(i:Nat) (ns:List Bytes) (ps:List Ex),(record S i ns ps).length≤8 * sizeXs ps
 | i,[],ps=>by simp[record]
 | i,n::ns,[]=>by simp[record]
 | i,n::ns,x::ps=>by
  rw[record,sizeXs]
  have:=expr_len S x
  have:=record_len S (i+1) ns ps
  split <;> simp <;> omega
end
end Sx
namespace Sx
def Tk (s:Bytes):Prop:=∃t:Lx.Tok,Lx.written t=(s,true)
theorem Tk.ne {s:Bytes} (h:Tk s):s≠[]:=by
 obtain⟨t,ht⟩:=h
 have hf:=Lx.form_of_written (t:=t) (by rw[ht])
 rw[ht]at hf
 obtain⟨c,l,e,-⟩:=Lx.form_begins hf
 simp only at e
 rw[e]
 exact List.cons_ne_nil _ _
theorem zggZ {k:Int} (hk:k=1∨k=2∨k=3) {s:Bytes} (h:isTok k s=true):Tk s:=by
 refine⟨⟨0,k,s,0⟩,?_⟩
 have hw:(Lx.written ⟨0,k,s,0⟩).2=true:=by
  cases h2:(Lx.written ⟨0,k,s,0⟩).2 with
  | true=>rfl
  | false=>
   unfold isTok at h
   rw[Lx.join_one_bad h2]at h
   simp at h
 have hr:Lx.raw ⟨0,k,s,0⟩=some s:=by
  unfold Lx.raw
  rw[if_pos (by simp only;omega)]
 have hf:=Lx.form_raw (Lx.form_of_written hw)
 rw[Lx.raw_bare,hr]at hf
 injection hf with hf
 rw[Prod.ext_iff]
 exact⟨hf.symm,hw⟩
theorem zcpZ {s:Bytes} (h:NM.small s=true):Tk s:=zggZ (k:=1) (.inl rfl) h
theorem zknZ {s:Bytes} (h:NM.great s=true):Tk s:=zggZ (k:=2) (.inr (.inl rfl)) h
theorem tkInt:Tk [105,110,116]:=⟨⟨0,3,[105,110,116],0⟩,by kernel_rfl⟩
theorem zvjZ:Tk [98,111,111,108]:=⟨⟨0,3,[98,111,111,108],0⟩,by kernel_rfl⟩
theorem zvkZ:Tk [116,101,120,116]:=⟨⟨0,3,[116,101,120,116],0⟩,by kernel_rfl⟩
theorem zpdZ:Tk [42]:=⟨⟨0,6,[42],0⟩,by kernel_rfl⟩
theorem zkoZ:Tk [123]:=⟨⟨0,6,[123],0⟩,by kernel_rfl⟩
theorem zkpZ:Tk [125]:=⟨⟨0,6,[125],0⟩,by kernel_rfl⟩
theorem zefZ:Tk [40]:=⟨⟨0,6,[40],0⟩,by kernel_rfl⟩
theorem tkEnd:Tk [41]:=⟨⟨0,6,[41],0⟩,by kernel_rfl⟩
theorem zpeZ:Tk [59]:=⟨⟨0,6,[59],0⟩,by kernel_rfl⟩
theorem ziaZ:Tk [44]:=⟨⟨0,6,[44],0⟩,by kernel_rfl⟩
theorem ztyZ:Tk [58]:=⟨⟨0,6,[58],0⟩,by kernel_rfl⟩
theorem tkDot:Tk [46]:=⟨⟨0,6,[46],0⟩,by kernel_rfl⟩
theorem tkEq:Tk [61,61]:=⟨⟨0,6,[61,61],0⟩,by kernel_rfl⟩
theorem zvlZ:Tk [60]:=⟨⟨0,6,[60],0⟩,by kernel_rfl⟩
theorem zvmZ:Tk [43]:=⟨⟨0,6,[43],0⟩,by kernel_rfl⟩
theorem zmjZ:Tk [45]:=⟨⟨0,6,[45],0⟩,by kernel_rfl⟩
theorem tkFn:Tk [102,110]:=⟨⟨0,3,[102,110],0⟩,by kernel_rfl⟩
theorem ztzZ:Tk [105,110,116,101,114,102,97,99,101]:=⟨⟨0,3,[105,110,116,101,114,102,97,99,101],0⟩,by kernel_rfl⟩
theorem zuaZ:Tk [101,109,98,101,100]:=⟨⟨0,3,[101,109,98,101,100],0⟩,by kernel_rfl⟩
theorem zvnZ:Tk [116,114,117,101]:=⟨⟨0,3,[116,114,117,101],0⟩,by kernel_rfl⟩
theorem zubZ:Tk [102,97,108,115,101]:=⟨⟨0,3,[102,97,108,115,101],0⟩,by kernel_rfl⟩
theorem zvoZ:Tk [115,101,108,102]:=⟨⟨0,3,[115,101,108,102],0⟩,by kernel_rfl⟩
theorem tkNil:Tk [110,105,108]:=⟨⟨0,3,[110,105,108],0⟩,by kernel_rfl⟩
theorem tkNew:Tk [110,101,119]:=⟨⟨0,3,[110,101,119],0⟩,by kernel_rfl⟩
theorem tkTo:Tk [116,111]:=⟨⟨0,3,[116,111],0⟩,by kernel_rfl⟩
theorem tkNot:Tk [110,111,116]:=⟨⟨0,3,[110,111,116],0⟩,by kernel_rfl⟩
theorem tkAnd:Tk [97,110,100]:=⟨⟨0,3,[97,110,100],0⟩,by kernel_rfl⟩
theorem tkOr:Tk [111,114]:=⟨⟨0,3,[111,114],0⟩,by kernel_rfl⟩
/-! ### which tokens a list has -/
def Tks (l:List Bytes):Prop:=∀s∈l,Tk s
theorem Tks.nil:Tks []:=fun s h=>by cases h
theorem Tks.cons {s:Bytes} {l:List Bytes} (h:Tk s) (hl:Tks l):Tks (s::l):=fun u hu=>by
 rcases List.mem_cons.1 hu with rfl | hu
 ·exact h
 ·exact hl u hu
theorem Tks.app {l m:List Bytes} (h:Tks l) (k:Tks m):Tks (l++m):=fun u hu=>by
 rcases List.mem_append.1 hu with hu | hu
 ·exact h u hu
 ·exact k u hu
theorem Tks.ite {c:Prop} [Decidable c] {l m:List Bytes} (h:c→Tks l) (k:¬c→Tks m):Tks (if c then l else m):=by
 split
 ·exact h ‹_›
 ·exact k ‹_›
theorem zhmZ:∀ {ns:List Bytes} {es:List Bool} {ps:List Ty},(∀n∈ns,Tk n)→(∀p∈ps,Tks (typ p))→Tks (fields ns es ps)
 | [],es,ps,hn,hp=>by rw[fields];exact Tks.nil;simp
 | n::ns,[],ps,hn,hp=>by rw[fields];exact Tks.nil;simp
 | n::ns,e::es,[],hn,hp=>by rw[fields];exact Tks.nil;simp
 | n::ns,e::es,t::ps,hn,hp=>by
  rw[fields]
  exact(((Tks.ite (fun _=>Tks.cons zuaZ Tks.nil) (fun _=>Tks.nil))).app (((Tks.cons (hn n List.mem_cons_self) Tks.nil).app (hp t List.mem_cons_self)).app (Tks.cons zpeZ Tks.nil))).app
   (zhmZ (fun m hm=>hn m (List.mem_cons_of_mem _ hm)) (fun p hq=>hp p (List.mem_cons_of_mem _ hq)))
theorem zerZ:∀ {ps:List Ty} {i:Nat},(∀p∈ps,Tks (typ p))→Tks (params i ps)
 | [],i,hp=>by rw[params];exact Tks.nil
 | t::ps,i,hp=>by
  rw[params]
  refine Tks.ite (fun _=>(Tks.cons tkEnd Tks.nil).app (hp t List.mem_cons_self)) (fun _=>?_)
  exact((Tks.ite (fun _=>Tks.cons ziaZ Tks.nil) (fun _=>Tks.nil)).app (hp t List.mem_cons_self)).app (zerZ fun p hq=>hp p (List.mem_cons_of_mem _ hq))
theorem zghZ:∀ {ns:List Bytes} {ps:List Ty},(∀n∈ns,Tk n)→(∀p∈ps,Tks (signature p))→Tks (methods ns ps)
 | [],ps,hn,hp=>by rw[methods];exact Tks.nil;simp
 | n::ns,[],hn,hp=>by rw[methods];exact Tks.nil;simp
 | n::ns,t::ps,hn,hp=>by
  rw[methods]
  exact(((Tks.cons (hn n List.mem_cons_self) Tks.nil).app (hp t List.mem_cons_self)).app (Tks.cons zpeZ Tks.nil)).app (zghZ (fun m hm=>hn m (List.mem_cons_of_mem _ hm)) (fun p hq=>hp p (List.mem_cons_of_mem _ hq)))
theorem zsbZ:∀(n:Nat) (t:Ty),size t≤n→∀d,rightT NM d t=true→Tks (typ t)∧Tks (signature t):=by
 intro n
 induction n with
 | zero=>intro t h;have:=size_pos t;omega
 | succ n ih=>
  intro t hn d h
  cases t with
  | mk k nm ns es ps=>
   cases d with
   | zero=>simp[rightT]at h
   | succ d=>
    rw[rightT,Bool.and_eq_true]at h
    obtain⟨hr,hs⟩:=h
    have H3:∀(l:List Ty),rightTs NM d l=true→∀p∈l,rightT NM d p=true:=by
     intro l
     induction l with
     | nil=>intro _ p hp;cases hp
     | cons u l ihl=>
      intro h p hp
      rw[rightTs,Bool.and_eq_true]at h
      rcases List.mem_cons.1 hp with rfl | hp
      ·exact h.1
      ·exact ihl h.2 p hp
    rw[size]at hn
    have H0:∀p∈ps,Tks (typ p)∧Tks (signature p):=fun p hp=>ih p (by have:=size_mem hp;omega) d (H3 ps hr p hp)
    have H1:∀p∈ps,Tks (typ p):=fun p hp=>(H0 p hp).1
    have H2:Tks (signature (.mk k nm ns es ps)):=by
     rw[signature]
     exact(Tks.cons zefZ Tks.nil).app (zerZ H1)
    refine⟨?_,H2⟩
    rw[typ]
    refine Tks.ite (fun _=>Tks.cons tkInt Tks.nil) fun e1=>Tks.ite (fun _=>Tks.cons zvjZ Tks.nil) fun e2=>Tks.ite (fun _=>Tks.cons zvkZ Tks.nil) fun e3=>Tks.ite (fun e4=>?_) fun e4=>Tks.ite (fun _=>?_) fun e5=>
     Tks.ite (fun e6=>?_) fun e6=>Tks.ite (fun _=>?_) fun e7=>Tks.ite (fun e8=>?_) fun _=>Tks.nil
    ·rw[shape,if_neg (by omega),if_pos e4]at hs
     simp only[Bool.and_eq_true]at hs
     exact Tks.cons (zknZ hs.1.1.1) Tks.nil
    ·refine Tks.cons zpdZ ?_
     cases ps with
     | nil=>rw[typL];exact Tks.nil
     | cons p ps=>rw[typL];exact H1 p List.mem_cons_self
    ·have hq:apart NM ns=true:=by
      rw[shape,if_neg (by omega),if_neg e4,if_neg e5,if_neg (by omega),if_pos e6]at hs
      simp only[Bool.and_eq_true]at hs
      exact hs.2
     exact((Tks.cons zkoZ Tks.nil).app (zhmZ (fun m hm=>zcpZ (apart_small hq m hm)) H1)).app (Tks.cons zkpZ Tks.nil)
    ·exact(Tks.cons tkFn Tks.nil).app ((Tks.cons zefZ Tks.nil).app (zerZ H1))
    ·have hq:apart NM ns=true:=by
      rw[shape,if_neg (by omega),if_neg e4,if_neg e5,if_neg e7,if_neg e6,if_pos e8]at hs
      simp only[Bool.and_eq_true]at hs
      exact hs.2.2
     exact((Tks.cons ztzZ (Tks.cons zkoZ Tks.nil)).app (zghZ (fun m hm=>zcpZ (apart_small hq m hm)) (fun p hp=>(H0 p hp).2))).app (Tks.cons zkpZ Tks.nil)
theorem zucZ {t:Ty} {d:Nat} (h:rightT NM d t=true):Tks (typ t):=(zsbZ _ t (Nat.le_refl _) d h).1
theorem znkZ {n:Int} (h0:0≤n) (h1:n≤9223372036854775807):Tk (SY.digits n):=by
 have hf:=Lx.number_form n.toNat (by omega)
 exact⟨_,Lx.written_of_form (t:=⟨0,4,[],n.toNat⟩) hf⟩
theorem zpfZ {s:Bytes} (h:NM.said s=true):Tk (SY.quote s):=by
 have hw:(Lx.written ⟨0,5,s,0⟩).2=true:=by
  cases h2:(Lx.written ⟨0,5,s,0⟩).2 with
  | true=>rfl
  | false=>
   have h':isTok 5 s=true:=h
   unfold isTok at h'
   rw[Lx.join_one_bad h2]at h'
   simp at h'
 refine⟨⟨0,5,s,0⟩,?_⟩
 have hf:=Lx.form_raw (Lx.form_of_written hw)
 have hr:Lx.raw ⟨0,5,s,0⟩=some (Lx.quote s):=rfl
 rw[Lx.raw_bare,hr]at hf
 injection hf with hf
 rw[Prod.ext_iff]
 exact⟨hf.symm,hw⟩
theorem zkqZ {l:List Ty} {d:Nat} (h:rightTs NM d l=true):Tks (typL l):=by
 cases l with
 | nil=>rw[typL];exact Tks.nil
 | cons t l=>
  rw[rightTs,Bool.and_eq_true]at h
  rw[typL]
  exact zucZ h.1
theorem zudZ (k:Int):Tk (sign k):=by
 unfold sign
 split
 ·exact zpdZ
 split
 ·exact zvmZ
 split
 ·exact zmjZ
 split
 ·exact tkEq
 split
 ·exact zvlZ
 split
 ·exact tkAnd
 ·exact tkOr
theorem zciZ {l:List Ex} (n:Nat) (h:∀x∈l,Tks (expr SY x)):Tks (first SY n l):=by
 cases l with
 | nil=>rw[first];exact Tks.nil
 | cons x l=>
  rw[first]
  exact Tks.ite (fun _=>((Tks.cons zefZ Tks.nil).app (h x List.mem_cons_self)).app (Tks.cons tkEnd Tks.nil)) (fun _=>h x List.mem_cons_self)
theorem znlZ {l:List Ex} (n:Nat) (h:∀x∈l,Tks (expr SY x)):Tks (second SY n l):=by
 cases l with
 | nil=>rw[second];exact Tks.nil
 | cons x l=>rw[second];exact zciZ n fun y hy=>h y (List.mem_cons_of_mem _ hy)
theorem zlrZ {l:List Ex} (h:∀x∈l,Tks (expr SY x)):Tks (applied SY l):=by
 cases l with
 | nil=>rw[applied];exact Tks.nil
 | cons x l=>
  rw[applied]
  exact Tks.ite (fun _=>((Tks.cons zefZ Tks.nil).app (h x List.mem_cons_self)).app (Tks.cons tkEnd Tks.nil)) (fun _=>h x List.mem_cons_self)
theorem zioZ:∀ {l:List Ex} {i:Nat},(∀x∈l,Tks (expr SY x))→Tks (list SY i l)
 | [],i,h=>by rw[list];exact Tks.nil
 | x::l,i,h=>by
  rw[list]
  exact((Tks.ite (fun _=>Tks.cons ziaZ Tks.nil) (fun _=>Tks.nil)).app (h x List.mem_cons_self)).app (zioZ fun y hy=>h y (List.mem_cons_of_mem _ hy))
theorem zkrZ {l:List Ex} (h:∀x∈l,Tks (expr SY x)):Tks (args SY l):=by
 cases l with
 | nil=>rw[args];exact Tks.nil
 | cons x l=>
  rw[args]
  exact((Tks.cons zefZ Tks.nil).app (zioZ fun y hy=>h y (List.mem_cons_of_mem _ hy))).app (Tks.cons tkEnd Tks.nil)
theorem zhnZ:∀ {ns:List Bytes} {l:List Ex} {i:Nat},(∀n∈ns,Tk n)→(∀x∈l,Tks (expr SY x))→Tks (record SY i ns l)
 | [],l,i,hn,h=>by rw[record];exact Tks.nil;simp
 | n::ns,[],i,hn,h=>by rw[record];exact Tks.nil;simp
 | n::ns,x::l,i,hn,h=>by
  rw[record]
  exact(((Tks.ite (fun _=>Tks.cons ziaZ Tks.nil) (fun _=>Tks.nil)).app (Tks.cons (hn n List.mem_cons_self) (Tks.cons ztyZ Tks.nil))).app (h x List.mem_cons_self)).app
   (zhnZ (fun m hm=>hn m (List.mem_cons_of_mem _ hm)) (fun y hy=>h y (List.mem_cons_of_mem _ hy)))
mutual
def numX:Ex→Prop
 | .mk _ _ n _ _ _ ps=>n≤9223372036854775807∧numXs ps
def numXs:List Ex→Prop
 | []=>True
 | x::l=>numX x∧numXs l
end
theorem zipZ:∀ {l:List Ex},numXs l→∀x∈l,numX x
 | u::l,h,x,hx=>by
  rw[numXs]at h
  rcases List.mem_cons.1 hx with rfl | hx
  ·exact h.1
  ·exact zipZ h.2 x hx
theorem numX_parts {x:Ex} (h:numX x):x.n≤9223372036854775807∧∀p∈x.parts,numX p:=by
 cases x
 rw[numX]at h
 exact⟨h.1,zipZ h.2⟩
mutual
def numS:St→Prop
 | .mk _ _ _ _ x b e=>numXs x∧numSs b∧numSs e
def numSs:List St→Prop
 | []=>True
 | s::l=>numS s∧numSs l
end
theorem zscZ:∀(n:Nat) (x:Ex),sizeX x≤n→okX x→numX x→Tks (expr SY x):=by
 intro n
 induction n with
 | zero=>intro x h;have:=sizeX_pos x;omega
 | succ n ih=>
  intro x hn H2 H1
  obtain⟨hs,hp⟩:=H2.shape
  obtain⟨hxn,hnp⟩:=numX_parts H1
  have H0:∀p∈x.parts,Tks (expr SY p):=fun p hm=>ih p (by have:=sizeX_mem hm;have:=sizeX_parts x;omega) (hp p hm) (hnp p hm)
  unfold shapeX at hs
  simp only[Bool.and_eq_true]at hs
  obtain⟨h1,h2,h3,h4,h5⟩:=hs
  have H3:1≤x.kind∧x.kind≤21:=by simpa using h1
  rw[expr_eq]
  refine Tks.ite (fun e=>?_) fun e1=>Tks.ite (fun e=>?_) fun e2=>Tks.ite (fun e=>?_) fun e3=>Tks.ite (fun e=>?_) fun e4=>Tks.ite (fun e=>Tks.cons zvoZ Tks.nil) fun e5=>Tks.ite (fun e=>?_) fun e6=>
   Tks.ite (fun e=>?_) fun e7=>Tks.ite (fun e=>?_) fun e9=>Tks.ite (fun e=>?_) fun e10=>Tks.ite (fun e=>?_) fun e11=>Tks.ite (fun e=>?_) fun e12=>Tks.ite (fun e=>?_) fun e13=>?_
  ·have h0:0≤x.n:=by
    simp only[Bool.or_eq_true,decide_eq_true_eq]at h3
    omega
   exact Tks.cons (znkZ h0 hxn) Tks.nil
  ·rw[if_pos e]at h2
   exact Tks.cons (zpfZ h2) Tks.nil
  ·refine Tks.cons ?_ Tks.nil
   split
   ·exact zvnZ
   ·exact zubZ
  ·rw[if_neg e2,if_pos (.inl e)]at h2
   exact Tks.cons (zcpZ h2) Tks.nil
  ·rw[if_pos (.inl e),Bool.and_eq_true]at h4
   exact Tks.cons tkNil (zkqZ h4.2)
  ·rw[if_neg e2,if_neg (by omega),if_pos e]at h2
   rw[if_pos e,Bool.and_eq_true]at h5
   exact(((Tks.ite (fun _=>Tks.cons tkNew Tks.nil) (fun _=>Tks.nil)).app (Tks.cons (zknZ h2) (Tks.cons zkoZ Tks.nil))).app (zhnZ (fun m hm=>zcpZ (apart_small h5.2 m hm)) H0)).app (Tks.cons zkpZ Tks.nil)
  ·rw[if_neg e2,if_pos (by omega)]at h2
   exact(zciZ 7 H0).app (Tks.cons tkDot (Tks.cons (zcpZ h2) Tks.nil))
  ·rw[if_neg e2,if_pos (by omega)]at h2
   exact((zciZ 7 H0).app (Tks.cons tkDot (Tks.cons (zcpZ h2) Tks.nil))).app (zkrZ H0)
  ·exact(zlrZ H0).app (zkrZ H0)
  ·rw[if_pos (.inr e),Bool.and_eq_true]at h4
   exact((zciZ 7 H0).app (Tks.cons tkTo Tks.nil)).app (zkqZ h4.2)
  ·refine Tks.cons ?_ (zciZ 6 H0)
   split
   ·exact zmjZ
   ·exact tkNot
  ·exact((zciZ _ H0).app (Tks.cons (zudZ _) Tks.nil)).app (znlZ _ H0)
theorem tks_ex {x:Ex} (h:okX x) (hn:numX x):Tks (expr SY x):=zscZ _ x (Nat.le_refl _) h hn
/-! ### the texts of several, one behind the other -/
end Sx
mutual
theorem IsEx.num {W:World} : ∀(t:Sx.Ex) (v:Value),IsEx W v t→Sx.numX t
 | .mk pos k n s t ns ps,v,h=>by
  rw[IsEx]at h
  obtain⟨vt,vn,A0,c0,hv,h0,h1,a0,b0,e0,e1⟩:=h
  rw[Sx.numX]
  exact⟨e1,IsExs.num ps A0 0 b0⟩
theorem IsExs.num {W:World} : ∀(l:List Sx.Ex) (A:Option Addr) (i:Nat),IsExs W A i l→Sx.numXs l
 | [],A,i,h=>by rw[Sx.numXs];trivial
 | t::l,A,i,h=>by
  rw[IsExs]at h
  obtain⟨⟨g,off,v0,v1,v2,v3,v4,v5,v6,hA,k0,k1,k2,k3,k4,k5,k6,ht⟩,hl⟩:=h
  rw[Sx.numXs]
  exact⟨IsEx.num t _ ht,IsExs.num l A (i+1) hl⟩
end
theorem ExRow.num {W:World} {v:Value} {l:List Sx.Ex} (h:ExRow W v l):Sx.numXs l:=by
 obtain⟨A,c,rfl,hc,hl⟩:=h
 exact IsExs.num l A 0 hl
mutual
theorem IsSt.num {W:World} : ∀(t:Sx.St) (v:Value),IsSt W v t→Sx.numS t
 | .mk pos k nm t x b e,v,h=>by
  rw[IsSt]at h
  obtain⟨vt,vx,A0,c0,A1,c1,hv,h0,h1,a0,b0,a1,b1⟩:=h
  rw[Sx.numS]
  exact⟨h1.num,IsSts.num b A0 0 b0,IsSts.num e A1 0 b1⟩
theorem IsSts.num {W:World} : ∀(l:List Sx.St) (A:Option Addr) (i:Nat),IsSts W A i l→Sx.numSs l
 | [],A,i,h=>by rw[Sx.numSs];trivial
 | t::l,A,i,h=>by
  rw[IsSts]at h
  obtain⟨⟨g,off,v0,v1,v2,v3,v4,v5,v6,hA,k0,k1,k2,k3,k4,k5,k6,ht⟩,hl⟩:=h
  rw[Sx.numSs]
  exact⟨IsSt.num t _ ht,IsSts.num l A (i+1) hl⟩
end
theorem StRow.num {W:World} {v:Value} {l:List Sx.St} (h:StRow W v l):Sx.numSs l:=by
 obtain⟨A,c,rfl,hc,hl⟩:=h
 exact IsSts.num l A 0 hl
namespace Sx
def Lk (s:Bytes):Prop:=s.length≤100000
theorem znmZ {r:Bytes} {t:Lx.Tok} (h:Lx.Form r t) (hk:t.kind=1∨t.kind=2∨t.kind=3):t.s.length≤32:=by
 cases h with
 | name c s hc hs hl=>exact hl
 | number c s hs hv hz=>simp at hk
 | text u hu=>simp at hk
 | two=>simp at hk
 | sign c hc=>simp at hk
theorem zgiZ {k:Int} (hk:k=1∨k=2∨k=3) {s:Bytes} (h:isTok k s=true):Lk s:=by
 have hw:(Lx.written ⟨0,k,s,0⟩).2=true:=by
  cases h2:(Lx.written ⟨0,k,s,0⟩).2 with
  | true=>rfl
  | false=>
   unfold isTok at h
   rw[Lx.join_one_bad h2]at h
   simp at h
 have:=znmZ (Lx.form_of_written hw) hk
 have h2:s.length≤32:=this
 unfold Lk
 omega
theorem zcqZ {s:Bytes} (h:NM.small s=true):Lk s:=zgiZ (k:=1) (.inl rfl) h
theorem zksZ {s:Bytes} (h:NM.great s=true):Lk s:=zgiZ (k:=2) (.inr (.inl rfl)) h
theorem lkInt:Lk [105,110,116]:=by unfold Lk;decide
theorem zvpZ:Lk [98,111,111,108]:=by unfold Lk;decide
theorem zvqZ:Lk [116,101,120,116]:=by unfold Lk;decide
theorem zpgZ:Lk [42]:=by unfold Lk;decide
theorem zktZ:Lk [123]:=by unfold Lk;decide
theorem zkuZ:Lk [125]:=by unfold Lk;decide
theorem zegZ:Lk [40]:=by unfold Lk;decide
theorem lkEnd:Lk [41]:=by unfold Lk;decide
theorem zphZ:Lk [59]:=by unfold Lk;decide
theorem zibZ:Lk [44]:=by unfold Lk;decide
theorem zueZ:Lk [58]:=by unfold Lk;decide
theorem lkDot:Lk [46]:=by unfold Lk;decide
theorem lkEq:Lk [61,61]:=by unfold Lk;decide
theorem zvrZ:Lk [60]:=by unfold Lk;decide
theorem zvsZ:Lk [43]:=by unfold Lk;decide
theorem zmkZ:Lk [45]:=by unfold Lk;decide
theorem lkFn:Lk [102,110]:=by unfold Lk;decide
theorem zufZ:Lk [105,110,116,101,114,102,97,99,101]:=by unfold Lk;decide
theorem zugZ:Lk [101,109,98,101,100]:=by unfold Lk;decide
theorem zvtZ:Lk [116,114,117,101]:=by unfold Lk;decide
theorem zuhZ:Lk [102,97,108,115,101]:=by unfold Lk;decide
theorem zvuZ:Lk [115,101,108,102]:=by unfold Lk;decide
theorem lkNil:Lk [110,105,108]:=by unfold Lk;decide
theorem lkNew:Lk [110,101,119]:=by unfold Lk;decide
theorem lkTo:Lk [116,111]:=by unfold Lk;decide
theorem lkNot:Lk [110,111,116]:=by unfold Lk;decide
theorem lkAnd:Lk [97,110,100]:=by unfold Lk;decide
theorem lkOr:Lk [111,114]:=by unfold Lk;decide
/-! ### which tokens a list has -/
def Lks (l:List Bytes):Prop:=∀s∈l,Lk s
theorem Lks.nil:Lks []:=fun s h=>by cases h
theorem Lks.cons {s:Bytes} {l:List Bytes} (h:Lk s) (hl:Lks l):Lks (s::l):=fun u hu=>by
 rcases List.mem_cons.1 hu with rfl | hu
 ·exact h
 ·exact hl u hu
theorem Lks.app {l m:List Bytes} (h:Lks l) (k:Lks m):Lks (l++m):=fun u hu=>by
 rcases List.mem_append.1 hu with hu | hu
 ·exact h u hu
 ·exact k u hu
theorem Lks.ite {c:Prop} [Decidable c] {l m:List Bytes} (h:c→Lks l) (k:¬c→Lks m):Lks (if c then l else m):=by
 split
 ·exact h ‹_›
 ·exact k ‹_›
theorem zhoZ:∀ {ns:List Bytes} {es:List Bool} {ps:List Ty},(∀n∈ns,Lk n)→(∀p∈ps,Lks (typ p))→Lks (fields ns es ps)
 | [],es,ps,hn,hp=>by rw[fields];exact Lks.nil;simp
 | n::ns,[],ps,hn,hp=>by rw[fields];exact Lks.nil;simp
 | n::ns,e::es,[],hn,hp=>by rw[fields];exact Lks.nil;simp
 | n::ns,e::es,t::ps,hn,hp=>by
  rw[fields]
  exact(((Lks.ite (fun _=>Lks.cons zugZ Lks.nil) (fun _=>Lks.nil))).app (((Lks.cons (hn n List.mem_cons_self) Lks.nil).app (hp t List.mem_cons_self)).app (Lks.cons zphZ Lks.nil))).app
   (zhoZ (fun m hm=>hn m (List.mem_cons_of_mem _ hm)) (fun p hq=>hp p (List.mem_cons_of_mem _ hq)))
theorem zesZ:∀ {ps:List Ty} {i:Nat},(∀p∈ps,Lks (typ p))→Lks (params i ps)
 | [],i,hp=>by rw[params];exact Lks.nil
 | t::ps,i,hp=>by
  rw[params]
  refine Lks.ite (fun _=>(Lks.cons lkEnd Lks.nil).app (hp t List.mem_cons_self)) (fun _=>?_)
  exact((Lks.ite (fun _=>Lks.cons zibZ Lks.nil) (fun _=>Lks.nil)).app (hp t List.mem_cons_self)).app (zesZ fun p hq=>hp p (List.mem_cons_of_mem _ hq))
theorem zgjZ:∀ {ns:List Bytes} {ps:List Ty},(∀n∈ns,Lk n)→(∀p∈ps,Lks (signature p))→Lks (methods ns ps)
 | [],ps,hn,hp=>by rw[methods];exact Lks.nil;simp
 | n::ns,[],hn,hp=>by rw[methods];exact Lks.nil;simp
 | n::ns,t::ps,hn,hp=>by
  rw[methods]
  exact(((Lks.cons (hn n List.mem_cons_self) Lks.nil).app (hp t List.mem_cons_self)).app (Lks.cons zphZ Lks.nil)).app (zgjZ (fun m hm=>hn m (List.mem_cons_of_mem _ hm)) (fun p hq=>hp p (List.mem_cons_of_mem _ hq)))
theorem zsdZ:∀(n:Nat) (t:Ty),size t≤n→∀d,rightT NM d t=true→Lks (typ t)∧Lks (signature t):=by
 intro n
 induction n with
 | zero=>intro t h;have:=size_pos t;omega
 | succ n ih=>
  intro t hn d h
  cases t with
  | mk k nm ns es ps=>
   cases d with
   | zero=>simp[rightT]at h
   | succ d=>
    rw[rightT,Bool.and_eq_true]at h
    obtain⟨hr,hs⟩:=h
    have H3:∀(l:List Ty),rightTs NM d l=true→∀p∈l,rightT NM d p=true:=by
     intro l
     induction l with
     | nil=>intro _ p hp;cases hp
     | cons u l ihl=>
      intro h p hp
      rw[rightTs,Bool.and_eq_true]at h
      rcases List.mem_cons.1 hp with rfl | hp
      ·exact h.1
      ·exact ihl h.2 p hp
    rw[size]at hn
    have H0:∀p∈ps,Lks (typ p)∧Lks (signature p):=fun p hp=>ih p (by have:=size_mem hp;omega) d (H3 ps hr p hp)
    have H1:∀p∈ps,Lks (typ p):=fun p hp=>(H0 p hp).1
    have H2:Lks (signature (.mk k nm ns es ps)):=by
     rw[signature]
     exact(Lks.cons zegZ Lks.nil).app (zesZ H1)
    refine⟨?_,H2⟩
    rw[typ]
    refine Lks.ite (fun _=>Lks.cons lkInt Lks.nil) fun e1=>Lks.ite (fun _=>Lks.cons zvpZ Lks.nil) fun e2=>Lks.ite (fun _=>Lks.cons zvqZ Lks.nil) fun e3=>Lks.ite (fun e4=>?_) fun e4=>Lks.ite (fun _=>?_) fun e5=>
     Lks.ite (fun e6=>?_) fun e6=>Lks.ite (fun _=>?_) fun e7=>Lks.ite (fun e8=>?_) fun _=>Lks.nil
    ·rw[shape,if_neg (by omega),if_pos e4]at hs
     simp only[Bool.and_eq_true]at hs
     exact Lks.cons (zksZ hs.1.1.1) Lks.nil
    ·refine Lks.cons zpgZ ?_
     cases ps with
     | nil=>rw[typL];exact Lks.nil
     | cons p ps=>rw[typL];exact H1 p List.mem_cons_self
    ·have hq:apart NM ns=true:=by
      rw[shape,if_neg (by omega),if_neg e4,if_neg e5,if_neg (by omega),if_pos e6]at hs
      simp only[Bool.and_eq_true]at hs
      exact hs.2
     exact((Lks.cons zktZ Lks.nil).app (zhoZ (fun m hm=>zcqZ (apart_small hq m hm)) H1)).app (Lks.cons zkuZ Lks.nil)
    ·exact(Lks.cons lkFn Lks.nil).app ((Lks.cons zegZ Lks.nil).app (zesZ H1))
    ·have hq:apart NM ns=true:=by
      rw[shape,if_neg (by omega),if_neg e4,if_neg e5,if_neg e7,if_neg e6,if_pos e8]at hs
      simp only[Bool.and_eq_true]at hs
      exact hs.2.2
     exact((Lks.cons zufZ (Lks.cons zktZ Lks.nil)).app (zgjZ (fun m hm=>zcqZ (apart_small hq m hm)) (fun p hp=>(H0 p hp).2))).app (Lks.cons zkuZ Lks.nil)
theorem zuiZ {t:Ty} {d:Nat} (h:rightT NM d t=true):Lks (typ t):=(zsdZ _ t (Nat.le_refl _) d h).1
end Sx
end Go.Proofs.YtdncljdfmdgdaaaGreatDoor
