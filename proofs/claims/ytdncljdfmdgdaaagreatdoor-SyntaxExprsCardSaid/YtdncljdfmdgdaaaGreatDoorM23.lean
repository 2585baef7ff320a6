/-
  slices.Equal at bools.
-/
import Derived.Test.YtdncljdfmdgdaaaGreatDoorM1
import Derived.Test.YtdncljdfmdgdaaaGreatDoorM17
import Derived.Test.YtdncljdfmdgdaaaGreatDoorM22
import Derived.Test.YtdncljdfmdgdaaaGreatDoorM10
import Derived.Test.YtdncljdfmdgdaaaGreatDoorM11
set_option linter.unusedSimpArgs false
set_option linter.unusedVariables false
set_option maxRecDepth 100000
set_option maxHeartbeats 4000000
namespace Go.Proofs.YtdncljdfmdgdaaaGreatDoor
open Go.RowKit Go.Shelf
end Go.Proofs.YtdncljdfmdgdaaaGreatDoor
namespace Go.Proofs.YtdncljdfmdgdaaaGreatDoor
open Go.RowKit
theorem zgoZ:∀(n:Nat) (l:List Sx.Ty) (v:Value) (W:World),Sx.sizeL l≤n→n≤1000000→TyRow W v l→
  Calls Tryz.prog 15 #[v] W fun e W'=>e=.returned (.int .i64 (Sx.nodesL l:Nat))∧Below W.heap.size W W':=by
 intro n
 induction n using Nat.strongRecOn with
 | _ n ih=>
  intro l v W hn Ho hv
  obtain⟨A,c,rfl,hcap,hl⟩:=hv
  have Hd:=Sx.length_size l
  have Hm:=Sx.nodesL_size l
  have Hq:(l.length:Int)≤1000000:=by omega
  have HL:=zh hl
  have Hf:=zh ih
  clear ih hl
  go_enter Tryz.func15, Tryz.ntmps15
  go_wp2_with fail
  go_loopg [3,8] (l.length) (fun i u v wr=>∃(m k:Nat),i=l.length-m∧v=.int .i64 (m:Int)∧u=.int .i64 (k:Int)∧k=Sx.nodesL (l.take m)∧m≤l.length∧Below W.heap.size W wr)
  case atStart=>exact⟨0,0,rfl,rfl,rfl,rfl,Nat.zero_le _,Below.refl _ _⟩
  case round=>
   obtain⟨m,k,hi,rfl,rfl,hk,hm,hb⟩:=hrel
   have HI:=zh hi
   have HK:=zh hk
   have HB:=zh hb
   have m0:(0:Int)≤(m:Int):=by omega
   have k0:(0:Int)≤(k:Int):=by omega
   have Hp:k≤1000000:=by have:=Sx.nodesL_take_le l m;omega
   have Hl:(k:Int)≤1000000:=by omega
   clear hi hk hb
   by_cases hlt:m<l.length
   ·have Hh:(m:Int)<(l.length:Int):=by omega
    obtain⟨g,off,v0,v1,v2,v3,v4,rfl,c0,c1,c2,c3,c4,ht⟩:=IsTys.at (IsTys.below HB.o l _ 0 HL.o) m hlt
    obtain⟨t,hte⟩:=zE (l[m]'hlt)
    have H2:t∈l:=by rw[←hte];exact List.getElem_mem hlt
    rw[hte]at ht
    have H8:=zh (Sx.parts_mem H2)
    have Hn:=zh (Sx.size_mem H2)
    have HT:=zh (Sx.nodes_take hlt)
    have H9:=zh hte
    obtain⟨vn,ve,vp,hagg,hsn,hse,hsp⟩:=ht.limbs
    obtain⟨An,cn,hvn,-⟩:=id hsn
    obtain⟨Ae,ce,hve,-⟩:=id hse
    obtain⟨Ap,cp,hvp,-,-⟩:=id hsp
    subst hvn hve hvp
    injection hagg with hagg
    simp only[Array.mk.injEq,List.cons.injEq,and_true]at hagg
    obtain⟨rfl,rfl,rfl,rfl,rfl⟩:=hagg
    rw[Nat.zero_add]at c0 c1 c2 c3 c4
    have Hi:=World.block_lt_of_cell? wr ⟨g,_,none⟩ c0
    simp only at Hi
    have HP:=zh hsp
    have He:=Sx.nodesL_size t.parts
    obtain⟨np,hnpe⟩:=zE (Sx.nodesL t.parts)
    have Hk:(np:Int)≤1000000:=by have:=H8.o;omega
    have Hg:(0:Int)≤(np:Int):=by omega
    have Ha:=Sx.nodes_parts t
    have Hb:=zh Ha
    have H6:=zh hnpe
    have H1:∀X,Below wr.heap.size wr X→Calls Tryz.prog 15 #[.slice Ap t.parts.length cp] X fun e X'=>e=.returned (.int .i64 (np:Int))∧Below X.heap.size X X':=by
     intro X hX
     have:=Hf.o (Sx.sizeL t.parts) (by have:=H8.o;omega) t.parts _ X (Nat.le_refl _) (by have:=H8.o;omega) (HP.o.below hX)
     rw[H6.o]at this
     exact this
    have H7:=zh H1
    obtain⟨kd,hkd⟩:=zE (t.kind)
    have Hc:=zh hkd
    rw[hkd]at c0
    clear hsn hse hsp ht He hnpe Ha H1 hkd hte
    have H0:Below wr.heap.size wr (wr.alloc (.cells #[.int .i64 kd,.string ⟨t.name.toArray⟩,.slice An t.names.length cn,.slice Ae t.embeds.length ce,.slice Ap t.parts.length cp] 26)):=zeZ (World.grownBy_alloc _ _ _)
    have H3:=H7.o _ H0
    by_cases h4:kd=4
    ·have Hj:(kd != 4)=false:=by simp[h4]
     have H4:=zh h4
     clear h4
     go_wp2_with (go_at_call 15;refine H3.mono ?_;clear H3;rintro e W5 ⟨rfl,H5⟩)
     go_roundg (l.length-(m+1))
     case measure=>have:=HI.o;omega
     case rel=>
      refine⟨m+1,k+np,rfl,by simp,by simp,?_,hlt,(HB.o.trans (H0.mono HB.o.size)).trans (H5.mono (Nat.le_trans HB.o.size H0.size))⟩
      rw[HT.o,H9.o,Hb.o,Hc.o,H4.o,H6.o,←HK.o]
      simp
    ·have Hj:(kd != 4)=true:=by simp[h4]
     have H4:=zh h4
     clear h4
     go_wp2_with (go_at_call 15;refine H3.mono ?_;clear H3;rintro e W5 ⟨rfl,H5⟩)
     go_roundg (l.length-(m+1))
     case measure=>have:=HI.o;omega
     case rel=>
      refine⟨m+1,k+1+np,rfl,by simp,by simp,?_,hlt,(HB.o.trans (H0.mono HB.o.size)).trans (H5.mono (Nat.le_trans HB.o.size H0.size))⟩
      rw[HT.o,H9.o,Hb.o,Hc.o,if_neg H4.o,H6.o,←HK.o]
      omega
   ·have Hh:¬(m:Int)<(l.length:Int):=by omega
    go_wp2_with fail
    go_ret
    refine⟨?_,HB.o⟩
    rw[HK.o,List.take_of_length_le (by omega)]
    rfl
theorem zkhZ:∀(n:Nat) (l:List Sx.Ty) (v:Value) (W:World),Sx.sizeL l≤n→n≤1000000→TyRow W v l→
  Calls Tryz.prog 18 #[v] W fun e W'=>e=.returned (.int .i64 (Sx.depthL l:Nat))∧Below W.heap.size W W':=by
 intro n
 induction n using Nat.strongRecOn with
 | _ n ih=>
  intro l v W hn Hn hv
  obtain⟨A,c,rfl,hcap,hl⟩:=hv
  have Hd:=Sx.length_size l
  have Hl:=Sx.depthL_size l
  have Hp:(l.length:Int)≤1000000:=by omega
  have HL:=zh hl
  have Hf:=zh ih
  clear ih hl
  go_enter Tryz.func18, Tryz.ntmps18
  go_wp2_with fail
  go_loopg [3,8] (l.length) (fun i u v wr=>∃(m k:Nat),i=l.length-m∧v=.int .i64 (m:Int)∧u=.int .i64 (k:Int)∧k=Sx.depthL (l.take m)∧m≤l.length∧Below W.heap.size W wr)
  case atStart=>exact⟨0,0,rfl,rfl,rfl,rfl,Nat.zero_le _,Below.refl _ _⟩
  case round=>
   obtain⟨m,k,hi,rfl,rfl,hk,hm,hb⟩:=hrel
   have HI:=zh hi
   have HK:=zh hk
   have HB:=zh hb
   have m0:(0:Int)≤(m:Int):=by omega
   have k0:(0:Int)≤(k:Int):=by omega
   have Ho:k≤1000000:=by have:=Sx.depthL_take_le l m;omega
   have Hk:(k:Int)≤1000000:=by omega
   clear hi hk hb
   by_cases hlt:m<l.length
   ·have Hh:(m:Int)<(l.length:Int):=by omega
    obtain⟨g,off,v0,v1,v2,v3,v4,rfl,c0,c1,c2,c3,c4,ht⟩:=IsTys.at (IsTys.below HB.o l _ 0 HL.o) m hlt
    obtain⟨t,hte⟩:=zE (l[m]'hlt)
    have H1:t∈l:=by rw[←hte];exact List.getElem_mem hlt
    rw[hte]at ht
    have H4:=zh (Sx.parts_mem H1)
    have Hm:=zh (Sx.size_mem H1)
    have HT:=zh (Sx.depth_take hlt)
    have Ha:=zh hte
    obtain⟨vn,ve,vp,hagg,hsn,hse,hsp⟩:=ht.limbs
    obtain⟨An,cn,hvn,-⟩:=id hsn
    obtain⟨Ae,ce,hve,-⟩:=id hse
    obtain⟨Ap,cp,hvp,-,-⟩:=id hsp
    subst hvn hve hvp
    injection hagg with hagg
    simp only[Array.mk.injEq,List.cons.injEq,and_true]at hagg
    obtain⟨rfl,rfl,rfl,rfl,rfl⟩:=hagg
    rw[Nat.zero_add]at c0 c1 c2 c3 c4
    have Hi:=World.block_lt_of_cell? wr ⟨g,_,none⟩ c0
    simp only at Hi
    have HP:=zh hsp
    have He:=Sx.depthL_size t.parts
    obtain⟨np,hnpe⟩:=zE (Sx.depthL t.parts)
    have Hj:(np:Int)≤1000000:=by have:=H4.o;omega
    have Hg:(0:Int)≤(np:Int):=by omega
    have H5:=Sx.depth_parts t
    have Hc:=zh H5
    have H6:=zh hnpe
    have H0:∀X,Below wr.heap.size wr X→Calls Tryz.prog 18 #[.slice Ap t.parts.length cp] X fun e X'=>e=.returned (.int .i64 (np:Int))∧Below X.heap.size X X':=by
     intro X hX
     have:=Hf.o (Sx.sizeL t.parts) (by have:=H4.o;omega) t.parts _ X (Nat.le_refl _) (by have:=H4.o;omega) (HP.o.below hX)
     rw[H6.o]at this
     exact this
    have H3:=zh H0
    obtain⟨kd,hkd⟩:=zE (t.kind)
    have Hq:=zh hkd
    rw[hkd]at c0
    clear hsn hse hsp ht He hnpe H5 H0 hkd hte
    have H2:Below wr.heap.size wr (wr.alloc (.cells #[.int .i64 kd,.string ⟨t.name.toArray⟩,.slice An t.names.length cn,.slice Ae t.embeds.length ce,.slice Ap t.parts.length cp] 26)):=zeZ (World.grownBy_alloc _ _ _)
    have H7:=H3.o _ H2
    have H8:max (k:Int) (1+(np:Int))=((max k (1+np):Nat):Int):=by omega
    have H9:=zh H8
    clear H8
    go_wp2_with (go_at_call 18;refine H7.mono ?_;clear H7;rintro e W5 ⟨rfl,Hb⟩)
    go_roundg (l.length-(m+1))
    case measure=>have:=HI.o;omega
    case rel=>
     refine⟨m+1,max k (1+np),rfl,by simp,?_,?_,hlt,(HB.o.trans (H2.mono HB.o.size)).trans (Hb.mono (Nat.le_trans HB.o.size H2.size))⟩
     ·rw[H9.o]
     ·rw[HT.o,Ha.o,Hc.o,H6.o,←HK.o]
   ·have Hh:¬(m:Int)<(l.length:Int):=by omega
    go_wp2_with fail
    go_ret
    refine⟨?_,HB.o⟩
    rw[HK.o,List.take_of_length_le (by omega)]
    rfl
end Go.Proofs.YtdncljdfmdgdaaaGreatDoor
