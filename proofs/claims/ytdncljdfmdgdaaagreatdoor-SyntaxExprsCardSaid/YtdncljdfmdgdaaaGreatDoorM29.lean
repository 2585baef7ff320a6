/-
  The walks of coilref2.Text, coillaw2.fits.
-/
import Derived.Test.YtdncljdfmdgdaaaGreatDoorM1
import Derived.Test.YtdncljdfmdgdaaaGreatDoorM13
import Derived.Test.YtdncljdfmdgdaaaGreatDoorM14
import Derived.Test.YtdncljdfmdgdaaaGreatDoorM6
import Derived.Test.YtdncljdfmdgdaaaGreatDoorM10
import Derived.Lib.AppendStr
import Derived.Test.YtdncljdfmdgdaaaGreatDoorM27
import Derived.Test.YtdncljdfmdgdaaaGreatDoorM28
import Derived.Test.YtdncljdfmdgdaaaGreatDoorM19
import Derived.RegionTactic
import Derived.Below
set_option linter.unusedSimpArgs false
set_option linter.unusedVariables false
set_option maxRecDepth 100000
set_option maxHeartbeats 4000000
namespace Go.Proofs.YtdncljdfmdgdaaaGreatDoor
open Go.RowKit Go.Shelf
theorem zmlZ {ops:Array Oper} {rest:List Oper} {o:Oper} {a:Act} {Q:Exit→Act→World→Prop} {W:World} (base:Nat) (hgd:o.guard=none) (s x:Operand)
  (ho:o.op=.call { callee:=.builtin .append,args:=#[s,x],argTypes:=#[98, 9] })
  (v:Value) (l y:List UInt8) (hs:a.eval s=v) (hx:a.eval x=.string ⟨y.toArray⟩) (HO:OwnB W base v l) (hbase:base≤W.heap.size) (hl:l.length+y.length≤140737488351232)
  (h:∀v1 w1,OwnB w1 base v1 (l++y)→W.grownBy w1 v.ownBlock→wpList Tryz.prog ops Q rest (a.put o.dst v1) w1) :
  wpList Tryz.prog ops Q (o::rest) a W:=by
 obtain⟨i0,hi,hz0,hz1,hz2⟩:=info_parts zczZ
 refine Lib.wpList_append_own_string W hgd s x 98 9 ho base 5 i0 Tryz.underlying98 Tryz.underlying9 hi hz0 hz1 hz2 v l.length (bytesV l) hs HO ⟨y.toArray⟩ hx (by unfold maxLen;show l.length+y.length≤_;omega) (by show l.length+y.length≤_;omega) hbase ?_
 intro v1 w1 hown hg _
 refine h v1 w1 ?_ hg
 unfold OwnB
 rw[List.length_append,show bytesV (l++y)=bytesV l++Lib.strCells ⟨y.toArray⟩by unfold bytesV Lib.strCells;rw[List.map_append]]
 exact hown
namespace Sx
theorem text_step {b s:Lx.Bytes} {l:List Lx.Bytes} {i:Nat} (h:¬65536<((if 0<i then b++[32]else b)++s).length):textFrom i b (s::l)=textFrom (i+1) ((if 0<i then b++[32]else b)++s) l:=by
 rw[textFrom,if_neg h]
theorem text_long {b s:Lx.Bytes} {l:List Lx.Bytes} {i:Nat} (h:65536<((if 0<i then b++[32]else b)++s).length):textFrom i b (s::l)=none:=by
 rw[textFrom,if_pos h]
end Sx
theorem zujZ (ts:List Lx.Bytes) (v:Value) (w:World) (hv:StrRow w v ts) (hl:ts.length≤1000000000) (hts:∀t∈ts,t.length≤1000000000) :
  Calls Tryz.prog 70 #[v] w fun e w'=>e=.returned (.tuple #[.string ⟨(Sx.text ts).1.toArray⟩,.int .i64 ((Sx.text ts).2:Nat)])∧Below w.heap.size w w':=by
 obtain⟨A,c,rfl,hrow⟩:=hv
 have HV:=zh (show StrRow w (.slice A ts.length c) ts from⟨A,c,rfl,hrow⟩)
 have Hm:=zh hts
 clear hrow hts
 obtain⟨k,hk⟩:=zE (ts.length)
 rw[hk]at HV hl ⊢
 have HK:=zh hk
 have k0:(0:Int)≤(k:Int):=by omega
 have k1:(k:Int)≤1000000000:=by omega
 clear hk
 obtain⟨i0,hi0,hz0,hz1,hz2⟩:=info_parts zczZ
 go_enter Tryz.func70, Tryz.ntmps70
 go_wp2_with (at_make;refine wpList_make_own _ rfl _ _ 98 rfl w.heap.size 5 i0 (.int .u8 0) 1 Tryz.underlying98 hi0 hz0 hz1 .i64 .i64 _ 0 rfl rfl rfl (by rw[hz2];omega) (by unfold maxLen;omega) (Nat.le_refl _) ?_;intro W2 hown H2)
 have Ho:Hid (OwnB W2 w.heap.size (.slice (some ⟨w.heap.size,0,none⟩) 0 0) []):=zh hown
 have Hn:=zh (zeZ H2)
 clear hown H2
 go_loopg [4,5] k (fun n v u wq=>∃(m:Nat) (l:List UInt8),n=k-m∧u=.int .i64 (m:Int)∧m≤k∧Below w.heap.size w wq∧OwnB wq w.heap.size v l∧l.length≤65536∧Sx.textFrom m l (ts.drop m)=Sx.textFrom 0 [] ts)
 case atStart=>exact⟨0,[],rfl,rfl,Nat.zero_le _,Hn.o,Ho.o,by simp,rfl⟩
 case round=>
  obtain⟨m,l,hn,rfl,hm,hb,ho,hll,he⟩:=hrel
  obtain⟨A0,cap0,hv0⟩:=ho.slice
  subst hv0
  have HN:=zh hn
  have HB:=zh hb
  have HO:=zh ho
  have HE:=zh he
  have m0:(0:Int)≤(m:Int):=by omega
  have ll1:(l.length:Int)≤65536:=by omega
  clear hn hb ho he
  by_cases hlt:m<k
  ·have Hp:(m:Int)<(k:Int):=by omega
   have H7:m<ts.length:=by have:=HK.o;omega
   obtain⟨g,off,rfl,hsp⟩:=HV.o.spot m H7
   have Hj:=Hm.o _ (List.getElem_mem H7)
   have hd:ts.drop m=ts[m]::ts.drop (m+1):=List.drop_eq_getElem_cons H7
   obtain⟨x,hx⟩:=zE (ts[m]'H7)
   rw[hx]at hsp Hj hd
   have Hg:=zh hsp
   have hE2:=HE.o
   rw[hd]at hE2
   have H8:=zh hE2
   clear hd hE2 hx hsp
   have Hr:x.length≤1000000000:=Hj
   by_cases hm0:0<m
   ·have Hc:(0:Int)<(m:Int):=by omega
    go_upto_region 7 with(at_builtin;refine zcgZ w.heap.size rfl (.tmp 15) (.tmp 16) rfl _ l 32 rfl rfl HO.o HB.o.size (by omega) ?_;intro v1 w1 hown Hk)
    have Hh:=Below.turn (HB.o.alloc HB.o.size (.cells #[.int .u8 (UInt8.toNat 32:Int)] 5)) Hk (fun g hg=>OwnB.base HO.o g hg)
    obtain⟨l1,hl1⟩:=zE (l++[32])
    have Hl:l1.length≤65537:=by rw[←hl1];simp;omega
    have Hf:=zh (show(if 0<m then l++[32]else l)=l1 by rw[if_pos hm0,hl1])
    rw[hl1]at hown
    obtain⟨A1,cap1,hv1⟩:=hown.slice
    subst hv1
    have Hi:=zh hown
    have Hb:=zh Hh
    clear hown Hh Hk hl1
    obtain⟨hg,q0⟩:=Hg.o _ Hb.o
    obtain⟨l2,hl2⟩:=zE (l1++x)
    have H3:(l1).length+x.length≤140737488351232:=by omega
    go_upto_region 8 with(at_builtin;refine zmlZ w.heap.size rfl (.tmp 18) (.tmp 22) rfl _ l1 x rfl rfl Hi.o Hb.o.size H3 ?_;intro v2 w2 H0 H1)
    have H5:=Below.turn Hb.o H1 (fun g hg=>OwnB.base Hi.o g hg)
    rw[hl2]at H0
    obtain⟨A2,cap2,hv2⟩:=H0.slice
    subst hv2
    have H9:=zh H0
    have H6:=zh H5
    have H4:=zh (show((if 0<m then l++[32]else l)++x)=l2 by rw[Hf.o,hl2])
    clear H0 H5 H1 hl2 hg q0
    by_cases hbig:65536<l2.length
    ·have Ha:(65536:Int)<(l2.length:Int):=by omega
     have HR:=zh (show Sx.text ts=([],2)by
      unfold Sx.text
      rw[←H8.o,Sx.text_long (by rw[H4.o];exact hbig)])
     clear hbig
     go_wp2_with fail
     refine bodyPost_ret (results_tmp2 rfl _ _ _) rfl ?_
     rw[HR.o]
     exact⟨rfl,H6.o⟩
    ·have Ha:¬(65536:Int)<(l2.length:Int):=by omega
     have He:=zh hbig
     have HS:=zh (show Sx.textFrom (m+1) l2 (ts.drop (m+1))=Sx.textFrom 0 [] ts by rw[←H8.o,Sx.text_step (by rw[H4.o];exact hbig),H4.o])
     clear hbig
     go_wp2_with fail
     go_roundg (k-(m+1))
     case measure=>have:=HN.o;omega
     case rel=>exact⟨m+1,l2,rfl,by simp,hlt,H6.o,H9.o,by have:=He.o;omega,HS.o⟩
   ·have Hc:¬(0:Int)<(m:Int):=by omega
    have Hf:=zh (show(if 0<m then l++[32]else l)=l by rw[if_neg hm0])
    obtain⟨hg,q0⟩:=Hg.o _ HB.o
    obtain⟨l2,hl2⟩:=zE (l++x)
    have H3:l.length+x.length≤140737488351232:=by omega
    go_upto_region 8 with(at_builtin;refine zmlZ w.heap.size rfl (.tmp 18) (.tmp 22) rfl _ l x rfl rfl HO.o HB.o.size H3 ?_;intro v2 w2 H0 H1)
    have H5:=Below.turn HB.o H1 (fun g hg=>OwnB.base HO.o g hg)
    rw[hl2]at H0
    obtain⟨A2,cap2,hv2⟩:=H0.slice
    subst hv2
    have H9:=zh H0
    have H6:=zh H5
    have H4:=zh (show((if 0<m then l++[32]else l)++x)=l2 by rw[Hf.o,hl2])
    clear H0 H5 H1 hl2 hg q0
    by_cases hbig:65536<l2.length
    ·have Ha:(65536:Int)<(l2.length:Int):=by omega
     have HR:=zh (show Sx.text ts=([],2)by
      unfold Sx.text
      rw[←H8.o,Sx.text_long (by rw[H4.o];exact hbig)])
     clear hbig
     go_wp2_with fail
     refine bodyPost_ret (results_tmp2 rfl _ _ _) rfl ?_
     rw[HR.o]
     exact⟨rfl,H6.o⟩
    ·have Ha:¬(65536:Int)<(l2.length:Int):=by omega
     have He:=zh hbig
     have HS:=zh (show Sx.textFrom (m+1) l2 (ts.drop (m+1))=Sx.textFrom 0 [] ts by rw[←H8.o,Sx.text_step (by rw[H4.o];exact hbig),H4.o])
     clear hbig
     go_wp2_with fail
     go_roundg (k-(m+1))
     case measure=>have:=HN.o;omega
     case rel=>exact⟨m+1,l2,rfl,by simp,hlt,H6.o,H9.o,by have:=He.o;omega,HS.o⟩
  ·have Hp:¬(m:Int)<(k:Int):=by omega
   have HR:=zh (show Sx.text ts=if 4096<k then([],3)else(l,0)by
    unfold Sx.text
    rw[←HE.o,List.drop_eq_nil_of_le (by have:=HK.o;omega),Sx.textFrom,HK.o])
   by_cases hmany:4096<k
   ·have Hd:(4096:Int)<(k:Int):=by omega
    rw[if_pos hmany]at HR
    clear hmany
    go_wp2_with fail
    refine bodyPost_ret (results_tmp2 rfl _ _ _) rfl ?_
    rw[HR.o]
    exact⟨rfl,HB.o⟩
   ·have Hd:¬(4096:Int)<(k:Int):=by omega
    rw[if_neg hmany]at HR
    clear hmany
    have Hq:(convert 98 9 (.slice A0 l.length cap0)).run Tryz.prog wr=.ok (.string ⟨l.toArray⟩) wr:=zdkZ HO.o
    go_wp2_with fail
    refine bodyPost_ret (results_tmp2 rfl _ _ _) rfl ?_
    rw[HR.o]
    exact⟨rfl,HB.o⟩
theorem Sx.said_eq {ts:List Lx.Bytes} (h:Sx.Tks ts):Sx.said true ts=Sx.text ts:=by
 unfold Sx.said
 rw[if_pos rfl]
 exact Sx.told_text fun s hs=>(h s hs).ne
theorem zukZ (right:Bool) (ts:List Lx.Bytes) (A:Option Addr) (n c:Nat) (W:World)
  (hv:right=true→StrRow W (.slice A n c) ts∧ts.length≤1000000000∧Sx.Lks ts∧Sx.Tks ts) :
  Calls Tryz.prog 29 #[.string ⟨(Sx.said right ts).1.toArray⟩,.int .i64 ((Sx.said right ts).2:Nat),.bool right,.slice A n c] W fun e W'=>e=.returned (.bool true)∧Below W.heap.size W W':=by
 cases right with
 | false=>
  have HW:=zh (show Below W.heap.size W W from Below.refl _ _)
  rw[show Sx.said false ts=([],1)from rfl]
  clear hv
  go_enter Tryz.func29, Tryz.ntmps29
  go_wp2_with fail
  go_ret
  exact⟨rfl,HW.o⟩
 | true=>
  obtain⟨h1,h2,h3,h4⟩:=hv rfl
  rw[Sx.said_eq h4]
  have HT:=zh (fun X (hX:Below W.heap.size W X)=>(zujZ ts (.slice A n c) X (h1.below hX) h2 (fun t ht=>by have:=h3 t ht;unfold Sx.Lk at this;omega)).mono fun e w' h=>(show e=.returned (.tuple #[.string ⟨(Sx.text ts).1.toArray⟩,.int .i64 ((Sx.text ts).2:Nat)])∧Below W.heap.size W w' from⟨h.1,hX.trans (h.2.mono hX.size)⟩))
  obtain⟨b,hb⟩:∃b,(⟨(Sx.text ts).1.toArray⟩:ByteArray)=b:=⟨_,rfl⟩
  obtain⟨m,hm⟩:∃m:Int,(((Sx.text ts).2:Nat):Int)=m:=⟨_,rfl⟩
  rw[hb,hm]at HT
  rw[hb,hm]
  have HW:=zh (show Below W.heap.size W W from Below.refl _ _)
  clear hv h1 h2 h3 h4 hb hm
  go_enter Tryz.func29, Tryz.ntmps29
  go_wp2_with (go_at_call 70;refine(HT.o _ HW.o).mono ?_;rintro e w3 ⟨rfl,H0⟩;have H1:=zh H0;clear H0)
  go_ret
  exact⟨rfl,H1.o⟩
end Go.Proofs.YtdncljdfmdgdaaaGreatDoor
namespace Go.Proofs.YtdncljdfmdgdaaaGreatDoor
open Go.RowKit
section
variable {P:Program} {ops:Array Oper} {Q:Exit→Act→World→Prop} {md:Region.Mode}
def Waited (md:Region.Mode) (o:Oper) (listed:Array Bool):Prop:=(o.after.all fun e=>!Region.binds md e||listed.getD e.on false)=true
def backward (ops:Array Oper):Bool:=(List.range ops.size).all fun i=>((ops[i]?).map (·.after.all fun e=>e.on<i)).getD true
theorem zfmZ {listed:Array Bool} {i:Nat} (hs:listed.size=ops.size):i∈Region.ready md ops listed↔∃o,ops[i]? =some o∧listed[i]? =some false∧Waited md o listed:=by
 unfold Region.ready Waited
 simp only[List.mem_filter,List.mem_range,Bool.and_eq_true,Bool.not_eq_true']
 constructor
 ·rintro⟨h1,h2,h3⟩
  obtain⟨o,ho⟩:∃o,ops[i]? =some o:=⟨_,Array.getElem?_eq_getElem h1⟩
  refine⟨o,ho,?_,?_⟩
  ·have hl:i<listed.size:=by omega
   rw[Array.getElem?_eq_getElem hl]
   simp only[Array.getD,hl,dif_pos]at h2
   exact congrArg some h2
  ·rw[ho]at h3
   simpa using h3
 ·rintro⟨o,ho,h2,h3⟩
  have h1:i<ops.size:=(Array.getElem?_eq_some_iff.1 ho).1
  refine⟨h1,?_,?_⟩
  ·obtain⟨hl,e⟩:=Array.getElem?_eq_some_iff.1 h2
   simp only[Array.getD,hl,dif_pos]
   exact e
  ·rw[ho]
   simpa using h3
theorem zpiZ {listed:Array Bool} (hb:backward ops=true) (hs:listed.size=ops.size) (h:Region.ready md ops listed=[]):∀n i,i<n→i<ops.size→listed[i]? =some true:=by
 intro n
 induction n with
 | zero=>intro i hi;omega
 | succ n ih=>
  intro i hi hl
  by_cases hin:i<n
  ·exact ih i hin hl
  ·obtain rfl:i=n:=by omega
   have H1:i<listed.size:=by omega
   cases hc:listed[i]'H1 with
   | true=>rw[Array.getElem?_eq_getElem H1,hc]
   | false=>
    obtain⟨o,ho⟩:∃o,ops[i]? =some o:=⟨_,Array.getElem?_eq_getElem hl⟩
    have H0:i∈Region.ready md ops listed:=by
     rw[zfmZ hs]
     refine⟨o,ho,by rw[Array.getElem?_eq_getElem H1,hc],?_⟩
     unfold Waited
     rw[Array.all_eq_true']
     intro e he
     have H2:e.on<i:=by
      unfold backward at hb
      rw[List.all_eq_true]at hb
      have:=hb i (List.mem_range.2 hl)
      rw[ho]at this
      simp only[Option.map_some,Option.getD_some]at this
      rw[Array.all_eq_true']at this
      simpa using this e he
     have:=ih e.on (by omega) (by omega)
     rw[Bool.or_eq_true]
     right
     obtain⟨h1,h2⟩:=Array.getElem?_eq_some_iff.1 this
     simp only[Array.getD,h1,dif_pos]
     exact h2
    rw[h]at H0
    cases H0
def undone (l:Array Bool):Nat:=l.toList.countP (· ==false)
theorem znnZ {l:Array Bool} {i:Nat} (h:l[i]? =some false):undone (l.setIfInBounds i true)+1=undone l:=by
 unfold undone
 obtain⟨hi,he⟩:=Array.getElem?_eq_some_iff.1 h
 have hp:0<l.toList.countP (· ==false):=List.countP_pos_iff.2 ⟨false,by rw[←he];exact Array.getElem_mem_toList hi,rfl⟩
 rw[Array.toList_setIfInBounds,List.countP_set (by simpa using hi)]
 simp only[Array.getElem_toList,he,beq_self_eq_true,if_true,show(true==false)=false from rfl,Bool.false_eq_true,if_false]
 omega
theorem zhpZ {l:Array Bool} (h:∀i,i<l.size→l[i]? =some true):l=Array.replicate l.size true:=by
 apply Array.ext (by simp)
 intro i h1 h2
 have:=h i h1
 rw[Array.getElem?_eq_getElem h1]at this
 injection this with this
 rw[this]
 simp
theorem zlsZ (J:Array Bool→Act→World→Prop) (hb:backward ops=true)
  (hstep:∀(i:Nat) (o:Oper),ops[i]? =some o→∀(listed:Array Bool) (a:Act) (w:World),listed[i]? =some false→Waited md o listed→J listed a w→
   wpOp P ops Q i (J (listed.setIfInBounds i true)) a w)
  (hdone:∀a w,J (Array.replicate ops.size true) a w→Q .normal a w) :
  ∀(fuel:Nat) (listed:Array Bool) (a:Act) (w:World),listed.size=ops.size→undone listed≤fuel→J listed a w→wpAny P md ops Q fuel listed a w:=by
 intro fuel
 induction fuel with
 | zero=>
  intro listed a w hs hu hJ
  have H0:∀i,i<listed.size→listed[i]? =some true:=by
   intro i hi
   cases hc:listed[i]'hi with
   | true=>rw[Array.getElem?_eq_getElem hi,hc]
   | false=>
    exfalso
    have:0<undone listed:=List.countP_pos_iff.2 ⟨false,by rw[←hc];exact Array.getElem_mem_toList hi,rfl⟩
    omega
  refine⟨?_,hdone a w (by rw[←hs,←zhpZ H0];exact hJ)⟩
  rw[List.eq_nil_iff_forall_not_mem]
  intro i hi
  obtain⟨o,ho,hf,-⟩:=(zfmZ hs).1 hi
  obtain⟨hl,-⟩:=Array.getElem?_eq_some_iff.1 hf
  rw[H0 i hl]at hf
  cases hf
 | succ fuel ih=>
  intro listed a w hs hu hJ
  refine⟨fun h=>?_,fun i hi=>?_⟩
  ·refine hdone a w ?_
   rw[←hs,←zhpZ fun i hi=>zpiZ hb hs h (i+1) i (by omega) (by omega)]
   exact hJ
  ·obtain⟨o,ho,hf,hw⟩:=(zfmZ hs).1 hi
   refine wpOp_mono (fun a' w' h=>ih _ a' w' (by simpa using hs) ?_ h) (hstep i o ho listed a w hf hw hJ)
   have:=znnZ hf
   omega
def Each (P:Program) (ops:Array Oper) (md:Region.Mode) (Q:Exit→Act→World→Prop) (J:Array Bool→Act→World→Prop) (k:Nat) (l:List Oper):Prop:=
 ∀(j:Nat) (o:Oper),l[j]? =some o→∀(listed:Array Bool) (a:Act) (w:World),listed[k+j]? =some false→Waited md o listed→J listed a w→
  ∀K:Act→World→Prop,Hid (∀a w,J (listed.setIfInBounds (k+j) true) a w→K a w)→if Region.wanted o (yielded ops a.tmps)=true then Oper.wp P o a w K Q else K (a.put o.dst undef) w
theorem Each.nil {J:Array Bool→Act→World→Prop} {k:Nat} : Each P ops md Q J k []:=fun j o h=>by simp at h
theorem Each.cons {J:Array Bool→Act→World→Prop} {k:Nat} {o:Oper} {l:List Oper}
  (h:∀(listed:Array Bool) (a:Act) (w:World),listed[k]? =some false→Waited md o listed→J listed a w→
   ∀K:Act→World→Prop,Hid (∀a w,J (listed.setIfInBounds k true) a w→K a w)→if Region.wanted o (yielded ops a.tmps)=true then Oper.wp P o a w K Q else K (a.put o.dst undef) w)
  (hl:Each P ops md Q J (k+1) l):Each P ops md Q J k (o::l):=by
 intro j o' hj
 cases j with
 | zero=>
  simp only[List.getElem?_cons_zero,Option.some.injEq]at hj
  subst hj
  exact h
 | succ j=>
  simp only[List.getElem?_cons_succ]at hj
  have:=hl j o' hj
  rw[show k+1+j=k+(j+1)by omega]at this
  exact this
theorem zhqZ {id:Nat} {a:Act} {w:World} (J:Act→Array Bool→Act→World→Prop) (hm:P.follows .mixedOrders=true) (hb:backward ops=true)
  (h0:J a (Array.replicate ops.size false) a w.drew) (hstep:Each P ops .any Q (J a) 0 ops.toList) (hdone:∀a' w',J a (Array.replicate ops.size true) a' w'→Q .normal a' w') :
  (Code.region id ops true).wp P Q a w:=by
 refine wp_region_any hm (zlsZ (J a) hb ?_ hdone ops.size _ a w.drew (by simp) ?_ h0)
 ·intro i o ho listed a' w' hf hw hJ
  refine wpOp_step ho fun K hK=>?_
  have:=hstep i o (by rw[Array.getElem?_toList];exact ho) listed a' w' (by rw[Nat.zero_add];exact hf) hw hJ K (by rw[Nat.zero_add];exact hK)
  exact this
 ·unfold undone
  have:=List.countP_le_length (l:=(Array.replicate ops.size false).toList) (p:=(· ==false))
  simpa using this
def firstDone (n i:Nat):Array Bool:=((List.range n).map fun j=>decide (j<i)).toArray
theorem zfnZ {n i j:Nat} (h:j<n):(firstDone n i)[j]? =some (decide (j<i)):=by
 unfold firstDone
 simp[h]
theorem zicZ (n:Nat):firstDone n 0=Array.replicate n false:=by
 apply Array.ext (by simp[firstDone])
 intro i h1 h2
 simp[firstDone]
theorem zjfZ (n:Nat):firstDone n n=Array.replicate n true:=by
 apply Array.ext (by simp[firstDone])
 intro i h1 h2
 have:i<n:=by simpa using h2
 simp[firstDone,this]
theorem zjgZ {n i:Nat} : (firstDone n i).setIfInBounds i true=firstDone n (i+1):=by
 apply Array.ext (by simp[firstDone])
 intro j h1 h2
 have hj:j<n:=by simpa[firstDone]using h2
 by_cases hij:i=j
 ·subst hij
  rw[Array.getElem_setIfInBounds_self]
  simp[firstDone]
 ·rw[Array.getElem_setIfInBounds_ne]
  ·simp[firstDone]
   omega
  ·simpa[firstDone]using hj
  ·exact hij
theorem zltZ (J:Array Bool→Act→World→Prop) (hb:backward ops=true)
  (hstep:∀(i:Nat) (o:Oper),ops[i]? =some o→∀(listed:Array Bool) (a:Act) (w:World),listed[i]? =some false→Waited .any o listed→J listed a w→wpOp P ops Q i (J (listed.setIfInBounds i true)) a w)
  (hdone:∀a w,J (Array.replicate ops.size true) a w→Q .normal a w) :
  ∀(n i:Nat) (a:Act) (w:World),i+n=ops.size→J (firstDone ops.size i) a w→wpOps P ops Q (List.range' i n) a w:=by
 intro n
 induction n with
 | zero=>
  intro i a w hi hJ
  rw[Nat.add_zero]at hi
  subst hi
  rw[zjfZ]at hJ
  exact hdone a w hJ
 | succ n ih=>
  intro i a w hi hJ
  rw[List.range'_succ,wpOps_cons]
  have H0:i<ops.size:=by omega
  obtain⟨o,ho⟩:∃o,ops[i]? =some o:=⟨_,Array.getElem?_eq_getElem H0⟩
  refine wpOp_mono (fun a' w' h=>ih (i+1) a' w' (by omega) h) ?_
  rw[←zjgZ]
  refine hstep i o ho _ a w (by rw[zfnZ H0];simp) ?_ hJ
  unfold Waited
  rw[Array.all_eq_true']
  intro e he
  have H1:e.on<i:=by
   unfold backward at hb
   rw[List.all_eq_true]at hb
   have:=hb i (List.mem_range.2 H0)
   rw[ho]at this
   simp only[Option.map_some,Option.getD_some]at this
   rw[Array.all_eq_true']at this
   simpa using this e he
  rw[Bool.or_eq_true]
  right
  have:=zfnZ (n:=ops.size) (i:=i) (j:=e.on) (by omega)
  rw[Array.getD_eq_getD_getElem?,this]
  simpa using H1
theorem zjhZ {id:Nat} {a:Act} {w:World} (J:Act→Array Bool→Act→World→Prop) (hb:backward ops=true)
  (h0:J a (Array.replicate ops.size false) a w) (hstep:Each P ops .any Q (J a) 0 ops.toList) (hdone:∀a' w',J a (Array.replicate ops.size true) a' w'→Q .normal a' w') :
  (Code.region id ops false).wp P Q a w:=by
 refine wp_region ?_
 rw[List.range_eq_range']
 refine zltZ (J a) hb ?_ hdone ops.size 0 a w (by omega) (by rw[zicZ];exact h0)
 intro i o ho listed a' w' hf hw hJ
 refine wpOp_step ho fun K hK=>?_
 exact hstep i o (by rw[Array.getElem?_toList];exact ho) listed a' w' (by rw[Nat.zero_add];exact hf) hw hJ K (by rw[Nat.zero_add];exact hK)
end
end Go.Proofs.YtdncljdfmdgdaaaGreatDoor
