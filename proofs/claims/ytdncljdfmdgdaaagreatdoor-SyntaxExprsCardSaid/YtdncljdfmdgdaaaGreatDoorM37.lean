/-
  coilref1.number.
-/
import Derived.Test.YtdncljdfmdgdaaaGreatDoorM1
import Derived.Test.YtdncljdfmdgdaaaGreatDoorM36
import Derived.Test.YtdncljdfmdgdaaaGreatDoorM5
import Derived.OwnWalk
set_option linter.unusedSimpArgs false
set_option linter.unusedVariables false
set_option maxRecDepth 100000
set_option maxHeartbeats 4000000
namespace Go.Proofs.YtdncljdfmdgdaaaGreatDoor
open Go.RowKit
theorem znqZ (l:Lx.Bytes) (c:UInt8):Lx.value (l++[c])=Lx.value l * 10+(c.toNat-48):=by
 unfold Lx.value
 rw[List.foldl_append]
 rfl
theorem zlaZ:∀(l:Lx.Bytes) (v:Nat),1≤v→10 ^ l.length * v≤l.foldl (fun v c=>v * 10+(c.toNat-48)) v
 | [],v,_=>by simp
 | c::l,v,hv=>by
  rw[List.foldl_cons]
  refine Nat.le_trans ?_ (zlaZ l (v * 10+(c.toNat-48)) (by omega))
  rw[List.length_cons,Nat.pow_succ]
  have:10 ^ l.length * 10 * v=10 ^ l.length * (v * 10):=by rw[Nat.mul_assoc,Nat.mul_comm 10 v]
  rw[this]
  exact Nat.mul_le_mul_left _ (by omega)
theorem zgyZ:∀(l:Lx.Bytes) (v:Nat),(∀c∈l,Lx.digit c=true)→l.foldl (fun v c=>v * 10+(c.toNat-48)) v+1≤10 ^ l.length * (v+1)
 | [],v,_=>by simp
 | c::l,v,h=>by
  have hc:=h c (List.mem_cons_self ..)
  simp only[Lx.digit,Bool.and_eq_true,decide_eq_true_eq]at hc
  rw[List.foldl_cons]
  refine Nat.le_trans (zgyZ l (v * 10+(c.toNat-48)) (fun d hd=>h d (List.mem_cons_of_mem _ hd))) ?_
  rw[List.length_cons,Nat.pow_succ,Nat.mul_assoc]
  exact Nat.mul_le_mul_left _ (by omega)
theorem zlvZ {p:Nat} {l:Lx.Bytes} (h:19<(l.takeWhile Lx.digit).length):Lx.cutNumber p l=.bad 11 p:=by
 unfold Lx.cutNumber
 simp only
 rw[if_pos]
 cases l with
 | nil=>simp at h
 | cons c l=>
  have hd:Lx.digit c=true:=by
   cases hd:Lx.digit c with
   | true=>rfl
   | false=>rw[List.takeWhile_cons,if_neg (by simp[hd])]at h;simp at h
  by_cases h48:c=48
  ·subst h48
   simp only[List.head?_cons,beq_self_eq_true,Bool.true_and,Bool.or_eq_true,decide_eq_true_eq]
   exact .inl (.inr (by omega))
  ·have H1:c.toNat≠48:=fun e=>h48 (UInt8.toNat_inj.1 e)
   have H0:=hd
   simp only[Lx.digit,Bool.and_eq_true,decide_eq_true_eq]at H0
   rw[List.takeWhile_cons,if_pos hd]at h ⊢
   simp only[Bool.or_eq_true,decide_eq_true_eq]
   refine .inl (.inl ?_)
   unfold Lx.value
   rw[List.foldl_cons]
   have:=zlaZ (l.takeWhile Lx.digit) (0 * 10+(c.toNat-48)) (by omega)
   refine Nat.lt_of_lt_of_le ?_ this
   rw[List.length_cons]at h
   have hp:10 ^ 19≤10 ^ (l.takeWhile Lx.digit).length:=Nat.pow_le_pow_right (by decide) (by omega)
   have h1:(10:Nat) ^ 19=10000000000000000000:=by decide
   have h2:10 ^ (l.takeWhile Lx.digit).length * 1≤10 ^ (l.takeWhile Lx.digit).length * (0 * 10+(c.toNat-48)):=Nat.mul_le_mul_left _ (by omega)
   omega
theorem zppZ {l:Lx.Bytes} (h:∀c∈l,Lx.digit c=true) (hl:l.length≤19):Lx.value l<10000000000000000000:=by
 have h1:=zgyZ l 0 h
 have hp:10 ^ l.length≤10 ^ 19:=Nat.pow_le_pow_right (by decide) hl
 have h2:(10:Nat) ^ 19=10000000000000000000:=by decide
 unfold Lx.value
 omega
theorem zlwZ {s:ByteArray} {k m:Nat} (hkm:k≤m) (hlt:m<s.size) (hd:Lx.digit (s[m]'hlt)=true)
  (he:(s.data.toList.drop k).takeWhile Lx.digit=(s.data.toList.drop k).take (m-k)++(s.data.toList.drop m).takeWhile Lx.digit) :
  (s.data.toList.drop k).takeWhile Lx.digit=(s.data.toList.drop k).take (m+1-k)++(s.data.toList.drop (m+1)).takeWhile Lx.digit:=by
 rw[he,zcfZ s k m hkm hlt,zlZ s m hlt,List.takeWhile_cons,if_pos hd]
 simp
theorem zisZ {s:ByteArray} {k m:Nat} {D:Lx.Bytes} (hkm:k<m) (hm:m≤s.size) (hD:D=(s.data.toList.drop k).take (m-k)) (he:(s.data.toList.drop k).takeWhile Lx.digit=D) :
  Lx.cutNumber k (s.data.toList.drop k)=if(decide (9223372036854775807<Lx.value D)||((s[k]'(by omega)).toNat==48&&decide (k+1<m))||((s.data.toList.drop m).head?.map Lx.within).getD false)=true then .bad 11 k else .ok ⟨k,4,[],Lx.value D⟩ (m-k):=by
 have hl:D.length=m-k:=by rw[hD,List.length_take,List.length_drop,ziZ];omega
 have hd:(s.data.toList.drop k).drop D.length=s.data.toList.drop m:=by rw[hl,List.drop_drop,show k+(m-k)=m by omega]
 have hh:(s.data.toList.drop k).head? =some (s[k]'(by omega)):=by rw[zlZ s k (by omega)];rfl
 have H0:((some (s[k]'(by omega)):Option UInt8)==some 48)=((s[k]'(by omega)).toNat==48):=by
  rw[Bool.eq_iff_iff]
  simp only[beq_iff_eq,Option.some.injEq]
  exact⟨fun h=>by rw[h];rfl,fun h=>UInt8.toNat_inj.1 h⟩
 unfold Lx.cutNumber
 simp only[he,hd,hh,H0]
 rw[hl]
 have:decide (1<m-k)=decide (k+1<m):=by rw[decide_eq_decide];omega
 rw[this]
theorem zpqZ (s:ByteArray) (k:Nat) (w:World) (hk:k<s.size) (hs:s.size≤140737488351232) (hl:Lx.digit (s[k]'hk)=true) :
  Calls Tryz.prog 168 #[.string s,.int .i64 (k:Int)] w fun e w'=>e=.returned (cutV k (Lx.cutNumber k (s.data.toList.drop k)))∧Below w.heap.size w w':=by
 have Hy:(s.size:Int)≤140737488351232:=by omega
 have Hx:(k:Int)≤(s.size:Int):=by omega
 have Hz:(0:Int)≤(k:Int):=by omega
 go_enter Tryz.func168, Tryz.ntmps168
 go_upto_region 1 with fail
 have Hc:=heap_alloc_new w (.cells #[.int .i64 0,.int .i64 0,.string ⟨#[]⟩,.int .i64 0,.int .i64 0,.int .i64 0,.int .i64 0] 193)
 have hb:=zeZ (World.grownBy_alloc w (.cells #[.int .i64 0,.int .i64 0,.string ⟨#[]⟩,.int .i64 0,.int .i64 0,.int .i64 0,.int .i64 0] 193) none)
 obtain⟨W1,hW1⟩:=zE (w.alloc (.cells #[.int .i64 0,.int .i64 0,.string ⟨#[]⟩,.int .i64 0,.int .i64 0,.int .i64 0,.int .i64 0] 193))
 rw[hW1]at Hc hb ⊢
 have H3:=zh Hc
 have Ha:=zaZ Hc
 clear Hc hW1
 go_wp2_with fail
 go_loopg [5,6] (s.size-k) (fun n v u wr=>∃(m U:Nat),n=s.size-m∧v=.int .i64 (m:Int)∧u=.int .u64 (U:Int)∧k≤m∧m≤s.size∧m≤k+19∧wr=W1∧U=Lx.value ((s.data.toList.drop k).take (m-k))∧(∀c∈(s.data.toList.drop k).take (m-k),Lx.digit c=true)∧
  (s.data.toList.drop k).takeWhile Lx.digit=(s.data.toList.drop k).take (m-k)++(s.data.toList.drop m).takeWhile Lx.digit)
 case atStart=>exact⟨k,0,rfl,rfl,rfl,Nat.le_refl _,by omega,by omega,rfl,by rw[Nat.sub_self];rfl,by simp,by simp⟩
 case round=>
  obtain⟨m,U,hn,rfl,rfl,hkm,hm,hm19,rfl,hU,hdg,he⟩:=hrel
  have HE:=zh he
  have HN:=zh hn
  have HU:=zh hU
  have Hr:=zh hdg
  have Hh:((s.data.toList.drop k).take (m-k)).length=m-k:=by rw[List.length_take,List.length_drop,ziZ];omega
  have hUb:U<10000000000000000000:=by rw[hU];exact zppZ hdg (by omega)
  have Hi:=zh Hh
  clear he hn hU hdg Hh
  have J0:(0:Int)≤(m:Int):=by omega
  have Ht:(k:Int)≤(m:Int):=by omega
  have hU1:(U:Int)<10000000000000000000:=by omega
  by_cases hlt:m<s.size
  ·have hi:(m:Int)<(s.size:Int):=by omega
   have Hl:=zh (zlZ s m hlt)
   cases hwi:Lx.digit (s[m]'hlt)with
   | true=>
    have H1:=zbsZ (s[m]'hlt) wr
    rw[hwi]at H1
    by_cases h19:m=k+19
    ·have hB:(18:Int)<(m:Int)-(k:Int):=by omega
     have HR:=zh (show Lx.cutNumber k (s.data.toList.drop k)=.bad 11 k from zlvZ (by
      rw[HE.o,List.length_append,Hi.o,Hl.o,List.takeWhile_cons,if_pos hwi]
      simp
      omega))
     have H6:=zbtZ 11 (k:Int) wr
     clear hwi h19
     go_wp2_with (first
      | (go_at_call 166;refine H1.mono ?_;clear H1;rintro e w' ⟨rfl,H0⟩;rw[←H0];clear H0)
      | (go_at_call 170;refine H6.mono ?_;clear H6;rintro e W3 ⟨rfl,H2⟩;obtain⟨⟨a0,a1,a2,a3,a4,a5,a6⟩,⟨f0,f1,f2,f3,f4,f5,f6⟩,hl3⟩:=zfZ ((H2.block _ Ha).trans H3.o)))
     refine bodyPost_ret (v:=.agg #[.int .i64 0,.int .i64 0,.string ⟨#[]⟩,.int .i64 0,.int .i64 0,.int .i64 11,.int .i64 (k:Int)]) (by simp[results, Tryz.results168,go_sem,a0,a1,a2,a3,a4,a5,a6,f0,f1,f2,f3,f4,f5,f6,hl3]) rfl ?_
     rw[HR.o]
     have H7:=Below.chain hb H2
     refine⟨rfl,?_⟩
     repeat (first | (with_reducible exact H7) | with_reducible refine BSet ?_ (Nat.le_refl _))
    ·have hB:¬(18:Int)<(m:Int)-(k:Int):=by omega
     have Hs:48≤(s[m]'hlt).toNat∧(s[m]'hlt).toNat≤57:=by simpa[Lx.digit]using hwi
     have hU18:U<1000000000000000000:=by
      have h1:=zgyZ ((s.data.toList.drop k).take (m-k)) 0 Hr.o
      have hp:10 ^ ((s.data.toList.drop k).take (m-k)).length≤10 ^ 18:=Nat.pow_le_pow_right (by decide) (by rw[Hi.o];omega)
      have h2:(10:Nat) ^ 18=1000000000000000000:=by decide
      have h3:U=((s.data.toList.drop k).take (m-k)).foldl (fun v c=>v * 10+(c.toNat-48)) 0:=HU.o
      omega
     have hUi:(U:Int)<1000000000000000000:=by omega
     have c1:(48:Int)≤((s[m]'hlt).toNat:Int):=by omega
     have c2:((s[m]'hlt).toNat:Int)≤57:=by omega
     have HG:=zh (zlwZ hkm hlt hwi HE.o)
     have HT:=zh (zcfZ s k m hkm hlt)
     have Hm:=zh hwi
     have Hv:=zh hU18
     have Hu:=zh Hs
     clear hwi hU18 hUb Hs h19 hUi hU1 c1 c2
     go_wp2_with (go_at_call 166;refine H1.mono ?_;clear H1;rintro e w' ⟨rfl,H0⟩;rw[←H0];clear H0)
     go_roundg (s.size-(m+1))
     case measure=>have:=HN.o;omega
     case rel=>
      have h1:=Hv.o
      have h2:=Hu.o
      refine⟨m+1,U * 10+((s[m]'hlt).toNat-48),rfl,by simp,?_,by omega,hlt,by omega,rfl,?_,?_,HG.o⟩
      ·rw[IntKind.wrap_u64,IntKind.wrap_u64]
       congr 1
       omega
      ·rw[HT.o,znqZ,←HU.o]
      ·intro d hd
       rw[HT.o,List.mem_append,List.mem_singleton]at hd
       rcases hd with hd | hd
       ·exact Hr.o d hd
       ·rw[hd];exact Hm.o
   | false=>
    have H1:=zbsZ (s[m]'hlt) wr
    rw[hwi]at H1
    have H9:(s.data.toList.drop k).takeWhile Lx.digit=(s.data.toList.drop k).take (m-k):=by
     have e:=HE.o
     rw[Hl.o,List.takeWhile_cons,hwi]at e
     simpa using e
    have Hm:=zh hwi
    clear hwi
    have Hf:k<m:=by
     rcases Nat.lt_or_ge k m with h | h
     ·exact h
     ·exfalso
      have e:=H9
      rw[zlZ s k hk,List.takeWhile_cons,if_pos hl,show m-k=0 from by omega]at e
      simp at e
    have He:=zisZ Hf hm rfl H9
    rw[←HU.o]at He
    have Hb:=zh He
    have H6:=zbtZ 11 (k:Int) wr
    have Hn:(k:Int)<(s.size:Int):=by omega
    clear He H9
    by_cases hno:(s[k]'hk).toNat=48∧k+1<m
    ·have b48:(((s[k]'hk).toNat:Int)==48)=true:=by simp[hno.1]
     have bgt:(k:Int)+1<(m:Int):=by omega
     have HR:=zh (show Lx.cutNumber k (s.data.toList.drop k)=.bad 11 k by rw[Hb.o,if_pos];simp[hno.1,hno.2])
     clear hno hUb hU1
     go_wp2_with (first
      | (go_at_call 166;refine H1.mono ?_;clear H1;rintro e w' ⟨rfl,H0⟩;rw[←H0];clear H0)
      | (go_at_call 164;refine H4.mono ?_;clear H4;rintro e w' ⟨rfl,H0⟩;rw[←H0];clear H0)
      | (go_at_call 165;refine H5.mono ?_;clear H5;rintro e w' ⟨rfl,H0⟩;rw[←H0];clear H0)
      | (go_at_call 170;refine H6.mono ?_;clear H6;rintro e W3 ⟨rfl,H2⟩;obtain⟨⟨a0,a1,a2,a3,a4,a5,a6⟩,⟨f0,f1,f2,f3,f4,f5,f6⟩,hl3⟩:=zfZ ((H2.block _ Ha).trans H3.o)))
     refine bodyPost_ret (v:=.agg #[.int .i64 0,.int .i64 0,.string ⟨#[]⟩,.int .i64 0,.int .i64 0,.int .i64 11,.int .i64 (k:Int)]) (by simp[results, Tryz.results168,go_sem,a0,a1,a2,a3,a4,a5,a6,f0,f1,f2,f3,f4,f5,f6,hl3]) rfl ?_
     rw[HR.o]
     have H7:=Below.chain hb H2
     refine⟨rfl,?_⟩
     repeat (first | (with_reducible exact H7) | with_reducible refine BSet ?_ (Nat.le_refl _))
    ·have Hd:=zh hno
     by_cases hbig:9223372036854775807<U
     ·have bbig:(9223372036854775808:Int)≤(U:Int):=by omega
      have HR:=zh (show Lx.cutNumber k (s.data.toList.drop k)=.bad 11 k by rw[Hb.o,if_pos];simp[hbig])
      clear hbig hUb hU1
      by_cases h48:(s[k]'hk).toNat=48
      ·have b48:(((s[k]'hk).toNat:Int)==48)=true:=by simp[h48]
       have bgt:¬(k:Int)+1<(m:Int):=by have:=Hd.o;omega
       clear hno h48
       go_wp2_with (first
        | (go_at_call 166;refine H1.mono ?_;clear H1;rintro e w' ⟨rfl,H0⟩;rw[←H0];clear H0)
        | (go_at_call 164;refine H4.mono ?_;clear H4;rintro e w' ⟨rfl,H0⟩;rw[←H0];clear H0)
        | (go_at_call 165;refine H5.mono ?_;clear H5;rintro e w' ⟨rfl,H0⟩;rw[←H0];clear H0)
        | (go_at_call 170;refine H6.mono ?_;clear H6;rintro e W3 ⟨rfl,H2⟩;obtain⟨⟨a0,a1,a2,a3,a4,a5,a6⟩,⟨f0,f1,f2,f3,f4,f5,f6⟩,hl3⟩:=zfZ ((H2.block _ Ha).trans H3.o)))
       refine bodyPost_ret (v:=.agg #[.int .i64 0,.int .i64 0,.string ⟨#[]⟩,.int .i64 0,.int .i64 0,.int .i64 11,.int .i64 (k:Int)]) (by simp[results, Tryz.results168,go_sem,a0,a1,a2,a3,a4,a5,a6,f0,f1,f2,f3,f4,f5,f6,hl3]) rfl ?_
       rw[HR.o]
       have H7:=Below.chain hb H2
       refine⟨rfl,?_⟩
       repeat (first | (with_reducible exact H7) | with_reducible refine BSet ?_ (Nat.le_refl _))
      ·have b48:(((s[k]'hk).toNat:Int)==48)=false:=by simp;omega
       clear hno h48
       go_wp2_with (first
        | (go_at_call 166;refine H1.mono ?_;clear H1;rintro e w' ⟨rfl,H0⟩;rw[←H0];clear H0)
        | (go_at_call 164;refine H4.mono ?_;clear H4;rintro e w' ⟨rfl,H0⟩;rw[←H0];clear H0)
        | (go_at_call 165;refine H5.mono ?_;clear H5;rintro e w' ⟨rfl,H0⟩;rw[←H0];clear H0)
        | (go_at_call 170;refine H6.mono ?_;clear H6;rintro e W3 ⟨rfl,H2⟩;obtain⟨⟨a0,a1,a2,a3,a4,a5,a6⟩,⟨f0,f1,f2,f3,f4,f5,f6⟩,hl3⟩:=zfZ ((H2.block _ Ha).trans H3.o)))
       refine bodyPost_ret (v:=.agg #[.int .i64 0,.int .i64 0,.string ⟨#[]⟩,.int .i64 0,.int .i64 0,.int .i64 11,.int .i64 (k:Int)]) (by simp[results, Tryz.results168,go_sem,a0,a1,a2,a3,a4,a5,a6,f0,f1,f2,f3,f4,f5,f6,hl3]) rfl ?_
       rw[HR.o]
       have H7:=Below.chain hb H2
       refine⟨rfl,?_⟩
       repeat (first | (with_reducible exact H7) | with_reducible refine BSet ?_ (Nat.le_refl _))
     ·have bbig:¬(9223372036854775808:Int)≤(U:Int):=by omega
      have H8:((s[k]'hk).toNat==48&&decide (k+1<m))=false:=by
       rw[←Bool.not_eq_true]
       simp only[Bool.and_eq_true,beq_iff_eq,decide_eq_true_eq]
       exact hno
      have hW:Lx.within (s[m]'hlt)=(((Lx.small (s[m]'hlt)||Lx.great (s[m]'hlt))||Lx.digit (s[m]'hlt))||(s[m]'hlt).toNat==95):=rfl
      rw[Hm.o,Bool.or_false]at hW
      have H4:=zbyZ (s[m]'hlt) wr
      have H5:=zbnZ (s[m]'hlt) wr
      have Hq:((s.data.toList.drop m).head?.map Lx.within).getD false=Lx.within (s[m]'hlt):=by rw[Hl.o];rfl
      have Hj:=zh hW
      have Hk:=zh Hq
      clear hW Hq hno
      cases hs1:Lx.small (s[m]'hlt)with
      | true=>
       rw[hs1]at H4
       have HR:=zh (show Lx.cutNumber k (s.data.toList.drop k)=.bad 11 k by rw[Hb.o,Hk.o,Hj.o,hs1,if_pos];simp)
       clear hs1 hUb hU1 H8 hbig
       by_cases h48:(s[k]'hk).toNat=48
       ·have b48:(((s[k]'hk).toNat:Int)==48)=true:=by simp[h48]
        have bgt:¬(k:Int)+1<(m:Int):=by have:=Hd.o;omega
        clear h48
        go_wp2_with (first
         | (go_at_call 166;refine H1.mono ?_;clear H1;rintro e w' ⟨rfl,H0⟩;rw[←H0];clear H0)
         | (go_at_call 164;refine H4.mono ?_;clear H4;rintro e w' ⟨rfl,H0⟩;rw[←H0];clear H0)
         | (go_at_call 165;refine H5.mono ?_;clear H5;rintro e w' ⟨rfl,H0⟩;rw[←H0];clear H0)
         | (go_at_call 170;refine H6.mono ?_;clear H6;rintro e W3 ⟨rfl,H2⟩;obtain⟨⟨a0,a1,a2,a3,a4,a5,a6⟩,⟨f0,f1,f2,f3,f4,f5,f6⟩,hl3⟩:=zfZ ((H2.block _ Ha).trans H3.o)))
        refine bodyPost_ret (v:=.agg #[.int .i64 0,.int .i64 0,.string ⟨#[]⟩,.int .i64 0,.int .i64 0,.int .i64 11,.int .i64 (k:Int)]) (by simp[results, Tryz.results168,go_sem,a0,a1,a2,a3,a4,a5,a6,f0,f1,f2,f3,f4,f5,f6,hl3]) rfl ?_
        rw[HR.o]
        have H7:=Below.chain hb H2
        refine⟨rfl,?_⟩
        repeat (first | (with_reducible exact H7) | with_reducible refine BSet ?_ (Nat.le_refl _))
       ·have b48:(((s[k]'hk).toNat:Int)==48)=false:=by simp;omega
        clear h48
        go_wp2_with (first
         | (go_at_call 166;refine H1.mono ?_;clear H1;rintro e w' ⟨rfl,H0⟩;rw[←H0];clear H0)
         | (go_at_call 164;refine H4.mono ?_;clear H4;rintro e w' ⟨rfl,H0⟩;rw[←H0];clear H0)
         | (go_at_call 165;refine H5.mono ?_;clear H5;rintro e w' ⟨rfl,H0⟩;rw[←H0];clear H0)
         | (go_at_call 170;refine H6.mono ?_;clear H6;rintro e W3 ⟨rfl,H2⟩;obtain⟨⟨a0,a1,a2,a3,a4,a5,a6⟩,⟨f0,f1,f2,f3,f4,f5,f6⟩,hl3⟩:=zfZ ((H2.block _ Ha).trans H3.o)))
        refine bodyPost_ret (v:=.agg #[.int .i64 0,.int .i64 0,.string ⟨#[]⟩,.int .i64 0,.int .i64 0,.int .i64 11,.int .i64 (k:Int)]) (by simp[results, Tryz.results168,go_sem,a0,a1,a2,a3,a4,a5,a6,f0,f1,f2,f3,f4,f5,f6,hl3]) rfl ?_
        rw[HR.o]
        have H7:=Below.chain hb H2
        refine⟨rfl,?_⟩
        repeat (first | (with_reducible exact H7) | with_reducible refine BSet ?_ (Nat.le_refl _))
      | false=>
       rw[hs1]at H4
       cases hg1:Lx.great (s[m]'hlt)with
       | true=>
        rw[hg1]at H5
        have HR:=zh (show Lx.cutNumber k (s.data.toList.drop k)=.bad 11 k by rw[Hb.o,Hk.o,Hj.o,hg1,if_pos];simp)
        clear hs1 hg1 hUb hU1 H8 hbig
        by_cases h48:(s[k]'hk).toNat=48
        ·have b48:(((s[k]'hk).toNat:Int)==48)=true:=by simp[h48]
         have bgt:¬(k:Int)+1<(m:Int):=by have:=Hd.o;omega
         clear h48
         go_wp2_with (first
          | (go_at_call 166;refine H1.mono ?_;clear H1;rintro e w' ⟨rfl,H0⟩;rw[←H0];clear H0)
          | (go_at_call 164;refine H4.mono ?_;clear H4;rintro e w' ⟨rfl,H0⟩;rw[←H0];clear H0)
          | (go_at_call 165;refine H5.mono ?_;clear H5;rintro e w' ⟨rfl,H0⟩;rw[←H0];clear H0)
          | (go_at_call 170;refine H6.mono ?_;clear H6;rintro e W3 ⟨rfl,H2⟩;obtain⟨⟨a0,a1,a2,a3,a4,a5,a6⟩,⟨f0,f1,f2,f3,f4,f5,f6⟩,hl3⟩:=zfZ ((H2.block _ Ha).trans H3.o)))
         refine bodyPost_ret (v:=.agg #[.int .i64 0,.int .i64 0,.string ⟨#[]⟩,.int .i64 0,.int .i64 0,.int .i64 11,.int .i64 (k:Int)]) (by simp[results, Tryz.results168,go_sem,a0,a1,a2,a3,a4,a5,a6,f0,f1,f2,f3,f4,f5,f6,hl3]) rfl ?_
         rw[HR.o]
         have H7:=Below.chain hb H2
         refine⟨rfl,?_⟩
         repeat (first | (with_reducible exact H7) | with_reducible refine BSet ?_ (Nat.le_refl _))
        ·have b48:(((s[k]'hk).toNat:Int)==48)=false:=by simp;omega
         clear h48
         go_wp2_with (first
          | (go_at_call 166;refine H1.mono ?_;clear H1;rintro e w' ⟨rfl,H0⟩;rw[←H0];clear H0)
          | (go_at_call 164;refine H4.mono ?_;clear H4;rintro e w' ⟨rfl,H0⟩;rw[←H0];clear H0)
          | (go_at_call 165;refine H5.mono ?_;clear H5;rintro e w' ⟨rfl,H0⟩;rw[←H0];clear H0)
          | (go_at_call 170;refine H6.mono ?_;clear H6;rintro e W3 ⟨rfl,H2⟩;obtain⟨⟨a0,a1,a2,a3,a4,a5,a6⟩,⟨f0,f1,f2,f3,f4,f5,f6⟩,hl3⟩:=zfZ ((H2.block _ Ha).trans H3.o)))
         refine bodyPost_ret (v:=.agg #[.int .i64 0,.int .i64 0,.string ⟨#[]⟩,.int .i64 0,.int .i64 0,.int .i64 11,.int .i64 (k:Int)]) (by simp[results, Tryz.results168,go_sem,a0,a1,a2,a3,a4,a5,a6,f0,f1,f2,f3,f4,f5,f6,hl3]) rfl ?_
         rw[HR.o]
         have H7:=Below.chain hb H2
         refine⟨rfl,?_⟩
         repeat (first | (with_reducible exact H7) | with_reducible refine BSet ?_ (Nat.le_refl _))
       | false=>
        rw[hg1]at H5
        by_cases h95:(s[m]'hlt).toNat=95
        ·have b95:(((s[m]'hlt).toNat:Int)==95)=true:=by simp[h95]
         have HR:=zh (show Lx.cutNumber k (s.data.toList.drop k)=.bad 11 k by rw[Hb.o,Hk.o,Hj.o,h95,if_pos];simp)
         clear hs1 hg1 hUb hU1 H8 hbig h95
         by_cases h48:(s[k]'hk).toNat=48
         ·have b48:(((s[k]'hk).toNat:Int)==48)=true:=by simp[h48]
          have bgt:¬(k:Int)+1<(m:Int):=by have:=Hd.o;omega
          clear h48
          go_wp2_with (first
           | (go_at_call 166;refine H1.mono ?_;clear H1;rintro e w' ⟨rfl,H0⟩;rw[←H0];clear H0)
           | (go_at_call 164;refine H4.mono ?_;clear H4;rintro e w' ⟨rfl,H0⟩;rw[←H0];clear H0)
           | (go_at_call 165;refine H5.mono ?_;clear H5;rintro e w' ⟨rfl,H0⟩;rw[←H0];clear H0)
           | (go_at_call 170;refine H6.mono ?_;clear H6;rintro e W3 ⟨rfl,H2⟩;obtain⟨⟨a0,a1,a2,a3,a4,a5,a6⟩,⟨f0,f1,f2,f3,f4,f5,f6⟩,hl3⟩:=zfZ ((H2.block _ Ha).trans H3.o)))
          refine bodyPost_ret (v:=.agg #[.int .i64 0,.int .i64 0,.string ⟨#[]⟩,.int .i64 0,.int .i64 0,.int .i64 11,.int .i64 (k:Int)]) (by simp[results, Tryz.results168,go_sem,a0,a1,a2,a3,a4,a5,a6,f0,f1,f2,f3,f4,f5,f6,hl3]) rfl ?_
          rw[HR.o]
          have H7:=Below.chain hb H2
          refine⟨rfl,?_⟩
          repeat (first | (with_reducible exact H7) | with_reducible refine BSet ?_ (Nat.le_refl _))
         ·have b48:(((s[k]'hk).toNat:Int)==48)=false:=by simp;omega
          clear h48
          go_wp2_with (first
           | (go_at_call 166;refine H1.mono ?_;clear H1;rintro e w' ⟨rfl,H0⟩;rw[←H0];clear H0)
           | (go_at_call 164;refine H4.mono ?_;clear H4;rintro e w' ⟨rfl,H0⟩;rw[←H0];clear H0)
           | (go_at_call 165;refine H5.mono ?_;clear H5;rintro e w' ⟨rfl,H0⟩;rw[←H0];clear H0)
           | (go_at_call 170;refine H6.mono ?_;clear H6;rintro e W3 ⟨rfl,H2⟩;obtain⟨⟨a0,a1,a2,a3,a4,a5,a6⟩,⟨f0,f1,f2,f3,f4,f5,f6⟩,hl3⟩:=zfZ ((H2.block _ Ha).trans H3.o)))
          refine bodyPost_ret (v:=.agg #[.int .i64 0,.int .i64 0,.string ⟨#[]⟩,.int .i64 0,.int .i64 0,.int .i64 11,.int .i64 (k:Int)]) (by simp[results, Tryz.results168,go_sem,a0,a1,a2,a3,a4,a5,a6,f0,f1,f2,f3,f4,f5,f6,hl3]) rfl ?_
          rw[HR.o]
          have H7:=Below.chain hb H2
          refine⟨rfl,?_⟩
          repeat (first | (with_reducible exact H7) | with_reducible refine BSet ?_ (Nat.le_refl _))
        ·have b95:(((s[m]'hlt).toNat:Int)==95)=false:=by simp;omega
         have HR:=zh (show Lx.cutNumber k (s.data.toList.drop k)=.ok ⟨k,4,[],U⟩ (m-k)by
          have h9:((s[m]'hlt).toNat==95)=false:=by simpa using h95
          rw[Hb.o,Hk.o,Hj.o,hs1,hg1,h9,H8,decide_eq_false hbig]
          rfl)
         clear hs1 hg1 H8 hbig h95
         by_cases h48:(s[k]'hk).toNat=48
         ·have b48:(((s[k]'hk).toNat:Int)==48)=true:=by simp[h48]
          have bgt:¬(k:Int)+1<(m:Int):=by have:=Hd.o;omega
          clear h48
          obtain⟨⟨p0,p1,p2,p3,p4,p5,p6⟩,⟨g0,g1,g2,g3,g4,g5,g6⟩,hl0⟩:=zfZ H3.o
          have Ho:=zh (show IntKind.i64.wrap (U:Int)=(U:Int)by rw[IntKind.wrap_i64];omega)
          have Hp:=zh (decide_eq_false bgt)
          have Hg:=zh (decide_eq_false bbig)
          clear hUb hU1
          go_upto_if 74 with(first
           | (go_at_call 166;refine H1.mono ?_;clear H1;rintro e w' ⟨rfl,H0⟩;rw[←H0];clear H0)
           | (go_at_call 164;refine H4.mono ?_;clear H4;rintro e w' ⟨rfl,H0⟩;rw[←H0];clear H0)
           | (go_at_call 165;refine H5.mono ?_;clear H5;rintro e w' ⟨rfl,H0⟩;rw[←H0];clear H0))
          simp only[Hg.o,Hp.o,Bool.or_false]
          clear bbig bgt
          have hUm:=Ho.o
          go_wp2_with fail
          refine bodyPost_ret (v:=.agg #[.int .i64 (k:Int),.int .i64 4,.string ⟨#[]⟩,.int .i64 (U:Int),.int .i64 (m:Int),.int .i64 0,.int .i64 0]) (by simp[results, Tryz.results168,go_sem,p0,p1,p2,p3,p4,p5,p6,g0,g1,g2,g3,g4,g5,g6,hl0]) rfl ?_
          rw[HR.o]
          refine⟨?_,?_⟩
          ·simp only[cutV]
           rw[show k+(m-k)=m by omega]
          ·repeat (first | (with_reducible exact hb) | (with_reducible refine BSet ?_ (Nat.le_refl _)) | (with_reducible refine BSet ?_ hb.size) | (with_reducible refine BAlloc ?_))
         ·have b48:(((s[k]'hk).toNat:Int)==48)=false:=by simp;omega
          clear h48
          obtain⟨⟨p0,p1,p2,p3,p4,p5,p6⟩,⟨g0,g1,g2,g3,g4,g5,g6⟩,hl0⟩:=zfZ H3.o
          have Ho:=zh (show IntKind.i64.wrap (U:Int)=(U:Int)by rw[IntKind.wrap_i64];omega)
          have Hg:=zh (decide_eq_false bbig)
          clear hUb hU1
          go_upto_if 74 with(first
           | (go_at_call 166;refine H1.mono ?_;clear H1;rintro e w' ⟨rfl,H0⟩;rw[←H0];clear H0)
           | (go_at_call 164;refine H4.mono ?_;clear H4;rintro e w' ⟨rfl,H0⟩;rw[←H0];clear H0)
           | (go_at_call 165;refine H5.mono ?_;clear H5;rintro e w' ⟨rfl,H0⟩;rw[←H0];clear H0))
          simp only[Hg.o]
          clear bbig
          have hUm:=Ho.o
          go_wp2_with fail
          refine bodyPost_ret (v:=.agg #[.int .i64 (k:Int),.int .i64 4,.string ⟨#[]⟩,.int .i64 (U:Int),.int .i64 (m:Int),.int .i64 0,.int .i64 0]) (by simp[results, Tryz.results168,go_sem,p0,p1,p2,p3,p4,p5,p6,g0,g1,g2,g3,g4,g5,g6,hl0]) rfl ?_
          rw[HR.o]
          refine⟨?_,?_⟩
          ·simp only[cutV]
           rw[show k+(m-k)=m by omega]
          ·repeat (first | (with_reducible exact hb) | (with_reducible refine BSet ?_ (Nat.le_refl _)) | (with_reducible refine BSet ?_ hb.size) | (with_reducible refine BAlloc ?_))
  ·have hi:¬(m:Int)<(s.size:Int):=by omega
   have H9:(s.data.toList.drop k).takeWhile Lx.digit=(s.data.toList.drop k).take (m-k):=by
    have e:=HE.o
    rw[List.drop_eq_nil_of_le (show s.data.toList.length≤m by rw[ziZ];omega)]at e
    simpa using e
   have Hf:k<m:=by
    rcases Nat.lt_or_ge k m with h | h
    ·exact h
    ·exfalso
     have e:=H9
     rw[zlZ s k hk,List.takeWhile_cons,if_pos hl,show m-k=0 from by omega]at e
     simp at e
   have He:=zisZ Hf hm rfl H9
   rw[←HU.o]at He
   have Hb:=zh He
   have H6:=zbtZ 11 (k:Int) wr
   have Hn:(k:Int)<(s.size:Int):=by omega
   clear He H9
   by_cases hno:(s[k]'hk).toNat=48∧k+1<m
   ·have b48:(((s[k]'hk).toNat:Int)==48)=true:=by simp[hno.1]
    have bgt:(k:Int)+1<(m:Int):=by omega
    have HR:=zh (show Lx.cutNumber k (s.data.toList.drop k)=.bad 11 k by rw[Hb.o,if_pos];simp[hno.1,hno.2])
    clear hno hUb hU1
    go_wp2_with (first
     | (go_at_call 166;refine H1.mono ?_;clear H1;rintro e w' ⟨rfl,H0⟩;rw[←H0];clear H0)
     | (go_at_call 164;refine H4.mono ?_;clear H4;rintro e w' ⟨rfl,H0⟩;rw[←H0];clear H0)
     | (go_at_call 165;refine H5.mono ?_;clear H5;rintro e w' ⟨rfl,H0⟩;rw[←H0];clear H0)
     | (go_at_call 170;refine H6.mono ?_;clear H6;rintro e W3 ⟨rfl,H2⟩;obtain⟨⟨a0,a1,a2,a3,a4,a5,a6⟩,⟨f0,f1,f2,f3,f4,f5,f6⟩,hl3⟩:=zfZ ((H2.block _ Ha).trans H3.o)))
    refine bodyPost_ret (v:=.agg #[.int .i64 0,.int .i64 0,.string ⟨#[]⟩,.int .i64 0,.int .i64 0,.int .i64 11,.int .i64 (k:Int)]) (by simp[results, Tryz.results168,go_sem,a0,a1,a2,a3,a4,a5,a6,f0,f1,f2,f3,f4,f5,f6,hl3]) rfl ?_
    rw[HR.o]
    have H7:=Below.chain hb H2
    refine⟨rfl,?_⟩
    repeat (first | (with_reducible exact H7) | with_reducible refine BSet ?_ (Nat.le_refl _))
   ·have Hd:=zh hno
    by_cases hbig:9223372036854775807<U
    ·have bbig:(9223372036854775808:Int)≤(U:Int):=by omega
     have HR:=zh (show Lx.cutNumber k (s.data.toList.drop k)=.bad 11 k by rw[Hb.o,if_pos];simp[hbig])
     clear hbig hUb hU1
     by_cases h48:(s[k]'hk).toNat=48
     ·have b48:(((s[k]'hk).toNat:Int)==48)=true:=by simp[h48]
      have bgt:¬(k:Int)+1<(m:Int):=by have:=Hd.o;omega
      clear hno h48
      go_wp2_with (first
       | (go_at_call 166;refine H1.mono ?_;clear H1;rintro e w' ⟨rfl,H0⟩;rw[←H0];clear H0)
       | (go_at_call 164;refine H4.mono ?_;clear H4;rintro e w' ⟨rfl,H0⟩;rw[←H0];clear H0)
       | (go_at_call 165;refine H5.mono ?_;clear H5;rintro e w' ⟨rfl,H0⟩;rw[←H0];clear H0)
       | (go_at_call 170;refine H6.mono ?_;clear H6;rintro e W3 ⟨rfl,H2⟩;obtain⟨⟨a0,a1,a2,a3,a4,a5,a6⟩,⟨f0,f1,f2,f3,f4,f5,f6⟩,hl3⟩:=zfZ ((H2.block _ Ha).trans H3.o)))
      refine bodyPost_ret (v:=.agg #[.int .i64 0,.int .i64 0,.string ⟨#[]⟩,.int .i64 0,.int .i64 0,.int .i64 11,.int .i64 (k:Int)]) (by simp[results, Tryz.results168,go_sem,a0,a1,a2,a3,a4,a5,a6,f0,f1,f2,f3,f4,f5,f6,hl3]) rfl ?_
      rw[HR.o]
      have H7:=Below.chain hb H2
      refine⟨rfl,?_⟩
      repeat (first | (with_reducible exact H7) | with_reducible refine BSet ?_ (Nat.le_refl _))
     ·have b48:(((s[k]'hk).toNat:Int)==48)=false:=by simp;omega
      clear hno h48
      go_wp2_with (first
       | (go_at_call 166;refine H1.mono ?_;clear H1;rintro e w' ⟨rfl,H0⟩;rw[←H0];clear H0)
       | (go_at_call 164;refine H4.mono ?_;clear H4;rintro e w' ⟨rfl,H0⟩;rw[←H0];clear H0)
       | (go_at_call 165;refine H5.mono ?_;clear H5;rintro e w' ⟨rfl,H0⟩;rw[←H0];clear H0)
       | (go_at_call 170;refine H6.mono ?_;clear H6;rintro e W3 ⟨rfl,H2⟩;obtain⟨⟨a0,a1,a2,a3,a4,a5,a6⟩,⟨f0,f1,f2,f3,f4,f5,f6⟩,hl3⟩:=zfZ ((H2.block _ Ha).trans H3.o)))
      refine bodyPost_ret (v:=.agg #[.int .i64 0,.int .i64 0,.string ⟨#[]⟩,.int .i64 0,.int .i64 0,.int .i64 11,.int .i64 (k:Int)]) (by simp[results, Tryz.results168,go_sem,a0,a1,a2,a3,a4,a5,a6,f0,f1,f2,f3,f4,f5,f6,hl3]) rfl ?_
      rw[HR.o]
      have H7:=Below.chain hb H2
      refine⟨rfl,?_⟩
      repeat (first | (with_reducible exact H7) | with_reducible refine BSet ?_ (Nat.le_refl _))
    ·have bbig:¬(9223372036854775808:Int)≤(U:Int):=by omega
     have H8:((s[k]'hk).toNat==48&&decide (k+1<m))=false:=by
      rw[←Bool.not_eq_true]
      simp only[Bool.and_eq_true,beq_iff_eq,decide_eq_true_eq]
      exact hno
     have HR:=zh (show Lx.cutNumber k (s.data.toList.drop k)=.ok ⟨k,4,[],U⟩ (m-k)by
      have Hw:s.data.toList.drop m=[]:=List.drop_eq_nil_of_le (by rw[ziZ];omega)
      rw[Hb.o,Hw,H8,decide_eq_false hbig]
      rfl)
     clear hno H8 hbig
     by_cases h48:(s[k]'hk).toNat=48
     ·have b48:(((s[k]'hk).toNat:Int)==48)=true:=by simp[h48]
      have bgt:¬(k:Int)+1<(m:Int):=by have:=Hd.o;omega
      clear h48
      obtain⟨⟨p0,p1,p2,p3,p4,p5,p6⟩,⟨g0,g1,g2,g3,g4,g5,g6⟩,hl0⟩:=zfZ H3.o
      have hUm:IntKind.i64.wrap (U:Int)=(U:Int):=by rw[IntKind.wrap_i64];omega
      clear hUb hU1
      go_wp2_with (first
       | (go_at_call 166;refine H1.mono ?_;clear H1;rintro e w' ⟨rfl,H0⟩;rw[←H0];clear H0)
       | (go_at_call 164;refine H4.mono ?_;clear H4;rintro e w' ⟨rfl,H0⟩;rw[←H0];clear H0)
       | (go_at_call 165;refine H5.mono ?_;clear H5;rintro e w' ⟨rfl,H0⟩;rw[←H0];clear H0))
      refine bodyPost_ret (v:=.agg #[.int .i64 (k:Int),.int .i64 4,.string ⟨#[]⟩,.int .i64 (U:Int),.int .i64 (m:Int),.int .i64 0,.int .i64 0]) (by simp[results, Tryz.results168,go_sem,p0,p1,p2,p3,p4,p5,p6,g0,g1,g2,g3,g4,g5,g6,hl0]) rfl ?_
      rw[HR.o]
      refine⟨?_,?_⟩
      ·simp only[cutV]
       rw[show k+(m-k)=m by omega]
      ·repeat (first | (with_reducible exact hb) | (with_reducible refine BSet ?_ (Nat.le_refl _)) | (with_reducible refine BSet ?_ hb.size) | (with_reducible refine BAlloc ?_))
     ·have b48:(((s[k]'hk).toNat:Int)==48)=false:=by simp;omega
      clear h48
      obtain⟨⟨p0,p1,p2,p3,p4,p5,p6⟩,⟨g0,g1,g2,g3,g4,g5,g6⟩,hl0⟩:=zfZ H3.o
      have hUm:IntKind.i64.wrap (U:Int)=(U:Int):=by rw[IntKind.wrap_i64];omega
      clear hUb hU1
      go_wp2_with (first
       | (go_at_call 166;refine H1.mono ?_;clear H1;rintro e w' ⟨rfl,H0⟩;rw[←H0];clear H0)
       | (go_at_call 164;refine H4.mono ?_;clear H4;rintro e w' ⟨rfl,H0⟩;rw[←H0];clear H0)
       | (go_at_call 165;refine H5.mono ?_;clear H5;rintro e w' ⟨rfl,H0⟩;rw[←H0];clear H0))
      refine bodyPost_ret (v:=.agg #[.int .i64 (k:Int),.int .i64 4,.string ⟨#[]⟩,.int .i64 (U:Int),.int .i64 (m:Int),.int .i64 0,.int .i64 0]) (by simp[results, Tryz.results168,go_sem,p0,p1,p2,p3,p4,p5,p6,g0,g1,g2,g3,g4,g5,g6,hl0]) rfl ?_
      rw[HR.o]
      refine⟨?_,?_⟩
      ·simp only[cutV]
       rw[show k+(m-k)=m by omega]
      ·repeat (first | (with_reducible exact hb) | (with_reducible refine BSet ?_ (Nat.le_refl _)) | (with_reducible refine BSet ?_ hb.size) | (with_reducible refine BAlloc ?_))
structure QW (w W:World):Prop where
 b:Below w.heap.size w W
 z:W.heap[w.heap.size]? =some (.cells #[.int .i64 0,.int .i64 0,.string ⟨#[]⟩,.int .i64 0,.int .i64 0,.int .i64 0,.int .i64 0] 193 (0,0))
theorem QW.row {w W W':World} {row:Option Nat} (h:QW w W) (hg:W.grownBy W' row) (hr:∀g,row=some g→w.heap.size+1≤g):QW w W':=
 ⟨Below.turn h.b hg (fun r e=>by have:=hr r e;omega),(hg.block _ (zaZ h.z) (fun e=>by have:=hr _ e.symm;omega)).trans h.z⟩
theorem QW.row2 {w W W':World} {row:Option Nat} {o:Obj} (h:QW w W) (hg:(W.alloc o).grownBy W' row) (hr:∀g,row=some g→w.heap.size+1≤g):QW w W':=
 (h.row (World.grownBy_alloc W o none) (fun g e=>nomatch e)).row hg hr
theorem zlbZ {c:UInt8} (h:plainB c=true):¬c.toNat=34∧¬c.toNat=92∧¬(c.toNat<32∨126<c.toNat):=by
 simp only[plainB,Bool.and_eq_true,decide_eq_true_eq,Bool.not_eq_true',beq_eq_false_iff_ne]at h
 exact⟨h.2.2.1,h.2.2.2,by omega⟩
theorem zjjZ {c:UInt8} (h:plainB c=false) (h34:¬c.toNat=34) (h92:¬c.toNat=92):c.toNat<32∨126<c.toNat:=by
 by_cases hb:c.toNat<32∨126<c.toNat
 ·exact hb
 ·exfalso
  have:plainB c=true:=by
   simp only[plainB,Bool.and_eq_true,decide_eq_true_eq,Bool.not_eq_true',beq_eq_false_iff_ne]
   exact⟨by omega,by omega,h34,h92⟩
  rw[h]at this
  cases this
theorem zprZ (s:ByteArray) (k:Nat) (w:World) (hk:k<s.size) (hs:s.size≤140737488351232) :
  Calls Tryz.prog 169 #[.string s,.int .i64 (k:Int)] w fun e w'=>e=.returned (cutV k (Lx.quoted k (s.data.toList.drop (k+1)) [] 1))∧Below w.heap.size w w':=by
 have Ho:(s.size:Int)≤140737488351232:=by omega
 have Hm:(k:Int)<(s.size:Int):=by omega
 have Hp:(0:Int)≤(k:Int):=by omega
 obtain⟨i0,hi0,hz0,hz1,hz2⟩:=info_parts zczZ
 go_enter Tryz.func169, Tryz.ntmps169
 go_upto_region 1 with fail
 have H8:=heap_alloc_new w (.cells #[.int .i64 0,.int .i64 0,.string ⟨#[]⟩,.int .i64 0,.int .i64 0,.int .i64 0,.int .i64 0] 193)
 have hb:=zeZ (World.grownBy_alloc w (.cells #[.int .i64 0,.int .i64 0,.string ⟨#[]⟩,.int .i64 0,.int .i64 0,.int .i64 0,.int .i64 0] 193) none)
 have Hc:(w.alloc (.cells #[.int .i64 0,.int .i64 0,.string ⟨#[]⟩,.int .i64 0,.int .i64 0,.int .i64 0,.int .i64 0] 193)).heap.size=w.heap.size+1:=by rw[World.size_alloc]
 obtain⟨W1,hW1⟩:=zE (w.alloc (.cells #[.int .i64 0,.int .i64 0,.string ⟨#[]⟩,.int .i64 0,.int .i64 0,.int .i64 0,.int .i64 0] 193))
 rw[hW1]at H8 hb Hc ⊢
 have H7:=zh (QW.mk hb H8)
 have Hb:=zaZ H8
 clear H8 hW1 hb
 go_wp2_with (at_make;refine wpList_make_own _ rfl _ _ 98 rfl (w.heap.size+1) 5 i0 (.int .u8 0) 1 Tryz.underlying98 hi0 hz0 hz1 .i64 .i64 _ 0 rfl rfl rfl (by rw[hz2];omega) (by unfold maxLen;omega) (by rw[Hc];exact Nat.le_refl _) ?_;intro W2 hown H9)
 have Hk:=zh (H7.o.row H9 (fun g e=>nomatch e))
 rw[Hc]at hown
 have Hl:Hid (OwnB W2 (w.heap.size+1) (.slice (some ⟨w.heap.size+1,0,none⟩) 0 0) []):=zh hown
 clear hown H9 H7 hi0 hz0 hz1 hz2 Hc
 go_loopg [5,6] (s.size-(k+1)) (fun n v u wr=>∃(m:Nat) (l:List UInt8),n=s.size-m∧u=.int .i64 (m:Int)∧k+1≤m∧m≤s.size∧QW w wr∧OwnB wr (w.heap.size+1) v l∧l.length≤m∧
  Lx.quoted k (s.data.toList.drop m) l (m-k)=Lx.quoted k (s.data.toList.drop (k+1)) [] 1)
 case atStart=>exact⟨k+1,[],rfl,rfl,Nat.le_refl _,by omega,Hk.o,Hl.o,by simp,by rw[show k+1-k=1 from by omega]⟩
 case round=>
  obtain⟨m,l,hn,rfl,hkm,hm,hW,hO,hl,he⟩:=hrel
  have Hd:=zh hW
  have HB:=zh hW.b
  have HZ:=zh hW.z
  have Hb:=zaZ hW.z
  have HO:=zh hO
  have HE:=zh he
  have HN:=zh hn
  obtain⟨A0,cap0,hv⟩:=hO.slice
  clear he hn hW hO
  subst hv
  have m0:(0:Int)≤(m:Int):=by omega
  have Hr:(m:Int)≤(s.size:Int):=by omega
  by_cases hlt:m<s.size
  ·have hi:(m:Int)<(s.size:Int):=by omega
   have HD:=zh (zlZ s m hlt)
   have H2:=zsgZ (s[m]'hlt) wr
   by_cases h34:(s[m]'hlt).toNat=34
   ·have b34:=u8t _ 34 h34
    have bsz:((m:Int)==(s.size:Int))=false:=by simp;omega
    have He:=zh h34
    clear h34
    have HQ:Hid (Lx.quoted k (s.data.toList.drop (k+1)) [] 1=.ok ⟨k,5,l,0⟩ (m+1-k)):=HE.o.symm.trans (by
     rw[HD.o,zhfZ He.o,show m-k+1=m+1-k from by omega])
    obtain⟨⟨p0,p1,p2,p3,p4,p5,p6⟩,⟨g0,g1,g2,g3,g4,g5,g6⟩,hl0⟩:=zfZ HZ.o
    have Hq:(convert 98 9 (.slice A0 l.length cap0)).run Tryz.prog wr=.ok (.string ⟨l.toArray⟩) wr:=zdkZ HO.o
    go_wp2_with fail
    refine bodyPost_ret (v:=.agg #[.int .i64 (k:Int),.int .i64 5,.string ⟨l.toArray⟩,.int .i64 0,.int .i64 ((m:Int)+1),.int .i64 0,.int .i64 0]) (by simp[results, Tryz.results169,go_sem,p0,p1,p2,p3,p4,p5,p6,g0,g1,g2,g3,g4,g5,g6,hl0]) rfl ?_
    rw[HQ.o]
    have H6:=HB.o
    refine⟨?_,?_⟩
    ·simp only[cutV]
     rw[show k+(m+1-k)=m+1 by omega]
     rfl
    ·repeat (first | (with_reducible exact H6) | (with_reducible refine BSet ?_ (Nat.le_refl _)) | (with_reducible refine BSet ?_ H6.size) | (with_reducible refine BAlloc ?_))
   ·have b34:=u8f _ 34 h34
    have He:=zh h34
    clear h34
    cases hp:plainB (s[m]'hlt)with
    | true=>
     rw[hp]at H2
     have HP:=zh (zlbZ hp)
     clear hp
     have HQ:Hid (Lx.quoted k (s.data.toList.drop (m+1)) (l++[s[m]'hlt]) (m+1-k)=Lx.quoted k (s.data.toList.drop (k+1)) [] 1):=by
      have e:=HE.o
      rw[HD.o,zffZ HP.o.1 HP.o.2.1 HP.o.2.2,show m-k+1=m+1-k from by omega]at e
      exact e
     go_wp2_with (first
      | (go_at_call 182;refine H2.mono ?_;clear H2;rintro e w' ⟨rfl,H1⟩;rw[←H1];clear H1)
      | (at_builtin;refine zcgZ (w.heap.size+1) rfl (.tmp 25) (.tmp 29) rfl _ l (s[m]'hlt) rfl rfl HO.o (by omega) (by omega) ?_;intro v1 w1 hown H4;have hQ1:=Hd.o.row2 H4 (fun g hg=>OwnB.base HO.o g hg)))
     have Ha:=zh hown
     have H7:=zh hQ1
     clear hown H4 hQ1
     go_roundg (s.size-(m+1))
     case measure=>have:=HN.o;omega
     case rel=>exact⟨m+1,_,rfl,rfl,by omega,by omega,H7.o,Ha.o,by simp;omega,HQ.o⟩
    | false=>
     rw[hp]at H2
     by_cases h92:(s[m]'hlt).toNat=92
     ·have b92:=u8t _ 92 h92
      have Hg:=zh h92
      clear h92 hp
      by_cases hend:m+1=s.size
      ·have bend:((m:Int)+1==(s.size:Int))=true:=by simp;omega
       have Hj:=zh hend
       clear hend
       have HQ:Hid (Lx.quoted k (s.data.toList.drop (k+1)) [] 1=.bad 12 (m+1)):=HE.o.symm.trans (by
        rw[HD.o,List.drop_eq_nil_of_le (i:=m+1) (by rw[ziZ,Hj.o];exact Nat.le_refl _),zhgZ Hg.o,show k+(m-k)+1=m+1 from by omega])
       have H3:=zbtZ 12 ((m:Int)+1) wr
       have HX:=HZ.o
       go_wp2_with (first
        | (go_at_call 182;refine H2.mono ?_;clear H2;rintro e w' ⟨rfl,H1⟩;rw[←H1];clear H1)
        | (go_at_call 170;refine H3.mono ?_;clear H3;rintro e W3 ⟨rfl,H5⟩;obtain⟨⟨a0,a1,a2,a3,a4,a5,a6⟩,⟨f0,f1,f2,f3,f4,f5,f6⟩,hl3⟩:=zfZ ((H5.block _ Hb).trans HX)))
       refine bodyPost_ret (v:=.agg #[.int .i64 0,.int .i64 0,.string ⟨#[]⟩,.int .i64 0,.int .i64 0,.int .i64 12,.int .i64 ((m:Int)+1)]) (by simp[results, Tryz.results169,go_sem,a0,a1,a2,a3,a4,a5,a6,f0,f1,f2,f3,f4,f5,f6,hl3]) rfl ?_
       rw[HQ.o]
       have H6:=Below.chain HB.o H5
       refine⟨rfl,?_⟩
       repeat (first | (with_reducible exact H6) | with_reducible refine BSet ?_ (Nat.le_refl _))
      ·have bend:((m:Int)+1==(s.size:Int))=false:=by simp;omega
       have H0:m+1<s.size:=by omega
       have Hn:(m:Int)+1<(s.size:Int):=by omega
       have Hi:(0:Int)≤(m:Int)+1:=by omega
       have Hh:=zh (zlZ s (m+1) H0)
       have Hf:Hid (Lx.quoted k (s.data.toList.drop (k+1)) [] 1=if(s[m+1]'H0).toNat==110 then Lx.quoted k (s.data.toList.drop (m+1+1)) (l++[10]) (m-k+2)else if(s[m+1]'H0).toNat==34||(s[m+1]'H0).toNat==92 then Lx.quoted k (s.data.toList.drop (m+1+1)) (l++[s[m+1]'H0]) (m-k+2)else .bad 12 (k+(m-k)+1)):=
        HE.o.symm.trans (by rw[HD.o,Hh.o];exact zbqZ Hg.o)
       clear hend
       by_cases h110:(s[m+1]'H0).toNat=110
       ·have c110:=u8t _ 110 h110
        have HQ:Hid (Lx.quoted k (s.data.toList.drop (m+2)) (l++[10]) (m+2-k)=Lx.quoted k (s.data.toList.drop (k+1)) [] 1):=by
         have e:=Hf.o
         rw[if_pos (by simp[h110]),show m-k+2=m+2-k from by omega]at e
         exact e.symm
        clear h110
        go_wp2_with (first
         | (go_at_call 182;refine H2.mono ?_;clear H2;rintro e w' ⟨rfl,H1⟩;rw[←H1];clear H1)
         | (at_builtin;refine zcgZ (w.heap.size+1) rfl (.tmp 54) (.tmp 55) rfl _ l 10 rfl rfl HO.o (by omega) (by omega) ?_;intro v1 w1 hown H4;have hQ1:=Hd.o.row2 H4 (fun g hg=>OwnB.base HO.o g hg)))
        have Ha:=zh hown
        have H7:=zh hQ1
        clear hown H4 hQ1
        go_roundg (s.size-(m+2))
        case measure=>have:=HN.o;omega
        case rel=>exact⟨m+2,_,rfl,rfl,by omega,by omega,H7.o,Ha.o,by simp;omega,HQ.o⟩
       ·have c110:=u8f _ 110 h110
        by_cases hq:(s[m+1]'H0).toNat=34∨(s[m+1]'H0).toNat=92
        ·have HQ:Hid (Lx.quoted k (s.data.toList.drop (m+2)) (l++[s[m+1]'H0]) (m+2-k)=Lx.quoted k (s.data.toList.drop (k+1)) [] 1):=by
          have e:=Hf.o
          rw[if_neg (by simpa using h110),if_pos (by simpa using hq),show m-k+2=m+2-k from by omega]at e
          exact e.symm
         clear h110
         by_cases h34b:(s[m+1]'H0).toNat=34
         ·have c34:=u8t _ 34 h34b
          clear h34b hq
          go_wp2_with (first
           | (go_at_call 182;refine H2.mono ?_;clear H2;rintro e w' ⟨rfl,H1⟩;rw[←H1];clear H1)
           | (at_builtin;refine zcgZ (w.heap.size+1) rfl (.tmp 60) (.tmp 64) rfl _ l (s[m+1]'H0) rfl rfl HO.o (by omega) (by omega) ?_;intro v1 w1 hown H4;have hQ1:=Hd.o.row2 H4 (fun g hg=>OwnB.base HO.o g hg)))
          have Ha:=zh hown
          have H7:=zh hQ1
          clear hown H4 hQ1
          go_roundg (s.size-(m+2))
          case measure=>have:=HN.o;omega
          case rel=>exact⟨m+2,_,rfl,rfl,by omega,by omega,H7.o,Ha.o,by simp;omega,HQ.o⟩
         ·have c34:=u8f _ 34 h34b
          have c92:=u8t _ 92 (by omega:(s[m+1]'H0).toNat=92)
          clear h34b hq
          go_wp2_with (first
           | (go_at_call 182;refine H2.mono ?_;clear H2;rintro e w' ⟨rfl,H1⟩;rw[←H1];clear H1)
           | (at_builtin;refine zcgZ (w.heap.size+1) rfl (.tmp 60) (.tmp 64) rfl _ l (s[m+1]'H0) rfl rfl HO.o (by omega) (by omega) ?_;intro v1 w1 hown H4;have hQ1:=Hd.o.row2 H4 (fun g hg=>OwnB.base HO.o g hg)))
          have Ha:=zh hown
          have H7:=zh hQ1
          clear hown H4 hQ1
          go_roundg (s.size-(m+2))
          case measure=>have:=HN.o;omega
          case rel=>exact⟨m+2,_,rfl,rfl,by omega,by omega,H7.o,Ha.o,by simp;omega,HQ.o⟩
        ·have HQ:Hid (Lx.quoted k (s.data.toList.drop (k+1)) [] 1=.bad 12 (m+1)):=by
          have e:=Hf.o
          rw[if_neg (by simpa using h110),if_neg (by simpa using hq),show k+(m-k)+1=m+1 from by omega]at e
          exact e
         have c34:=u8f _ 34 (by omega:¬(s[m+1]'H0).toNat=34)
         have c92:=u8f _ 92 (by omega:¬(s[m+1]'H0).toNat=92)
         clear h110 hq
         have H3:=zbtZ 12 ((m:Int)+1) wr
         have HX:=HZ.o
         go_wp2_with (first
          | (go_at_call 182;refine H2.mono ?_;clear H2;rintro e w' ⟨rfl,H1⟩;rw[←H1];clear H1)
          | (go_at_call 170;refine H3.mono ?_;clear H3;rintro e W3 ⟨rfl,H5⟩;obtain⟨⟨a0,a1,a2,a3,a4,a5,a6⟩,⟨f0,f1,f2,f3,f4,f5,f6⟩,hl3⟩:=zfZ ((H5.block _ Hb).trans HX)))
         refine bodyPost_ret (v:=.agg #[.int .i64 0,.int .i64 0,.string ⟨#[]⟩,.int .i64 0,.int .i64 0,.int .i64 12,.int .i64 ((m:Int)+1)]) (by simp[results, Tryz.results169,go_sem,a0,a1,a2,a3,a4,a5,a6,f0,f1,f2,f3,f4,f5,f6,hl3]) rfl ?_
         rw[HQ.o]
         have H6:=Below.chain HB.o H5
         refine⟨rfl,?_⟩
         repeat (first | (with_reducible exact H6) | with_reducible refine BSet ?_ (Nat.le_refl _))
     ·have b92:=u8f _ 92 h92
      have HQ:Hid (Lx.quoted k (s.data.toList.drop (k+1)) [] 1=.bad 12 m):=HE.o.symm.trans (by
       rw[HD.o,zejZ He.o h92 (zjjZ hp He.o h92),show k+(m-k)=m from by omega])
      clear h92 hp
      have H3:=zbtZ 12 (m:Int) wr
      have HX:=HZ.o
      go_wp2_with (first
       | (go_at_call 182;refine H2.mono ?_;clear H2;rintro e w' ⟨rfl,H1⟩;rw[←H1];clear H1)
       | (go_at_call 170;refine H3.mono ?_;clear H3;rintro e W3 ⟨rfl,H5⟩;obtain⟨⟨a0,a1,a2,a3,a4,a5,a6⟩,⟨f0,f1,f2,f3,f4,f5,f6⟩,hl3⟩:=zfZ ((H5.block _ Hb).trans HX)))
      refine bodyPost_ret (v:=.agg #[.int .i64 0,.int .i64 0,.string ⟨#[]⟩,.int .i64 0,.int .i64 0,.int .i64 12,.int .i64 (m:Int)]) (by simp[results, Tryz.results169,go_sem,a0,a1,a2,a3,a4,a5,a6,f0,f1,f2,f3,f4,f5,f6,hl3]) rfl ?_
      rw[HQ.o]
      have H6:=Below.chain HB.o H5
      refine⟨rfl,?_⟩
      repeat (first | (with_reducible exact H6) | with_reducible refine BSet ?_ (Nat.le_refl _))
  ·have hi:¬(m:Int)<(s.size:Int):=by omega
   have bsz:((m:Int)==(s.size:Int))=true:=by simp;omega
   have HM:=zh hlt
   have HQ:Hid (Lx.quoted k (s.data.toList.drop (k+1)) [] 1=.bad 12 m):=HE.o.symm.trans (by
    rw[List.drop_eq_nil_of_le (by rw[ziZ];have:=HM.o;omega),Lx.quoted,show k+(m-k)=m from by omega])
   have H3:=zbtZ 12 (m:Int) wr
   have HX:=HZ.o
   go_wp2_with (first
    | (go_at_call 170;refine H3.mono ?_;clear H3;rintro e W3 ⟨rfl,H5⟩;obtain⟨⟨a0,a1,a2,a3,a4,a5,a6⟩,⟨f0,f1,f2,f3,f4,f5,f6⟩,hl3⟩:=zfZ ((H5.block _ Hb).trans HX)))
   refine bodyPost_ret (v:=.agg #[.int .i64 0,.int .i64 0,.string ⟨#[]⟩,.int .i64 0,.int .i64 0,.int .i64 12,.int .i64 (m:Int)]) (by simp[results, Tryz.results169,go_sem,a0,a1,a2,a3,a4,a5,a6,f0,f1,f2,f3,f4,f5,f6,hl3]) rfl ?_
   rw[HQ.o]
   have H6:=Below.chain HB.o H5
   refine⟨rfl,?_⟩
   repeat (first | (with_reducible exact H6) | with_reducible refine BSet ?_ (Nat.le_refl _))
def cutR (p:Nat) (l:Lx.Bytes):Lx.Res:=if(l.head?.map Lx.begins).getD false then Lx.cut p l else .bad 10 p
theorem zbwZ {p:Nat} {b:UInt8} {t:Lx.Bytes} (h:Lx.begins b=true):cutR p (b::t)=Lx.cut p (b::t):=by
 simp[cutR,h]
theorem zlcZ {p:Nat} {b:UInt8} {t:Lx.Bytes} (h:Lx.begins b=false):cutR p (b::t)=.bad 10 p:=by
 simp[cutR,h]
theorem zgzZ (m:Nat) (h0:m≠0) (h:m<14):sgs.getD m []=[firsts.getD m 0]:=by
 have H0:((List.range 14).all fun m=>m==0||sgs.getD m []==[firsts.getD m 0])=true:=by decide
 have:=List.all_eq_true.1 H0 m (List.mem_range.2 h)
 simpa[h0]using this
theorem zpsZ (b:UInt8) (h:firsts.contains b=true):∃m,m≠0∧m<14∧firsts.getD m 0=b:=by
 have H0:∀x∈firsts,((List.range 14).any fun m=>m != 0&&firsts.getD m 0==x)=true:=by decide
 have:=List.any_eq_true.1 (H0 b (List.contains_iff_mem.1 h))
 obtain⟨m,hm,he⟩:=this
 simp only[Bool.and_eq_true,bne_iff_ne,ne_eq,beq_iff_eq]at he
 exact⟨m,he.1,List.mem_range.1 hm,he.2⟩
theorem zptZ (m:Nat) (h:m<14):firsts.contains (firsts.getD m 0)=true:=by
 have H0:((List.range 14).all fun m=>firsts.contains (firsts.getD m 0))=true:=by decide
 exact List.all_eq_true.1 H0 m (List.mem_range.2 h)
theorem zmsZ (c b:UInt8) (t:Lx.Bytes):List.isPrefixOf [c] (b::t)=(c==b):=by simp[List.isPrefixOf]
theorem zmtZ (b:UInt8) (t:Lx.Bytes):List.isPrefixOf [61,61] (b::t)=(b.toNat==61&&t.head? ==some 61):=by
 have hb:((61:UInt8)==b)=(b.toNat==61):=by
  rw[Bool.eq_iff_iff]
  simp only[beq_iff_eq]
  exact⟨fun h=>by rw[←h];rfl,fun h=>(UInt8.toNat_inj.1 (by simpa using h)).symm⟩
 cases t with
 | nil=>simp[List.isPrefixOf]
 | cons d t=>
  have hd:((61:UInt8)==d)=(d==61):=by rw[Bool.eq_iff_iff];simp only[beq_iff_eq];exact⟨Eq.symm,Eq.symm⟩
  simp[List.isPrefixOf,hb,hd]
theorem zsjZ {p:Nat} {b:UInt8} {t:Lx.Bytes} {m:Nat} (hm:m<14) (hl:Lx.letter b=false) (hd:Lx.digit b=false) (h34:¬b.toNat=34)
  (hp:(sgs.getD m []).isPrefixOf (b::t)=true) (hn:∀j,j<m→(sgs.getD j []).isPrefixOf (b::t)=false) :
  cutR p (b::t)=.ok ⟨p,6,sgs.getD m [],0⟩ (sgs.getD m []).length:=by
 have H1:(b.toNat==34)=false:=by simpa using h34
 rcases Nat.eq_zero_or_pos m with rfl | hpos
 ·have e:sgs.getD 0 []=[61,61]:=rfl
  rw[e,zmtZ]at hp
  have hb:b.toNat=61:=by simp at hp;exact hp.1
  have H0:Lx.begins b=true:=by
   have:b=61:=UInt8.toNat_inj.1 hb
   subst this;decide
  rw[zbwZ H0,e]
  simp[Lx.cut,hl,hd,H1,hp]
 ·rw[zgzZ m (by omega) hm,zmsZ]at hp
  have H2:firsts.getD m 0=b:=by simpa using hp
  have H0:Lx.begins b=true:=by
   have:=zptZ m hm
   rw[H2,zftZ]at this
   unfold Lx.begins
   rw[this];simp
  have h0:=hn 0 hpos
  rw[show sgs.getD 0 []=[61,61]from rfl,zmtZ]at h0
  rw[zbwZ H0,zgzZ m (by omega) hm,H2]
  simp only[Lx.cut,hl,hd,H1,h0]
  simp
theorem zskZ {p:Nat} {b:UInt8} {t:Lx.Bytes} (hl:Lx.letter b=false) (hd:Lx.digit b=false) (h34:¬b.toNat=34)
  (hn:∀j,j<14→(sgs.getD j []).isPrefixOf (b::t)=false):cutR p (b::t)=.bad 10 p:=by
 have H0:(b.toNat==34)=false:=by simpa using h34
 apply zlcZ
 unfold Lx.begins
 rw[hl,hd,H0,←zftZ]
 simp only[Bool.false_or]
 cases hf:firsts.contains b with
 | false=>rfl
 | true=>
  exfalso
  obtain⟨m,h0,hm,e⟩:=zpsZ b hf
  have:=hn m hm
  rw[zgzZ m h0 hm,zmsZ,e]at this
  simp at this
theorem zeuZ (p:Nat) (r:Lx.Res):∃(a b:Int) (c:ByteArray) (d e f h:Int),cutV p r=.agg #[.int .i64 a,.int .i64 b,.string c,.int .i64 d,.int .i64 e,.int .i64 f,.int .i64 h]:=by
 cases r with
 | ok t n=>exact⟨_,_,_,_,_,_,_,rfl⟩
 | bad y x=>exact⟨_,_,_,_,_,_,_,rfl⟩
theorem pre_take {x l:Lx.Bytes} (h:x.length≤l.length):x.isPrefixOf l=(l.take x.length==x):=by
 rw[Bool.eq_iff_iff,List.isPrefixOf_iff_prefix,beq_iff_eq,List.prefix_iff_eq_take]
 exact⟨Eq.symm,Eq.symm⟩
theorem zpuZ {x l:Lx.Bytes} (h:l.length<x.length):x.isPrefixOf l=false:=by
 rw[←Bool.not_eq_true,List.isPrefixOf_iff_prefix]
 intro hp
 have:=hp.length_le
 omega
theorem BDrew {B:Nat} {w W:World} (h:Below B w W):Below B w W.drew:=⟨h.os,h.tape,h.output,h.size,h.block⟩
theorem zwkZ (s:ByteArray) (k:Nat) (w:World) (hk:k<s.size) (hs:s.size≤140737488351232) :
  Calls Tryz.prog 152 #[.string s,.int .i64 (k:Int)] w fun e w'=>e=.returned (cutV k (cutR k (s.data.toList.drop k)))∧Below w.heap.size w w':=by
 have Je:(s.size:Int)≤140737488351232:=by omega
 have Jc:(k:Int)<(s.size:Int):=by omega
 have Jf:(0:Int)≤(k:Int):=by omega
 have HD:=zh (zlZ s k hk)
 go_enter Tryz.func152, Tryz.ntmps152
 go_upto_region 1 with fail
 have H4:=heap_alloc_new w (.cells #[.int .i64 0,.int .i64 0,.string ⟨#[]⟩,.int .i64 0,.int .i64 0,.int .i64 0,.int .i64 0] 193)
 have hb:=zeZ (World.grownBy_alloc w (.cells #[.int .i64 0,.int .i64 0,.string ⟨#[]⟩,.int .i64 0,.int .i64 0,.int .i64 0,.int .i64 0] 193) none)
 have Hc:(w.alloc (.cells #[.int .i64 0,.int .i64 0,.string ⟨#[]⟩,.int .i64 0,.int .i64 0,.int .i64 0,.int .i64 0] 193)).heap.size=w.heap.size+1:=by rw[World.size_alloc]
 obtain⟨W1,hW1⟩:=zE (w.alloc (.cells #[.int .i64 0,.int .i64 0,.string ⟨#[]⟩,.int .i64 0,.int .i64 0,.int .i64 0,.int .i64 0] 193))
 rw[hW1]at H4 hb Hc ⊢
 have HZ:=zh H4
 have HB:=zh hb
 have Hd:=zaZ H4
 clear H4 hW1 hb
 by_cases hlet:Lx.letter (s[k]'hk)=true
 ·have HR:=zh (show cutR k (s.data.toList.drop k)=Lx.cutName k (s.data.toList.drop k)by
   rw[HD.o,zbwZ (by simp[Lx.begins,hlet])]
   simp only[Lx.cut,hlet,if_true])
  have h2:Lx.small (s[k]'hk)=true∨(Lx.small (s[k]'hk)=false∧Lx.great (s[k]'hk)=true):=by
   have h:=hlet
   unfold Lx.letter at h
   cases hsm:Lx.small (s[k]'hk)with
   | true=>exact .inl rfl
   | false=>rw[hsm,Bool.false_or]at h;exact .inr ⟨rfl,h⟩
  rcases h2 with hsm | ⟨hsm,hgr⟩
  all_goals
   have H6:=fun X=>zupZ s k X hk hs hlet
   obtain⟨l0,l1,l2,l3,l4,l5,l6,hcv⟩:=zeuZ k (Lx.cutName k (s.data.toList.drop k))
   have H9:=zh hcv
   go_wp2_with (first
    | (go_at_call 164;refine(zbyZ _ _).mono ?_;rw[hsm];rintro e w' ⟨rfl,H0⟩;rw[←H0];clear H0)
    | (go_at_call 165;refine(zbnZ _ _).mono ?_;rw[hgr];rintro e w' ⟨rfl,H0⟩;rw[←H0];clear H0)
    | (go_at_call 166;refine(zbsZ _ _).mono ?_;rw[H3];rintro e w' ⟨rfl,H0⟩;rw[←H0];clear H0)
    | (go_at_call 167;refine(H6 _).mono ?_;rw[hcv];clear H6;rintro e W3 ⟨rfl,H2⟩;obtain⟨⟨a0,a1,a2,a3,a4,a5,a6⟩,⟨f0,f1,f2,f3,f4,f5,f6⟩,hl3⟩:=zfZ ((H2.block _ Hd).trans HZ.o)))
   refine bodyPost_ret (v:=.agg #[.int .i64 l0,.int .i64 l1,.string l2,.int .i64 l3,.int .i64 l4,.int .i64 l5,.int .i64 l6]) (by simp[results, Tryz.results152,go_sem,a0,a1,a2,a3,a4,a5,a6,f0,f1,f2,f3,f4,f5,f6,hl3]) rfl ?_
   rw[HR.o,H9.o]
   have H5:=Below.chain HB.o H2
   refine⟨rfl,?_⟩
   repeat (first | (with_reducible exact H5) | with_reducible refine BSet ?_ (Nat.le_refl _))
 ·have Hb:Lx.letter (s[k]'hk)=false:=by simpa using hlet
  have Hv:Lx.small (s[k]'hk)=false∧Lx.great (s[k]'hk)=false:=by simpa[Lx.letter]using Hb
  obtain⟨hsm,hgr⟩:=Hv
  cases H3:Lx.digit (s[k]'hk)with
  | true=>
   have HR:=zh (show cutR k (s.data.toList.drop k)=Lx.cutNumber k (s.data.toList.drop k)by
    rw[HD.o,zbwZ (by simp[Lx.begins,H3])]
    simp only[Lx.cut,Hb,H3,if_true,Bool.false_eq_true,if_false])
   have H6:=fun X=>zpqZ s k X hk hs H3
   obtain⟨l0,l1,l2,l3,l4,l5,l6,hcv⟩:=zeuZ k (Lx.cutNumber k (s.data.toList.drop k))
   have H9:=zh hcv
   go_wp2_with (first
    | (go_at_call 164;refine(zbyZ _ _).mono ?_;rw[hsm];rintro e w' ⟨rfl,H0⟩;rw[←H0];clear H0)
    | (go_at_call 165;refine(zbnZ _ _).mono ?_;rw[hgr];rintro e w' ⟨rfl,H0⟩;rw[←H0];clear H0)
    | (go_at_call 166;refine(zbsZ _ _).mono ?_;rw[H3];rintro e w' ⟨rfl,H0⟩;rw[←H0];clear H0)
    | (go_at_call 168;refine(H6 _).mono ?_;rw[hcv];clear H6;rintro e W3 ⟨rfl,H2⟩;obtain⟨⟨a0,a1,a2,a3,a4,a5,a6⟩,⟨f0,f1,f2,f3,f4,f5,f6⟩,hl3⟩:=zfZ ((H2.block _ Hd).trans HZ.o)))
   refine bodyPost_ret (v:=.agg #[.int .i64 l0,.int .i64 l1,.string l2,.int .i64 l3,.int .i64 l4,.int .i64 l5,.int .i64 l6]) (by simp[results, Tryz.results152,go_sem,a0,a1,a2,a3,a4,a5,a6,f0,f1,f2,f3,f4,f5,f6,hl3]) rfl ?_
   rw[HR.o,H9.o]
   have H5:=Below.chain HB.o H2
   refine⟨rfl,?_⟩
   repeat (first | (with_reducible exact H5) | with_reducible refine BSet ?_ (Nat.le_refl _))
  | false=>
   by_cases h34:(s[k]'hk).toNat=34
   ·have b34:=u8t _ 34 h34
    have HR:=zh (show cutR k (s.data.toList.drop k)=Lx.quoted k (s.data.toList.drop (k+1)) [] 1 by
     rw[HD.o,zbwZ (by simp[Lx.begins,h34])]
     simp only[Lx.cut,Hb,H3,h34,beq_self_eq_true,if_true,Bool.false_eq_true,if_false])
    clear h34
    have H6:=fun X=>zprZ s k X hk hs
    obtain⟨l0,l1,l2,l3,l4,l5,l6,hcv⟩:=zeuZ k (Lx.quoted k (s.data.toList.drop (k+1)) [] 1)
    have H9:=zh hcv
    go_wp2_with (first
     | (go_at_call 164;refine(zbyZ _ _).mono ?_;rw[hsm];rintro e w' ⟨rfl,H0⟩;rw[←H0];clear H0)
     | (go_at_call 165;refine(zbnZ _ _).mono ?_;rw[hgr];rintro e w' ⟨rfl,H0⟩;rw[←H0];clear H0)
     | (go_at_call 166;refine(zbsZ _ _).mono ?_;rw[H3];rintro e w' ⟨rfl,H0⟩;rw[←H0];clear H0)
     | (go_at_call 169;refine(H6 _).mono ?_;rw[hcv];clear H6;rintro e W3 ⟨rfl,H2⟩;obtain⟨⟨a0,a1,a2,a3,a4,a5,a6⟩,⟨f0,f1,f2,f3,f4,f5,f6⟩,hl3⟩:=zfZ ((H2.block _ Hd).trans HZ.o)))
    refine bodyPost_ret (v:=.agg #[.int .i64 l0,.int .i64 l1,.string l2,.int .i64 l3,.int .i64 l4,.int .i64 l5,.int .i64 l6]) (by simp[results, Tryz.results152,go_sem,a0,a1,a2,a3,a4,a5,a6,f0,f1,f2,f3,f4,f5,f6,hl3]) rfl ?_
    rw[HR.o,H9.o]
    have H5:=Below.chain HB.o H2
    refine⟨rfl,?_⟩
    repeat (first | (with_reducible exact H5) | with_reducible refine BSet ?_ (Nat.le_refl _))
   ·have b34:=u8f _ 34 h34
    have Hu:=zh h34
    clear h34 hlet
    go_upto_region 9 with(first
 | (go_at_call 164;refine(zbyZ _ _).mono ?_;rw[hsm];rintro e w' ⟨rfl,H0⟩;rw[←H0];clear H0)
 | (go_at_call 165;refine(zbnZ _ _).mono ?_;rw[hgr];rintro e w' ⟨rfl,H0⟩;rw[←H0];clear H0)
 | (go_at_call 166;refine(zbsZ _ _).mono ?_;rw[H3];rintro e w' ⟨rfl,H0⟩;rw[←H0];clear H0)
     | (go_at_call 139;refine(zgxZ _).mono ?_;rintro e W2 ⟨rfl,hWe⟩;rw[hWe];clear hWe))
    have H1:=heap_alloc_new W1 (.cells sgCells 9)
    have He:=heap_alloc HZ.o (.cells sgCells 9)
    have Hj:=HB.o.alloc HB.o.size (.cells sgCells 9)
    have Hk:(W1.alloc (.cells sgCells 9)).heap.size=w.heap.size+2:=by rw[World.size_alloc,Hc]
    rw[Hc]at H1
    obtain⟨W2,hW2⟩:=zE (W1.alloc (.cells sgCells 9))
    rw[hW2]at H1 He Hj Hk ⊢
    have J2:=zh H1
    have Ja:=zh He
    have Hz:=zh Hj
    have HL:=zh (And.intro Hb H3)
    have J3:=zaZ He
    have J0:=zaZ H1
    clear H1 He Hj hW2 HZ HB Hd Hc Hb hsm hgr H3 b34
    go_wp2_with fail
    go_loopg [7] 14 (fun n v wr=>∃(m:Nat),n=14-m∧v=.int .i64 (m:Int)∧m≤14∧wr.heap=W2.heap∧Below w.heap.size w wr∧∀j,j<m→(sgs.getD j []).isPrefixOf (s.data.toList.drop k)=false)
    case atStart=>exact⟨0,rfl,rfl,Nat.zero_le _,rfl,Hz.o,fun j h=>absurd h (Nat.not_lt_zero j)⟩
    case round=>
     obtain⟨m,hn,rfl,hm,hwq,hwb,hc⟩:=hrel
     have HN:=zh hn
     have HC:=zh hc
     have Hq:=zh hwq
     have Hh:Hid (wr.heap[w.heap.size+1]? =some (.cells sgCells 9 (0,0))):=zh (by rw[hwq];exact J2.o)
     have Hm:Hid (wr.heap[w.heap.size]? =some (.cells #[.int .i64 0,.int .i64 0,.string ⟨#[]⟩,.int .i64 0,.int .i64 0,.int .i64 0,.int .i64 0] 193 (0,0))):=zh (by rw[hwq];exact Ja.o)
     have Hg:Hid (Below w.heap.size w wr):=zh hwb
     have Ha:=zaZ Hm.o
     have Hp:=zaZ Hh.o
     clear hn hc hwq hwb
     by_cases hlt:m<14
     ·have Hw:(m:Int)<14:=by omega
      have Jg:(0:Int)≤(m:Int):=by omega
      have t0:=(zdZ Hh.o m).trans (zetZ m hlt)
      obtain⟨x,hx⟩:=zE (sgs.getD m [])
      have HX:=zh hx
      rw[hx]at t0
      have J9:x.length≤2:=by
       have J1:((List.range 14).all fun m=>decide ((sgs.getD m []).length≤2))=true:=by decide
       have:=List.all_eq_true.1 J1 m (List.mem_range.2 hlt)
       rw[hx]at this
       simpa using this
      obtain⟨S,hS⟩:∃S:ByteArray,(⟨x.toArray⟩:ByteArray)=S:=⟨_,rfl⟩
      have J8:=zh (show S.data.toList=x by rw[←hS])
      have hSl:S.size=x.length:=by rw[←hS];rfl
      have Hf:=zh hSl
      rw[hS]at t0
      have hS2:(S.size:Int)≤2:=by omega
      have hS0:(0:Int)≤(S.size:Int):=by omega
      have Jb:IntKind.i64.wrap ((k:Int)+(S.size:Int))=(k:Int)+(S.size:Int):=by rw[IntKind.wrap_i64];omega
      have Hy:=zh hS
      clear hx hS hSl J9
      by_cases hfit:k+S.size≤s.size
      ·have J6:(k:Int)+(S.size:Int)≤(s.size:Int):=by omega
       have HP:=zh (show x.isPrefixOf (s.data.toList.drop k)=((s.data.toList.drop k).take S.size==x)by
        rw[pre_take (by rw[List.length_drop,ziZ,←Hf.o];omega),Hf.o])
       obtain⟨E,hE⟩:∃E:ByteArray,s.extract k (k+S.size)=E:=⟨_,rfl⟩
       have H7:(E.toList==S.toList)=((s.data.toList.drop k).take S.size==x):=by
        rw[ByteArray.toList_eq,ByteArray.toList_eq,←hE,zbpZ,J8.o,show k+S.size-k=S.size by omega]
       clear hfit
       cases hq:((s.data.toList.drop k).take S.size==x)with
       | true=>
        rw[hq]at H7 HP
        have HR:=zh (show cutR k (s.data.toList.drop k)=.ok ⟨k,6,x,0⟩ x.length by
         rw[HD.o]
         have:=zsjZ (p:=k) hlt HL.o.1 HL.o.2 Hu.o (by rw[HX.o,←HD.o];exact HP.o) (by rw[←HD.o];exact HC.o)
         rw[HX.o]at this
         exact this)
        clear hq
        go_wp2_with fail
        go_quiet (fail)
        obtain⟨W4,hW4⟩:=zE (wr.drewN nq)
        have J7:Hid (W4.heap[w.heap.size+1]? =some (.cells sgCells 9 (0,0))):=zh (by rw[←hW4];exact Hh.o)
        have Hr:Hid (W4.heap[w.heap.size]? =some (.cells #[.int .i64 0,.int .i64 0,.string ⟨#[]⟩,.int .i64 0,.int .i64 0,.int .i64 0,.int .i64 0] 193 (0,0))):=zh (by rw[←hW4];exact Hm.o)
        have Ht:Hid (Below w.heap.size w W4):=zh (by rw[←hW4];exact Below.drewN Hg.o _)
        have s0:W4.cell? ⟨w.heap.size+1,m,none⟩=some (.string S):=by rw[←hW4];exact t0
        have Hn:=zaZ Hr.o
        have Ho:=zaZ J7.o
        rw[hW4]
        clear hW4 t0 Ha Hp
        go_upto_region 15 with fail
        have ht:=heap_alloc_new W4 (.cells #[.int .i64 (k:Int),.int .i64 6,.string S,.int .i64 0] 133)
        have Hl:=heap_alloc Hr.o (.cells #[.int .i64 (k:Int),.int .i64 6,.string S,.int .i64 0] 133)
        have Hi:=Ht.o.alloc Ht.o.size (.cells #[.int .i64 (k:Int),.int .i64 6,.string S,.int .i64 0] 133)
        have s5:(W4.alloc (.cells #[.int .i64 (k:Int),.int .i64 6,.string S,.int .i64 0] 133)).cell? ⟨w.heap.size+1,m,none⟩=some (.string S):=(World.cell?_of_block (Below.heap_alloc W4 _ _ Ho)).trans s0
        have H8:=World.size_alloc W4 (.cells #[.int .i64 (k:Int),.int .i64 6,.string S,.int .i64 0] 133)
        obtain⟨L,hL⟩:=zE (W4.heap.size)
        obtain⟨W5,hW5⟩:=zE (W4.alloc (.cells #[.int .i64 (k:Int),.int .i64 6,.string S,.int .i64 0] 133))
        rw[hL]at ht Hn Ho
        rw[hL,hW5]at H8
        rw[hW5]at ht Hl Hi s5
        rw[hL,hW5]
        obtain⟨t0,t1,t2,t3⟩:=zhZ ht
        obtain⟨⟨p0,p1,p2,p3,p4,p5,p6⟩,⟨g0,g1,g2,g3,g4,g5,g6⟩,hl0⟩:=zfZ Hl
        have Hx:=zaZ ht
        have J4:w.heap.size+1<W5.heap.size:=by omega
        have J5:=zh Hi
        have Jd:=zh Hn
        clear hL hW5 s0 Hi Hl ht H8 Hn Ho hE H7
        go_region
        go_wp2_with fail
        refine bodyPost_ret (v:=.agg #[.int .i64 (k:Int),.int .i64 6,.string S,.int .i64 0,.int .i64 ((k:Int)+(S.size:Int)),.int .i64 0,.int .i64 0]) (by simp[results, Tryz.results152,go_sem,p0,p1,p2,p3,p4,p5,p6,g0,g1,g2,g3,g4,g5,g6,hl0]) rfl ?_
        rw[HR.o]
        have H5:=J5.o
        refine⟨?_,?_⟩
        ·simp only[cutV,Hy.o]
         rw[←Hf.o]
         rfl
        ·refine BDrew ?_
         repeat (first | (with_reducible exact H5) | with_reducible refine BSet ?_ (Nat.le_refl _))
       | false=>
        rw[hq]at H7 HP
        clear hq
        go_wp2_with fail
        go_quiet (fail)
        go_wp2_with fail
        go_roundg (14-(m+1))
        case measure=>have:=HN.o;omega
        case rel=>exact⟨m+1,rfl,by simp,hlt,Hq.o,Below.drewN Hg.o _,fun j hj=>by
        rcases Nat.lt_or_ge j m with h | h
        ·exact HC.o j h
        ·rw[show j=m by omega,HX.o];exact HP.o⟩
      ·have J6:decide ((k:Int)+(S.size:Int)≤(s.size:Int))=false:=by simp;omega
       have HP:=zh (show x.isPrefixOf (s.data.toList.drop k)=false from zpuZ (by rw[List.length_drop,ziZ,←Hf.o];omega))
       clear hfit
       go_wp2_with fail
       go_quiet (fail)
       go_wp2_with fail
       go_roundg (14-(m+1))
       case measure=>have:=HN.o;omega
       case rel=>exact⟨m+1,rfl,by simp,hlt,Hq.o,Below.drewN Hg.o _,fun j hj=>by
        rcases Nat.lt_or_ge j m with h | h
        ·exact HC.o j h
        ·rw[show j=m by omega,HX.o];exact HP.o⟩
     ·have Hw:¬(m:Int)<14:=by omega
      have HR:=zh (show cutR k (s.data.toList.drop k)=.bad 10 k by
       rw[HD.o]
       refine zskZ HL.o.1 HL.o.2 Hu.o ?_
       rw[←HD.o]
       exact fun j hj=>HC.o j (by omega))
      have Hs:=zbtZ 10 (k:Int) wr
      go_wp2_with (go_at_call 170;refine Hs.mono ?_;clear Hs;rintro e W3 ⟨rfl,H2⟩;obtain⟨⟨a0,a1,a2,a3,a4,a5,a6⟩,⟨f0,f1,f2,f3,f4,f5,f6⟩,hl3⟩:=zfZ ((H2.block _ Ha).trans Hm.o))
      refine bodyPost_ret (v:=.agg #[.int .i64 0,.int .i64 0,.string ⟨#[]⟩,.int .i64 0,.int .i64 0,.int .i64 10,.int .i64 (k:Int)]) (by simp[results, Tryz.results152,go_sem,a0,a1,a2,a3,a4,a5,a6,f0,f1,f2,f3,f4,f5,f6,hl3]) rfl ?_
      rw[HR.o]
      have H5:=Below.chain Hg.o H2
      refine⟨rfl,?_⟩
      repeat (first | (with_reducible exact H5) | with_reducible refine BSet ?_ (Nat.le_refl _))
end Go.Proofs.YtdncljdfmdgdaaaGreatDoor
