/-
  coilref1.number.
-/
import Derived.Test.YtdncljdfmdgdaaaGreatDoorM34
set_option linter.unusedSimpArgs false
set_option linter.unusedVariables false
set_option maxRecDepth 100000
set_option maxHeartbeats 4000000
namespace Go.Proofs.YtdncljdfmdgdaaaGreatDoor
open Go.RowKit
theorem zovZ (l:Lx.Bytes) (c:UInt8):Lx.value (l++[c])=Lx.value l * 10+(c.toNat-48):=by
 unfold Lx.value;rw[List.foldl_append];rfl
theorem zmfZ:∀(l:Lx.Bytes) (v:Nat),1<=v->10 ^ l.length * v<=l.foldl (fun v c=>v * 10+(c.toNat-48)) v
 | [],v,_=>by simp
 | c::l,v,hv=>by rw[List.foldl_cons];refine ymZ ?_ (zmfZ l (v * 10+(c.toNat-48)) (by omega));rw[yhZ,Nat.pow_succ];have:10 ^ l.length * 10 * v=10 ^ l.length * (v * 10):=(by rw[Nat.mul_assoc,Nat.mul_comm 10 v]);rw[this];exact Nat.mul_le_mul_left _ (by omega)
theorem zhyZ:∀(l:Lx.Bytes) (v:Nat),(∀c∈l,Lx.digit c=true)->l.foldl (fun v c=>v * 10+(c.toNat-48)) v+1<=10 ^ l.length * (v+1)
 | [],v,_=>by simp
 | c::l,v,h=>by have hc:=h c (ysZ ..);simp only[Lx.digit,ygZ,yCZ]at hc;rw[List.foldl_cons];refine ymZ (zhyZ l (v * 10+(c.toNat-48)) (fun d hd=>h d (ywZ _ hd))) ?_;rw[yhZ,Nat.pow_succ,Nat.mul_assoc];exact Nat.mul_le_mul_left _ (by omega)
theorem zmyZ {p:Nat} {l:Lx.Bytes} (h:19<(l.takeWhile Lx.digit).length):Lx.cutNumber p l=.bad 11 p:=by
 unfold Lx.cutNumber;simp only;rw[if_pos]
 cases l with
 | nil=>simp at h
 | cons c l=>
  have hd:Lx.digit c=true:=by
   cases hd:Lx.digit c with
   | true=>rfl
   | false=>rw[yFZ,if_neg (by simp[hd])]at h;simp at h
  by_cases h48:c=48
  ·subst h48;simp only[List.head?_cons,beq_self_eq_true,Bool.true_and,yKZ,yCZ];exact .inl (.inr (by omega))
  ·have H1:c.toNat≠48:=fun e=>h48 (ybbZ.1 e);have H0:=hd;simp only[Lx.digit,ygZ,yCZ]at H0;rw[yFZ,if_pos hd]at h ⊢;simp only[yKZ,yCZ];refine .inl (.inl ?_);unfold Lx.value;rw[List.foldl_cons];have:=zmfZ (l.takeWhile Lx.digit) (0 * 10+(c.toNat-48)) (by omega);refine yJZ ?_ this;rw[yhZ]at h;have hp:10 ^ 19<=10 ^ (l.takeWhile Lx.digit).length:=Nat.pow_le_pow_right (by decide) (by omega);have h1:(10:Nat) ^ 19=10000000000000000000:=(by decide);have h2:10 ^ (l.takeWhile Lx.digit).length * 1<=10 ^ (l.takeWhile Lx.digit).length * (0 * 10+(c.toNat-48)):=Nat.mul_le_mul_left _ (by omega);omega
theorem zquZ {l:Lx.Bytes} (h:∀c∈l,Lx.digit c=true) (hl:l.length<=19):Lx.value l<10000000000000000000:=by
 have h1:=zhyZ l 0 h;have hp:10 ^ l.length<=10 ^ 19:=Nat.pow_le_pow_right (by decide) hl;have h2:(10:Nat) ^ 19=10000000000000000000:=by decide
 unfold Lx.value;omega
theorem zmzZ {s:ByteArray} {k m:Nat} (hkm:k<=m) (hlt:m<s.size) (hd:Lx.digit (s[m]'hlt)=true)
  (he:(s.data.toList.drop k).takeWhile Lx.digit=(s.data.toList.drop k).take (m-k)++(s.data.toList.drop m).takeWhile Lx.digit) :
  (s.data.toList.drop k).takeWhile Lx.digit=(s.data.toList.drop k).take (m+1-k)++(s.data.toList.drop (m+1)).takeWhile Lx.digit:=by
 rw[he,zcmZ s k m hkm hlt,zkZ s m hlt,yFZ,if_pos hd];simp
theorem zjxZ {s:ByteArray} {k m:Nat} {D:Lx.Bytes} (hkm:k<m) (hm:m<=s.size) (hD:D=(s.data.toList.drop k).take (m-k)) (he:(s.data.toList.drop k).takeWhile Lx.digit=D) :
  Lx.cutNumber k (s.data.toList.drop k)=if(decide (9223372036854775807<Lx.value D)||((s[k]'(by omega)).toNat==48&&decide (k+1<m))||((s.data.toList.drop m).head?.map Lx.within).getD false)=true then .bad 11 k else .ok ⟨k,4,[],Lx.value D⟩ (m-k):=by
 have hl:D.length=m-k:=by rw[hD,yUZ,yhbZ,zhZ];omega
 have hd:(s.data.toList.drop k).drop D.length=s.data.toList.drop m:=by rw[hl,List.drop_drop,show k+(m-k)=m by omega]
 have hh:(s.data.toList.drop k).head? =some (s[k]'(by omega)):=by rw[zkZ s k (by omega)];rfl
 have H0:((some (s[k]'(by omega)):Option UInt8)==some 48)=((s[k]'(by omega)).toNat==48):=by rw[yEZ];simp only[ytZ,Option.some.injEq];exact⟨fun h=>by rw[h];rfl,fun h=>ybbZ.1 h⟩
 unfold Lx.cutNumber;simp only[he,hd,hh,H0];rw[hl];have:decide (1<m-k)=decide (k+1<m):=by rw[decide_eq_decide];omega
 rw[this]
theorem zqvZ (s:ByteArray) (k:Nat) (w:World) (hk:k<s.size) (hs:s.size<=140737488351232) (hl:Lx.digit (s[k]'hk)=true) :
  Calls Tryz.prog 168 #[.string s,.int .i64 (k:Int)] w fun e w'=>e=.returned (cutV k (Lx.cutNumber k (s.data.toList.drop k)))/\Below w.heap.size w w':=by
 have Hy:(s.size:Int)<=140737488351232:=by omega
 have Hx:(k:Int)<=(s.size:Int):=by omega
 have Hz:(0:Int)<=(k:Int):=by omega
 go_enter Tryz.func168, Tryz.ntmps168
 go_upto_region 1 with fail
 have Hc:=ydZ w (.cells #[.int .i64 0,.int .i64 0,.string ⟨#[]⟩,.int .i64 0,.int .i64 0,.int .i64 0,.int .i64 0] 193);have hb:=zeZ (yeZ w (.cells #[.int .i64 0,.int .i64 0,.string ⟨#[]⟩,.int .i64 0,.int .i64 0,.int .i64 0,.int .i64 0] 193) none);obtain⟨W1,hW1⟩:=zE (w.alloc (.cells #[.int .i64 0,.int .i64 0,.string ⟨#[]⟩,.int .i64 0,.int .i64 0,.int .i64 0,.int .i64 0] 193));rw[hW1]at Hc hb ⊢;have H3:=zh Hc;have Ha:=zaZ Hc;clear Hc hW1;go_wp2_with fail
 go_loopg [5,6] (s.size-k) (fun n v u wr=>∃(m U:Nat),n=s.size-m/\v=.int .i64 (m:Int)/\u=.int .u64 (U:Int)/\k<=m/\m<=s.size/\m<=k+19/\wr=W1/\U=Lx.value ((s.data.toList.drop k).take (m-k))/\(∀c∈(s.data.toList.drop k).take (m-k),Lx.digit c=true)/\
  (s.data.toList.drop k).takeWhile Lx.digit=(s.data.toList.drop k).take (m-k)++(s.data.toList.drop m).takeWhile Lx.digit)
 case atStart=>exact⟨k,0,rfl,rfl,rfl,ybZ _,by omega,by omega,rfl,by rw[Nat.sub_self];rfl,by simp,by simp⟩
 case round=>
  obtain⟨m,U,hn,rfl,rfl,hkm,hm,hm19,rfl,hU,hdg,he⟩:=hrel;have HE:=zh he;have HN:=zh hn;have HU:=zh hU;have Hq:=zh hdg;have Hh:((s.data.toList.drop k).take (m-k)).length=m-k:=(by rw[yUZ,yhbZ,zhZ];omega);have hUb:U<10000000000000000000:=(by rw[hU];exact zquZ hdg (by omega));have Hi:=zh Hh;clear he hn hU hdg Hh;have J0:(0:Int)<=(m:Int):=(by omega);have Hv:(k:Int)<=(m:Int):=(by omega);have hU1:(U:Int)<10000000000000000000:=(by omega);by_cases hlt:m<s.size
  ·have hi:(m:Int)<(s.size:Int):=(by omega);have Hp:=zh (zkZ s m hlt)
   cases hwi:Lx.digit (s[m]'hlt)with
   | true=>
    have H1:=zbvZ (s[m]'hlt) wr;rw[hwi]at H1;by_cases h19:m=k+19
    ·have hB:(18:Int)<(m:Int)-(k:Int):=by omega
     have HR:=zh (show Lx.cutNumber k (s.data.toList.drop k)=.bad 11 k from zmyZ (by
      rw[HE.o,ycZ,Hi.o,Hp.o,yFZ,if_pos hwi];simp
      omega))
     have H6:=zbwZ 11 (k:Int) wr;clear hwi h19
     go_wp2_with (first
      | (go_at_call 166;refine H1.mono ?_;clear H1;rintro e w' ⟨rfl,H0⟩;rw[<-H0];clear H0)
      | (go_at_call 170;refine H6.mono ?_;clear H6;rintro e W3 ⟨rfl,H2⟩;obtain⟨⟨a0,a1,a2,a3,a4,a5,a6⟩,⟨f0,f1,f2,f3,f4,f5,f6⟩,hl3⟩:=zfZ ((H2.block _ Ha).trans H3.o)))
     refine ylZ (v:=.agg #[.int .i64 0,.int .i64 0,.string ⟨#[]⟩,.int .i64 0,.int .i64 0,.int .i64 11,.int .i64 (k:Int)]) (by simp[results, Tryz.results168,go_sem,a0,a1,a2,a3,a4,a5,a6,f0,f1,f2,f3,f4,f5,f6,hl3]) rfl ?_;rw[HR.o];have H7:=Below.chain hb H2;refine⟨rfl,?_⟩
     repeat (first | (with_reducible exact H7) | with_reducible refine BSet ?_ (ybZ _))
    ·have hB:¬(18:Int)<(m:Int)-(k:Int):=(by omega);have Hr:48<=(s[m]'hlt).toNat/\(s[m]'hlt).toNat<=57:=(by simpa[Lx.digit]using hwi);have hU18:U<1000000000000000000:=(by have h1:=zhyZ ((s.data.toList.drop k).take (m-k)) 0 Hq.o;have hp:10 ^ ((s.data.toList.drop k).take (m-k)).length<=10 ^ 18:=Nat.pow_le_pow_right (by decide) (by rw[Hi.o];omega);have h2:(10:Nat) ^ 18=1000000000000000000:=(by decide);have h3:U=((s.data.toList.drop k).take (m-k)).foldl (fun v c=>v * 10+(c.toNat-48)) 0:=HU.o;omega);have hUi:(U:Int)<1000000000000000000:=(by omega);have c1:(48:Int)<=((s[m]'hlt).toNat:Int):=(by omega);have c2:((s[m]'hlt).toNat:Int)<=57:=(by omega);have HG:=zh (zmzZ hkm hlt hwi HE.o);have HT:=zh (zcmZ s k m hkm hlt);have Hm:=zh hwi;have Hu:=zh hU18;have Hw:=zh Hr;clear hwi hU18 hUb Hr h19 hUi hU1 c1 c2;go_wp2_with (go_at_call 166;refine H1.mono ?_;clear H1;rintro e w' ⟨rfl,H0⟩;rw[<-H0];clear H0);go_roundg (s.size-(m+1))
     case measure=>have:=HN.o;omega
     case rel=>
      have h1:=Hu.o;have h2:=Hw.o;refine⟨m+1,U * 10+((s[m]'hlt).toNat-48),rfl,by simp,?_,by omega,hlt,by omega,rfl,?_,?_,HG.o⟩
      ·rw[IntKind.wrap_u64,IntKind.wrap_u64]
       congr 1
       omega
      ·rw[HT.o,zovZ,<-HU.o]
      ·intro d hd;rw[HT.o,yfbZ,yWZ]at hd;rcases hd with hd | hd
       ·exact Hq.o d hd
       ·rw[hd];exact Hm.o
   | false=>
    have H1:=zbvZ (s[m]'hlt) wr;rw[hwi]at H1;have H9:(s.data.toList.drop k).takeWhile Lx.digit=(s.data.toList.drop k).take (m-k):=(by have e:=HE.o;rw[Hp.o,yFZ,hwi]at e;simpa using e);have Hm:=zh hwi;clear hwi;have He:k<m:=by
     rcases Nat.lt_or_ge k m with h | h
     ·exact h
     ·exfalso;have e:=H9;rw[zkZ s k hk,yFZ,if_pos hl,show m-k=0 from by omega]at e;simp at e
    have Hg:=zjxZ He hm rfl H9;rw[<-HU.o]at Hg;have Hb:=zh Hg;have H6:=zbwZ 11 (k:Int) wr;have Hn:(k:Int)<(s.size:Int):=(by omega);clear Hg H9;by_cases hno:(s[k]'hk).toNat=48/\k+1<m
    ·have b48:(((s[k]'hk).toNat:Int)==48)=true:=(by simp[hno.1]);have bgt:(k:Int)+1<(m:Int):=(by omega);have HR:=zh (show Lx.cutNumber k (s.data.toList.drop k)=.bad 11 k by rw[Hb.o,if_pos];simp[hno.1,hno.2]);clear hno hUb hU1
     go_wp2_with (first
      | (go_at_call 166;refine H1.mono ?_;clear H1;rintro e w' ⟨rfl,H0⟩;rw[<-H0];clear H0)
      | (go_at_call 164;refine H4.mono ?_;clear H4;rintro e w' ⟨rfl,H0⟩;rw[<-H0];clear H0)
      | (go_at_call 165;refine H5.mono ?_;clear H5;rintro e w' ⟨rfl,H0⟩;rw[<-H0];clear H0)
      | (go_at_call 170;refine H6.mono ?_;clear H6;rintro e W3 ⟨rfl,H2⟩;obtain⟨⟨a0,a1,a2,a3,a4,a5,a6⟩,⟨f0,f1,f2,f3,f4,f5,f6⟩,hl3⟩:=zfZ ((H2.block _ Ha).trans H3.o)))
     refine ylZ (v:=.agg #[.int .i64 0,.int .i64 0,.string ⟨#[]⟩,.int .i64 0,.int .i64 0,.int .i64 11,.int .i64 (k:Int)]) (by simp[results, Tryz.results168,go_sem,a0,a1,a2,a3,a4,a5,a6,f0,f1,f2,f3,f4,f5,f6,hl3]) rfl ?_;rw[HR.o];have H7:=Below.chain hb H2;refine⟨rfl,?_⟩
     repeat (first | (with_reducible exact H7) | with_reducible refine BSet ?_ (ybZ _))
    ·have Hd:=zh hno;by_cases hbig:9223372036854775807<U
     ·have bbig:(9223372036854775808:Int)<=(U:Int):=(by omega);have HR:=zh (show Lx.cutNumber k (s.data.toList.drop k)=.bad 11 k by rw[Hb.o,if_pos];simp[hbig]);clear hbig hUb hU1;by_cases h48:(s[k]'hk).toNat=48
      ·have b48:(((s[k]'hk).toNat:Int)==48)=true:=(by simp[h48]);have bgt:¬(k:Int)+1<(m:Int):=(by have:=Hd.o;omega);clear hno h48
       go_wp2_with (first
        | (go_at_call 166;refine H1.mono ?_;clear H1;rintro e w' ⟨rfl,H0⟩;rw[<-H0];clear H0)
        | (go_at_call 164;refine H4.mono ?_;clear H4;rintro e w' ⟨rfl,H0⟩;rw[<-H0];clear H0)
        | (go_at_call 165;refine H5.mono ?_;clear H5;rintro e w' ⟨rfl,H0⟩;rw[<-H0];clear H0)
        | (go_at_call 170;refine H6.mono ?_;clear H6;rintro e W3 ⟨rfl,H2⟩;obtain⟨⟨a0,a1,a2,a3,a4,a5,a6⟩,⟨f0,f1,f2,f3,f4,f5,f6⟩,hl3⟩:=zfZ ((H2.block _ Ha).trans H3.o)))
       refine ylZ (v:=.agg #[.int .i64 0,.int .i64 0,.string ⟨#[]⟩,.int .i64 0,.int .i64 0,.int .i64 11,.int .i64 (k:Int)]) (by simp[results, Tryz.results168,go_sem,a0,a1,a2,a3,a4,a5,a6,f0,f1,f2,f3,f4,f5,f6,hl3]) rfl ?_;rw[HR.o];have H7:=Below.chain hb H2;refine⟨rfl,?_⟩
       repeat (first | (with_reducible exact H7) | with_reducible refine BSet ?_ (ybZ _))
      ·have b48:(((s[k]'hk).toNat:Int)==48)=false:=(by simp;omega);clear hno h48
       go_wp2_with (first
        | (go_at_call 166;refine H1.mono ?_;clear H1;rintro e w' ⟨rfl,H0⟩;rw[<-H0];clear H0)
        | (go_at_call 164;refine H4.mono ?_;clear H4;rintro e w' ⟨rfl,H0⟩;rw[<-H0];clear H0)
        | (go_at_call 165;refine H5.mono ?_;clear H5;rintro e w' ⟨rfl,H0⟩;rw[<-H0];clear H0)
        | (go_at_call 170;refine H6.mono ?_;clear H6;rintro e W3 ⟨rfl,H2⟩;obtain⟨⟨a0,a1,a2,a3,a4,a5,a6⟩,⟨f0,f1,f2,f3,f4,f5,f6⟩,hl3⟩:=zfZ ((H2.block _ Ha).trans H3.o)))
       refine ylZ (v:=.agg #[.int .i64 0,.int .i64 0,.string ⟨#[]⟩,.int .i64 0,.int .i64 0,.int .i64 11,.int .i64 (k:Int)]) (by simp[results, Tryz.results168,go_sem,a0,a1,a2,a3,a4,a5,a6,f0,f1,f2,f3,f4,f5,f6,hl3]) rfl ?_;rw[HR.o];have H7:=Below.chain hb H2;refine⟨rfl,?_⟩
       repeat (first | (with_reducible exact H7) | with_reducible refine BSet ?_ (ybZ _))
     ·have bbig:¬(9223372036854775808:Int)<=(U:Int):=(by omega);have H8:((s[k]'hk).toNat==48&&decide (k+1<m))=false:=(by rw[<-Bool.not_eq_true];simp only[ygZ,ytZ,yCZ];exact hno);have hW:Lx.within (s[m]'hlt)=(((Lx.small (s[m]'hlt)||Lx.great (s[m]'hlt))||Lx.digit (s[m]'hlt))||(s[m]'hlt).toNat==95):=rfl;rw[Hm.o,Bool.or_false]at hW;have H4:=zcfZ (s[m]'hlt) wr;have H5:=zbpZ (s[m]'hlt) wr;have Hs:((s.data.toList.drop m).head?.map Lx.within).getD false=Lx.within (s[m]'hlt):=(by rw[Hp.o];rfl);have Hj:=zh hW;have Hk:=zh Hs;clear hW Hs hno
      cases hs1:Lx.small (s[m]'hlt)with
      | true=>
       rw[hs1]at H4;have HR:=zh (show Lx.cutNumber k (s.data.toList.drop k)=.bad 11 k by rw[Hb.o,Hk.o,Hj.o,hs1,if_pos];simp);clear hs1 hUb hU1 H8 hbig;by_cases h48:(s[k]'hk).toNat=48
       ·have b48:(((s[k]'hk).toNat:Int)==48)=true:=(by simp[h48]);have bgt:¬(k:Int)+1<(m:Int):=(by have:=Hd.o;omega);clear h48
        go_wp2_with (first
         | (go_at_call 166;refine H1.mono ?_;clear H1;rintro e w' ⟨rfl,H0⟩;rw[<-H0];clear H0)
         | (go_at_call 164;refine H4.mono ?_;clear H4;rintro e w' ⟨rfl,H0⟩;rw[<-H0];clear H0)
         | (go_at_call 165;refine H5.mono ?_;clear H5;rintro e w' ⟨rfl,H0⟩;rw[<-H0];clear H0)
         | (go_at_call 170;refine H6.mono ?_;clear H6;rintro e W3 ⟨rfl,H2⟩;obtain⟨⟨a0,a1,a2,a3,a4,a5,a6⟩,⟨f0,f1,f2,f3,f4,f5,f6⟩,hl3⟩:=zfZ ((H2.block _ Ha).trans H3.o)))
        refine ylZ (v:=.agg #[.int .i64 0,.int .i64 0,.string ⟨#[]⟩,.int .i64 0,.int .i64 0,.int .i64 11,.int .i64 (k:Int)]) (by simp[results, Tryz.results168,go_sem,a0,a1,a2,a3,a4,a5,a6,f0,f1,f2,f3,f4,f5,f6,hl3]) rfl ?_;rw[HR.o];have H7:=Below.chain hb H2;refine⟨rfl,?_⟩
        repeat (first | (with_reducible exact H7) | with_reducible refine BSet ?_ (ybZ _))
       ·have b48:(((s[k]'hk).toNat:Int)==48)=false:=(by simp;omega);clear h48
        go_wp2_with (first
         | (go_at_call 166;refine H1.mono ?_;clear H1;rintro e w' ⟨rfl,H0⟩;rw[<-H0];clear H0)
         | (go_at_call 164;refine H4.mono ?_;clear H4;rintro e w' ⟨rfl,H0⟩;rw[<-H0];clear H0)
         | (go_at_call 165;refine H5.mono ?_;clear H5;rintro e w' ⟨rfl,H0⟩;rw[<-H0];clear H0)
         | (go_at_call 170;refine H6.mono ?_;clear H6;rintro e W3 ⟨rfl,H2⟩;obtain⟨⟨a0,a1,a2,a3,a4,a5,a6⟩,⟨f0,f1,f2,f3,f4,f5,f6⟩,hl3⟩:=zfZ ((H2.block _ Ha).trans H3.o)))
        refine ylZ (v:=.agg #[.int .i64 0,.int .i64 0,.string ⟨#[]⟩,.int .i64 0,.int .i64 0,.int .i64 11,.int .i64 (k:Int)]) (by simp[results, Tryz.results168,go_sem,a0,a1,a2,a3,a4,a5,a6,f0,f1,f2,f3,f4,f5,f6,hl3]) rfl ?_;rw[HR.o];have H7:=Below.chain hb H2;refine⟨rfl,?_⟩
        repeat (first | (with_reducible exact H7) | with_reducible refine BSet ?_ (ybZ _))
      | false=>
       rw[hs1]at H4
       cases hg1:Lx.great (s[m]'hlt)with
       | true=>
        rw[hg1]at H5;have HR:=zh (show Lx.cutNumber k (s.data.toList.drop k)=.bad 11 k by rw[Hb.o,Hk.o,Hj.o,hg1,if_pos];simp);clear hs1 hg1 hUb hU1 H8 hbig;by_cases h48:(s[k]'hk).toNat=48
        ·have b48:(((s[k]'hk).toNat:Int)==48)=true:=(by simp[h48]);have bgt:¬(k:Int)+1<(m:Int):=(by have:=Hd.o;omega);clear h48
         go_wp2_with (first
          | (go_at_call 166;refine H1.mono ?_;clear H1;rintro e w' ⟨rfl,H0⟩;rw[<-H0];clear H0)
          | (go_at_call 164;refine H4.mono ?_;clear H4;rintro e w' ⟨rfl,H0⟩;rw[<-H0];clear H0)
          | (go_at_call 165;refine H5.mono ?_;clear H5;rintro e w' ⟨rfl,H0⟩;rw[<-H0];clear H0)
          | (go_at_call 170;refine H6.mono ?_;clear H6;rintro e W3 ⟨rfl,H2⟩;obtain⟨⟨a0,a1,a2,a3,a4,a5,a6⟩,⟨f0,f1,f2,f3,f4,f5,f6⟩,hl3⟩:=zfZ ((H2.block _ Ha).trans H3.o)))
         refine ylZ (v:=.agg #[.int .i64 0,.int .i64 0,.string ⟨#[]⟩,.int .i64 0,.int .i64 0,.int .i64 11,.int .i64 (k:Int)]) (by simp[results, Tryz.results168,go_sem,a0,a1,a2,a3,a4,a5,a6,f0,f1,f2,f3,f4,f5,f6,hl3]) rfl ?_;rw[HR.o];have H7:=Below.chain hb H2;refine⟨rfl,?_⟩
         repeat (first | (with_reducible exact H7) | with_reducible refine BSet ?_ (ybZ _))
        ·have b48:(((s[k]'hk).toNat:Int)==48)=false:=(by simp;omega);clear h48
         go_wp2_with (first
          | (go_at_call 166;refine H1.mono ?_;clear H1;rintro e w' ⟨rfl,H0⟩;rw[<-H0];clear H0)
          | (go_at_call 164;refine H4.mono ?_;clear H4;rintro e w' ⟨rfl,H0⟩;rw[<-H0];clear H0)
          | (go_at_call 165;refine H5.mono ?_;clear H5;rintro e w' ⟨rfl,H0⟩;rw[<-H0];clear H0)
          | (go_at_call 170;refine H6.mono ?_;clear H6;rintro e W3 ⟨rfl,H2⟩;obtain⟨⟨a0,a1,a2,a3,a4,a5,a6⟩,⟨f0,f1,f2,f3,f4,f5,f6⟩,hl3⟩:=zfZ ((H2.block _ Ha).trans H3.o)))
         refine ylZ (v:=.agg #[.int .i64 0,.int .i64 0,.string ⟨#[]⟩,.int .i64 0,.int .i64 0,.int .i64 11,.int .i64 (k:Int)]) (by simp[results, Tryz.results168,go_sem,a0,a1,a2,a3,a4,a5,a6,f0,f1,f2,f3,f4,f5,f6,hl3]) rfl ?_;rw[HR.o];have H7:=Below.chain hb H2;refine⟨rfl,?_⟩
         repeat (first | (with_reducible exact H7) | with_reducible refine BSet ?_ (ybZ _))
       | false=>
        rw[hg1]at H5;by_cases h95:(s[m]'hlt).toNat=95
        ·have b95:(((s[m]'hlt).toNat:Int)==95)=true:=(by simp[h95]);have HR:=zh (show Lx.cutNumber k (s.data.toList.drop k)=.bad 11 k by rw[Hb.o,Hk.o,Hj.o,h95,if_pos];simp);clear hs1 hg1 hUb hU1 H8 hbig h95;by_cases h48:(s[k]'hk).toNat=48
         ·have b48:(((s[k]'hk).toNat:Int)==48)=true:=(by simp[h48]);have bgt:¬(k:Int)+1<(m:Int):=(by have:=Hd.o;omega);clear h48
          go_wp2_with (first
           | (go_at_call 166;refine H1.mono ?_;clear H1;rintro e w' ⟨rfl,H0⟩;rw[<-H0];clear H0)
           | (go_at_call 164;refine H4.mono ?_;clear H4;rintro e w' ⟨rfl,H0⟩;rw[<-H0];clear H0)
           | (go_at_call 165;refine H5.mono ?_;clear H5;rintro e w' ⟨rfl,H0⟩;rw[<-H0];clear H0)
           | (go_at_call 170;refine H6.mono ?_;clear H6;rintro e W3 ⟨rfl,H2⟩;obtain⟨⟨a0,a1,a2,a3,a4,a5,a6⟩,⟨f0,f1,f2,f3,f4,f5,f6⟩,hl3⟩:=zfZ ((H2.block _ Ha).trans H3.o)))
          refine ylZ (v:=.agg #[.int .i64 0,.int .i64 0,.string ⟨#[]⟩,.int .i64 0,.int .i64 0,.int .i64 11,.int .i64 (k:Int)]) (by simp[results, Tryz.results168,go_sem,a0,a1,a2,a3,a4,a5,a6,f0,f1,f2,f3,f4,f5,f6,hl3]) rfl ?_;rw[HR.o];have H7:=Below.chain hb H2;refine⟨rfl,?_⟩
          repeat (first | (with_reducible exact H7) | with_reducible refine BSet ?_ (ybZ _))
         ·have b48:(((s[k]'hk).toNat:Int)==48)=false:=(by simp;omega);clear h48
          go_wp2_with (first
           | (go_at_call 166;refine H1.mono ?_;clear H1;rintro e w' ⟨rfl,H0⟩;rw[<-H0];clear H0)
           | (go_at_call 164;refine H4.mono ?_;clear H4;rintro e w' ⟨rfl,H0⟩;rw[<-H0];clear H0)
           | (go_at_call 165;refine H5.mono ?_;clear H5;rintro e w' ⟨rfl,H0⟩;rw[<-H0];clear H0)
           | (go_at_call 170;refine H6.mono ?_;clear H6;rintro e W3 ⟨rfl,H2⟩;obtain⟨⟨a0,a1,a2,a3,a4,a5,a6⟩,⟨f0,f1,f2,f3,f4,f5,f6⟩,hl3⟩:=zfZ ((H2.block _ Ha).trans H3.o)))
          refine ylZ (v:=.agg #[.int .i64 0,.int .i64 0,.string ⟨#[]⟩,.int .i64 0,.int .i64 0,.int .i64 11,.int .i64 (k:Int)]) (by simp[results, Tryz.results168,go_sem,a0,a1,a2,a3,a4,a5,a6,f0,f1,f2,f3,f4,f5,f6,hl3]) rfl ?_;rw[HR.o];have H7:=Below.chain hb H2;refine⟨rfl,?_⟩
          repeat (first | (with_reducible exact H7) | with_reducible refine BSet ?_ (ybZ _))
        ·have b95:(((s[m]'hlt).toNat:Int)==95)=false:=by simp;omega
         have HR:=zh (show Lx.cutNumber k (s.data.toList.drop k)=.ok ⟨k,4,[],U⟩ (m-k)by
          have h9:((s[m]'hlt).toNat==95)=false:=(by simpa using h95);rw[Hb.o,Hk.o,Hj.o,hs1,hg1,h9,H8,decide_eq_false hbig]
          rfl)
         clear hs1 hg1 H8 hbig h95;by_cases h48:(s[k]'hk).toNat=48
         ·have b48:(((s[k]'hk).toNat:Int)==48)=true:=(by simp[h48]);have bgt:¬(k:Int)+1<(m:Int):=(by have:=Hd.o;omega);clear h48;obtain⟨⟨p0,p1,p2,p3,p4,p5,p6⟩,⟨g0,g1,g2,g3,g4,g5,g6⟩,hl0⟩:=zfZ H3.o;have Hl:=zh (show IntKind.i64.wrap (U:Int)=(U:Int)by rw[yQZ];omega);have Ho:=zh (decide_eq_false bgt);have Hf:=zh (decide_eq_false bbig);clear hUb hU1
          go_upto_if 74 with(first
           | (go_at_call 166;refine H1.mono ?_;clear H1;rintro e w' ⟨rfl,H0⟩;rw[<-H0];clear H0)
           | (go_at_call 164;refine H4.mono ?_;clear H4;rintro e w' ⟨rfl,H0⟩;rw[<-H0];clear H0)
           | (go_at_call 165;refine H5.mono ?_;clear H5;rintro e w' ⟨rfl,H0⟩;rw[<-H0];clear H0))
          simp only[Hf.o,Ho.o,Bool.or_false];clear bbig bgt;have hUm:=Hl.o;go_wp2_with fail;refine ylZ (v:=.agg #[.int .i64 (k:Int),.int .i64 4,.string ⟨#[]⟩,.int .i64 (U:Int),.int .i64 (m:Int),.int .i64 0,.int .i64 0]) (by simp[results, Tryz.results168,go_sem,p0,p1,p2,p3,p4,p5,p6,g0,g1,g2,g3,g4,g5,g6,hl0]) rfl ?_;rw[HR.o];refine⟨?_,?_⟩
          ·simp only[cutV];rw[show k+(m-k)=m by omega]
          ·repeat (first | (with_reducible exact hb) | (with_reducible refine BSet ?_ (ybZ _)) | (with_reducible refine BSet ?_ hb.size) | (with_reducible refine BAlloc ?_))
         ·have b48:(((s[k]'hk).toNat:Int)==48)=false:=(by simp;omega);clear h48;obtain⟨⟨p0,p1,p2,p3,p4,p5,p6⟩,⟨g0,g1,g2,g3,g4,g5,g6⟩,hl0⟩:=zfZ H3.o;have Hl:=zh (show IntKind.i64.wrap (U:Int)=(U:Int)by rw[yQZ];omega);have Hf:=zh (decide_eq_false bbig);clear hUb hU1
          go_upto_if 74 with(first
           | (go_at_call 166;refine H1.mono ?_;clear H1;rintro e w' ⟨rfl,H0⟩;rw[<-H0];clear H0)
           | (go_at_call 164;refine H4.mono ?_;clear H4;rintro e w' ⟨rfl,H0⟩;rw[<-H0];clear H0)
           | (go_at_call 165;refine H5.mono ?_;clear H5;rintro e w' ⟨rfl,H0⟩;rw[<-H0];clear H0))
          simp only[Hf.o];clear bbig;have hUm:=Hl.o;go_wp2_with fail;refine ylZ (v:=.agg #[.int .i64 (k:Int),.int .i64 4,.string ⟨#[]⟩,.int .i64 (U:Int),.int .i64 (m:Int),.int .i64 0,.int .i64 0]) (by simp[results, Tryz.results168,go_sem,p0,p1,p2,p3,p4,p5,p6,g0,g1,g2,g3,g4,g5,g6,hl0]) rfl ?_;rw[HR.o];refine⟨?_,?_⟩
          ·simp only[cutV];rw[show k+(m-k)=m by omega]
          ·repeat (first | (with_reducible exact hb) | (with_reducible refine BSet ?_ (ybZ _)) | (with_reducible refine BSet ?_ hb.size) | (with_reducible refine BAlloc ?_))
  ·have hi:¬(m:Int)<(s.size:Int):=(by omega);have H9:(s.data.toList.drop k).takeWhile Lx.digit=(s.data.toList.drop k).take (m-k):=(by have e:=HE.o;rw[yNZ (show s.data.toList.length<=m by rw[zhZ];omega)]at e;simpa using e);have He:k<m:=by
    rcases Nat.lt_or_ge k m with h | h
    ·exact h
    ·exfalso;have e:=H9;rw[zkZ s k hk,yFZ,if_pos hl,show m-k=0 from by omega]at e;simp at e
   have Hg:=zjxZ He hm rfl H9;rw[<-HU.o]at Hg;have Hb:=zh Hg;have H6:=zbwZ 11 (k:Int) wr;have Hn:(k:Int)<(s.size:Int):=(by omega);clear Hg H9;by_cases hno:(s[k]'hk).toNat=48/\k+1<m
   ·have b48:(((s[k]'hk).toNat:Int)==48)=true:=(by simp[hno.1]);have bgt:(k:Int)+1<(m:Int):=(by omega);have HR:=zh (show Lx.cutNumber k (s.data.toList.drop k)=.bad 11 k by rw[Hb.o,if_pos];simp[hno.1,hno.2]);clear hno hUb hU1
    go_wp2_with (first
     | (go_at_call 166;refine H1.mono ?_;clear H1;rintro e w' ⟨rfl,H0⟩;rw[<-H0];clear H0)
     | (go_at_call 164;refine H4.mono ?_;clear H4;rintro e w' ⟨rfl,H0⟩;rw[<-H0];clear H0)
     | (go_at_call 165;refine H5.mono ?_;clear H5;rintro e w' ⟨rfl,H0⟩;rw[<-H0];clear H0)
     | (go_at_call 170;refine H6.mono ?_;clear H6;rintro e W3 ⟨rfl,H2⟩;obtain⟨⟨a0,a1,a2,a3,a4,a5,a6⟩,⟨f0,f1,f2,f3,f4,f5,f6⟩,hl3⟩:=zfZ ((H2.block _ Ha).trans H3.o)))
    refine ylZ (v:=.agg #[.int .i64 0,.int .i64 0,.string ⟨#[]⟩,.int .i64 0,.int .i64 0,.int .i64 11,.int .i64 (k:Int)]) (by simp[results, Tryz.results168,go_sem,a0,a1,a2,a3,a4,a5,a6,f0,f1,f2,f3,f4,f5,f6,hl3]) rfl ?_;rw[HR.o];have H7:=Below.chain hb H2;refine⟨rfl,?_⟩
    repeat (first | (with_reducible exact H7) | with_reducible refine BSet ?_ (ybZ _))
   ·have Hd:=zh hno;by_cases hbig:9223372036854775807<U
    ·have bbig:(9223372036854775808:Int)<=(U:Int):=(by omega);have HR:=zh (show Lx.cutNumber k (s.data.toList.drop k)=.bad 11 k by rw[Hb.o,if_pos];simp[hbig]);clear hbig hUb hU1;by_cases h48:(s[k]'hk).toNat=48
     ·have b48:(((s[k]'hk).toNat:Int)==48)=true:=(by simp[h48]);have bgt:¬(k:Int)+1<(m:Int):=(by have:=Hd.o;omega);clear hno h48
      go_wp2_with (first
       | (go_at_call 166;refine H1.mono ?_;clear H1;rintro e w' ⟨rfl,H0⟩;rw[<-H0];clear H0)
       | (go_at_call 164;refine H4.mono ?_;clear H4;rintro e w' ⟨rfl,H0⟩;rw[<-H0];clear H0)
       | (go_at_call 165;refine H5.mono ?_;clear H5;rintro e w' ⟨rfl,H0⟩;rw[<-H0];clear H0)
       | (go_at_call 170;refine H6.mono ?_;clear H6;rintro e W3 ⟨rfl,H2⟩;obtain⟨⟨a0,a1,a2,a3,a4,a5,a6⟩,⟨f0,f1,f2,f3,f4,f5,f6⟩,hl3⟩:=zfZ ((H2.block _ Ha).trans H3.o)))
      refine ylZ (v:=.agg #[.int .i64 0,.int .i64 0,.string ⟨#[]⟩,.int .i64 0,.int .i64 0,.int .i64 11,.int .i64 (k:Int)]) (by simp[results, Tryz.results168,go_sem,a0,a1,a2,a3,a4,a5,a6,f0,f1,f2,f3,f4,f5,f6,hl3]) rfl ?_;rw[HR.o];have H7:=Below.chain hb H2;refine⟨rfl,?_⟩
      repeat (first | (with_reducible exact H7) | with_reducible refine BSet ?_ (ybZ _))
     ·have b48:(((s[k]'hk).toNat:Int)==48)=false:=(by simp;omega);clear hno h48
      go_wp2_with (first
       | (go_at_call 166;refine H1.mono ?_;clear H1;rintro e w' ⟨rfl,H0⟩;rw[<-H0];clear H0)
       | (go_at_call 164;refine H4.mono ?_;clear H4;rintro e w' ⟨rfl,H0⟩;rw[<-H0];clear H0)
       | (go_at_call 165;refine H5.mono ?_;clear H5;rintro e w' ⟨rfl,H0⟩;rw[<-H0];clear H0)
       | (go_at_call 170;refine H6.mono ?_;clear H6;rintro e W3 ⟨rfl,H2⟩;obtain⟨⟨a0,a1,a2,a3,a4,a5,a6⟩,⟨f0,f1,f2,f3,f4,f5,f6⟩,hl3⟩:=zfZ ((H2.block _ Ha).trans H3.o)))
      refine ylZ (v:=.agg #[.int .i64 0,.int .i64 0,.string ⟨#[]⟩,.int .i64 0,.int .i64 0,.int .i64 11,.int .i64 (k:Int)]) (by simp[results, Tryz.results168,go_sem,a0,a1,a2,a3,a4,a5,a6,f0,f1,f2,f3,f4,f5,f6,hl3]) rfl ?_;rw[HR.o];have H7:=Below.chain hb H2;refine⟨rfl,?_⟩
      repeat (first | (with_reducible exact H7) | with_reducible refine BSet ?_ (ybZ _))
    ·have bbig:¬(9223372036854775808:Int)<=(U:Int):=(by omega);have H8:((s[k]'hk).toNat==48&&decide (k+1<m))=false:=by rw[<-Bool.not_eq_true];simp only[ygZ,ytZ,yCZ];exact hno
     have HR:=zh (show Lx.cutNumber k (s.data.toList.drop k)=.ok ⟨k,4,[],U⟩ (m-k)by
      have Ht:s.data.toList.drop m=[]:=yNZ (by rw[zhZ];omega);rw[Hb.o,Ht,H8,decide_eq_false hbig]
      rfl)
     clear hno H8 hbig;by_cases h48:(s[k]'hk).toNat=48
     ·have b48:(((s[k]'hk).toNat:Int)==48)=true:=(by simp[h48]);have bgt:¬(k:Int)+1<(m:Int):=(by have:=Hd.o;omega);clear h48;obtain⟨⟨p0,p1,p2,p3,p4,p5,p6⟩,⟨g0,g1,g2,g3,g4,g5,g6⟩,hl0⟩:=zfZ H3.o;have hUm:IntKind.i64.wrap (U:Int)=(U:Int):=(by rw[yQZ];omega);clear hUb hU1
      go_wp2_with (first
       | (go_at_call 166;refine H1.mono ?_;clear H1;rintro e w' ⟨rfl,H0⟩;rw[<-H0];clear H0)
       | (go_at_call 164;refine H4.mono ?_;clear H4;rintro e w' ⟨rfl,H0⟩;rw[<-H0];clear H0)
       | (go_at_call 165;refine H5.mono ?_;clear H5;rintro e w' ⟨rfl,H0⟩;rw[<-H0];clear H0))
      refine ylZ (v:=.agg #[.int .i64 (k:Int),.int .i64 4,.string ⟨#[]⟩,.int .i64 (U:Int),.int .i64 (m:Int),.int .i64 0,.int .i64 0]) (by simp[results, Tryz.results168,go_sem,p0,p1,p2,p3,p4,p5,p6,g0,g1,g2,g3,g4,g5,g6,hl0]) rfl ?_;rw[HR.o];refine⟨?_,?_⟩
      ·simp only[cutV];rw[show k+(m-k)=m by omega]
      ·repeat (first | (with_reducible exact hb) | (with_reducible refine BSet ?_ (ybZ _)) | (with_reducible refine BSet ?_ hb.size) | (with_reducible refine BAlloc ?_))
     ·have b48:(((s[k]'hk).toNat:Int)==48)=false:=(by simp;omega);clear h48;obtain⟨⟨p0,p1,p2,p3,p4,p5,p6⟩,⟨g0,g1,g2,g3,g4,g5,g6⟩,hl0⟩:=zfZ H3.o;have hUm:IntKind.i64.wrap (U:Int)=(U:Int):=(by rw[yQZ];omega);clear hUb hU1
      go_wp2_with (first
       | (go_at_call 166;refine H1.mono ?_;clear H1;rintro e w' ⟨rfl,H0⟩;rw[<-H0];clear H0)
       | (go_at_call 164;refine H4.mono ?_;clear H4;rintro e w' ⟨rfl,H0⟩;rw[<-H0];clear H0)
       | (go_at_call 165;refine H5.mono ?_;clear H5;rintro e w' ⟨rfl,H0⟩;rw[<-H0];clear H0))
      refine ylZ (v:=.agg #[.int .i64 (k:Int),.int .i64 4,.string ⟨#[]⟩,.int .i64 (U:Int),.int .i64 (m:Int),.int .i64 0,.int .i64 0]) (by simp[results, Tryz.results168,go_sem,p0,p1,p2,p3,p4,p5,p6,g0,g1,g2,g3,g4,g5,g6,hl0]) rfl ?_;rw[HR.o];refine⟨?_,?_⟩
      ·simp only[cutV];rw[show k+(m-k)=m by omega]
      ·repeat (first | (with_reducible exact hb) | (with_reducible refine BSet ?_ (ybZ _)) | (with_reducible refine BSet ?_ hb.size) | (with_reducible refine BAlloc ?_))
end Go.Proofs.YtdncljdfmdgdaaaGreatDoor
