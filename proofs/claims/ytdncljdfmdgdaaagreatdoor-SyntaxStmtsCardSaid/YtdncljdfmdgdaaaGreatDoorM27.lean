/-
  coilref1.skip.
-/
import Derived.Test.YtdncljdfmdgdaaaGreatDoorM26
set_option linter.unusedSimpArgs false
set_option linter.unusedVariables false
set_option maxRecDepth 100000
set_option maxHeartbeats 4000000
namespace Go.Proofs.YtdncljdfmdgdaaaGreatDoor
open Go.RowKit
theorem u8f (c:UInt8) (n:Nat) (h:¬c.toNat=n):((c.toNat:Int)==(n:Int))=false:=by simp;omega
theorem u8t (c:UInt8) (n:Nat) (h:c.toNat=n):((c.toNat:Int)==(n:Int))=true:=by simp[h]
theorem znuZ (s:ByteArray) (k:Nat) (w:World) (hk:k<=s.size) (hs:s.size<=140737488351232) :
  Calls Tryz.prog 150 #[.string s,.int .i64 (k:Int)] w fun e w'=>e=.returned (.int .i64 (skipAt s k:Nat))/\w'=w:=by
 have Hb:(s.size:Int)<=140737488351232:=by omega
 go_enter Tryz.func150, Tryz.ntmps150
 go_wp2
 go_loopg [1] (s.size-k) (fun n v wr=>∃m:Nat,n=s.size-m/\v=.int .i64 (m:Int)/\m<=s.size/\Lx.skip false (s.data.toList.drop m)=Lx.skip false (s.data.toList.drop k)/\wr=w)
 case atStart=>exact⟨k,rfl,rfl,hk,rfl,rfl⟩
 case round=>
  obtain⟨m,hn,rfl,hm,he,rfl⟩:=hrel;obtain⟨g0,hg0⟩:∃g0,g0=gk:=⟨_,rfl⟩;have HE:=zh he;have HN:Hid (g0=s.size-m):=(by rw[hg0];exact hn);subst hg0;clear he hn;have Hf:(0:Int)<=(m:Int):=(by omega);by_cases hlt:m<s.size
  ·have hi:(m:Int)<(s.size:Int):=(by omega);have HD:=zh (zkZ s m hlt);obtain⟨c,hc⟩:=zE (s[m]'hlt);rw[hc]at HD;have H0:Lx.blank c=true->Lx.skip false (s.data.toList.drop (m+1))=Lx.skip false (s.data.toList.drop k):=fun h=>(by have e:=HE.o;rw[HD.o,Lx.skip_blank h]at e;exact e);by_cases h9:c.toNat=9
   ·have b9:((c.toNat:Int)==9)=true:=u8t c 9 h9;have HB:=zh (H0 (by simp[Lx.blank,h9]));clear H0 h9;go_wp2;go_roundg (s.size-(m+1))
    case measure=>have:=HN.o;omega
    case rel=>exact⟨m+1,rfl,by simp,hlt,HB.o,rfl⟩
   ·have b9:((c.toNat:Int)==9)=false:=u8f c 9 h9;by_cases h10:c.toNat=10
    ·have b10:((c.toNat:Int)==10)=true:=u8t c 10 h10;have HB:=zh (H0 (by simp[Lx.blank,h10]));clear H0 h9 h10;go_wp2;go_roundg (s.size-(m+1))
     case measure=>have:=HN.o;omega
     case rel=>exact⟨m+1,rfl,by simp,hlt,HB.o,rfl⟩
    ·have b10:((c.toNat:Int)==10)=false:=u8f c 10 h10;by_cases h13:c.toNat=13
     ·have b13:((c.toNat:Int)==13)=true:=u8t c 13 h13;have HB:=zh (H0 (by simp[Lx.blank,h13]));clear H0 h9 h10 h13;go_wp2;go_roundg (s.size-(m+1))
      case measure=>have:=HN.o;omega
      case rel=>exact⟨m+1,rfl,by simp,hlt,HB.o,rfl⟩
     ·have b13:((c.toNat:Int)==13)=false:=u8f c 13 h13;by_cases h32:c.toNat=32
      ·have b32:((c.toNat:Int)==32)=true:=u8t c 32 h32;have HB:=zh (H0 (by simp[Lx.blank,h32]));clear H0 h9 h10 h13 h32;go_wp2;go_roundg (s.size-(m+1))
       case measure=>have:=HN.o;omega
       case rel=>exact⟨m+1,rfl,by simp,hlt,HB.o,rfl⟩
      ·have b32:((c.toNat:Int)==32)=false:=u8f c 32 h32;have H2:Lx.blank c=false:=(by simp[Lx.blank,h9,h10,h13,h32]);have H1:¬(c.toNat=47/\(s.data.toList.drop (m+1)).head? =some 47)->skipAt s k=m:=fun h=>(by have e:=HE.o;rw[HD.o,Lx.skip_stays H2 h,<-HD.o]at e;exact zjmZ e.symm hm);by_cases h47:c.toNat=47
       ·have n47:((c.toNat:Int) != 47)=false:=(by simp[h47]);by_cases hend:m+1=s.size
        ·have be:((m:Int)+1==(s.size:Int))=true:=by simp;omega
         have HS:=zh (H1 (by
          rintro⟨_,h⟩;rw[yNZ (by rw[zhZ];omega)]at h
          cases h))
         clear H0 H1 h9 h10 h13 h32 H2 h47 hend;go_wp2;go_ret;rw[HS.o];exact⟨rfl,rfl⟩
        ·have be:((m:Int)+1==(s.size:Int))=false:=(by simp;omega);have H3:m+1<s.size:=(by omega);have Hd:(m:Int)+1<(s.size:Int):=(by omega);have Hc:(0:Int)<=(m:Int)+1:=(by omega);have H6:=zh (zkZ s (m+1) H3);obtain⟨d,hd⟩:=zE (s[m+1]'H3);rw[hd]at H6;by_cases d47:d.toNat=47
         ·have nd:((d.toNat:Int) != 47)=false:=(by simp[d47]);have H7:d=47:=ybbZ.1 d47
          have HR:=zh (show Lx.skip true (s.data.toList.drop m)=Lx.skip false (s.data.toList.drop k)by
           have e:=HE.o;rw[HD.o,Lx.skip_remark H2 h47 (by rw[H6.o,H7];rfl)]at e;rw[HD.o,Lx.skip_within (by omega)]
           exact e)
          have H8:=zh h47;have HC:=zh hc;clear H0 H1 h9 h10 h13 h32 H2 h47 hend d47 H7;go_wp2;go_loopg [1] (s.size-m) (fun n v wq=>∃p:Nat,n=s.size-p/\v=.int .i64 (p:Int)/\m<=p/\p<=s.size/\Lx.skip true (s.data.toList.drop p)=Lx.skip false (s.data.toList.drop k)/\wq=wr)
          case atStart=>exact⟨m,rfl,rfl,ybZ _,hm,HR.o,rfl⟩
          case round=>
           obtain⟨p,hn2,rfl,hmp,hp,he2,rfl⟩:=hrel;have H5:=zh he2;have H9:=zh hn2;clear he2 hn2;have He:(0:Int)<=(p:Int):=(by omega);by_cases hlp:p<s.size
           ·have Ha:(p:Int)<(s.size:Int):=(by omega);have H4:=zh (zkZ s p hlp);obtain⟨x,hx⟩:=zE (s[p]'hlp);rw[hx]at H4;by_cases x10:x.toNat=10
            ·have nx:((x.toNat:Int) != 10)=false:=(by simp[x10]);have Hg:m<p:=by
              rcases Nat.lt_or_ge m p with h | h
              ·exact h
              ·exfalso;have:p=m:=(by omega);subst this;have e1:=HC.o;rw[hx]at e1;have e2:=H8.o;rw[<-e1]at e2;omega
             have HB:=zh (show Lx.skip false (s.data.toList.drop p)=Lx.skip false (s.data.toList.drop k)by
              have e:=H5.o;rw[H4.o,Lx.skip_out x10,<-H4.o]at e
              exact e)
             clear x10;go_wp2;go_roundg (s.size-p)
             case measure=>have:=HN.o;omega
             case rel=>exact⟨p,rfl,rfl,hp,HB.o,rfl⟩
            ·have nx:((x.toNat:Int) != 10)=true:=by simp;omega
             have HB:=zh (show Lx.skip true (s.data.toList.drop (p+1))=Lx.skip false (s.data.toList.drop k)by
              have e:=H5.o;rw[H4.o,Lx.skip_within x10]at e
              exact e)
             clear x10;go_wp2;go_roundg (s.size-(p+1))
             case measure=>have:=H9.o;omega
             case rel=>exact⟨p+1,rfl,by simp,by omega,hlp,HB.o,rfl⟩
           ·have Ha:¬(p:Int)<(s.size:Int):=by omega
            have HB:=zh (show Lx.skip false (s.data.toList.drop p)=Lx.skip false (s.data.toList.drop k)by
             have e:=H5.o;rw[yNZ (by rw[zhZ];omega)]at e ⊢;rw[Lx.skip_end]at e ⊢
             exact e)
            go_wp2
            go_roundg (s.size-p)
            case measure=>have:=HN.o;omega
            case rel=>exact⟨p,rfl,rfl,hp,HB.o,rfl⟩
         ·have nd:((d.toNat:Int) != 47)=true:=by simp;omega
          have HS:=zh (H1 (by
           rintro⟨_,h⟩;rw[H6.o]at h;injection h with h;subst h
           exact d47 rfl))
          clear H0 H1 h9 h10 h13 h32 H2 h47 hend d47;go_wp2;go_ret;rw[HS.o];exact⟨rfl,rfl⟩
       ·have n47:((c.toNat:Int) != 47)=true:=(by simp;omega);have HS:=zh (H1 (fun h=>h47 h.1));clear H0 H1 h9 h10 h13 h32 H2 h47;go_wp2;go_ret;rw[HS.o];exact⟨rfl,rfl⟩
  ·have hi:¬(m:Int)<(s.size:Int):=by omega
   have HS:=zh (show skipAt s k=m from zjmZ (by
    rw[<-HE.o,yNZ (by rw[zhZ];omega)]
    exact Lx.skip_end _) hm)
   go_wp2
   go_ret;rw[HS.o];exact⟨rfl,rfl⟩
theorem zvzZ {c:UInt8} (h:c.toNat=10):Lx.esc c=[92,110]:=by simp[Lx.esc,h]
theorem ztqZ {c:UInt8} (h:¬c.toNat=10) (h2:c.toNat=34\/c.toNat=92):Lx.esc c=[92,c]:=by
 simp only[Lx.esc,ytZ,h,yXZ,yKZ,h2,ycbZ]
theorem zqrZ {c:UInt8} (h:¬c.toNat=10) (h2:¬(c.toNat=34\/c.toNat=92)):Lx.esc c=[c]:=by
 simp only[Lx.esc,ytZ,h,yXZ,yKZ,h2]
theorem zorZ {s:ByteArray} {m:Nat} (hlt:m<s.size) {l:Lx.Bytes} (hl:l=34::Lx.quoteIn (s.data.toList.take m)):34::Lx.quoteIn (s.data.toList.take (m+1))=l++Lx.esc (s[m]'hlt):=by
 rw[zexZ s m hlt,Lx.quoteIn_append,hl];have e:Lx.quoteIn [s[m]'hlt]=Lx.esc (s[m]'hlt):=by rw[Lx.quoteIn_cons];simp[Lx.quoteIn]
 rw[e];rfl
theorem zcvZ (a b:ByteArray):(a++b).data.toList=a.data.toList++b.data.toList:=by rw[ByteArray.data_append];simp
theorem zosZ {s A:ByteArray} {m:Nat} (hm:m<=s.size) (hA:A.data.toList=34::Lx.quoteIn (s.data.toList.take m)):A.size<=2 * m+1:=by
 rw[<-zhZ,hA,yhZ];have:=Lx.quoteIn_len (s.data.toList.take m);rw[yUZ,zhZ]at this;omega
theorem zhuZ (s:ByteArray) (w:World) (hs:s.size<=4000000) :
  Calls Tryz.prog 77 #[.string s] w fun e w'=>e=.returned (.string ⟨(Lx.quote s.data.toList).toArray⟩)/\w'=w:=by
 have H1:(s.size:Int)<=4000000:=by omega
 go_enter Tryz.func77, Tryz.ntmps77
 go_wp2
 go_loopg [3,4] (s.size) (fun n v u wr=>∃(m:Nat) (A:ByteArray),n=s.size-m/\v=.string A/\u=.int .i64 (m:Int)/\m<=s.size/\A.data.toList=34::Lx.quoteIn (s.data.toList.take m)/\wr=w)
 case atStart=>exact⟨0,⟨#[34]⟩,rfl,rfl,rfl,yxZ _,by simp[Lx.quoteIn],rfl⟩
 case round=>
  obtain⟨m,A,hn,rfl,rfl,hm,hA,rfl⟩:=hrel;have HN:=zh hn;have HA:=zh hA;have hAs:=zosZ hm hA;have hAi:(A.size:Int)<=8000001:=(by omega);clear hn hA hAs;have H2:(0:Int)<=(m:Int):=(by omega);have H3:(m:Int)<=4000000:=(by omega);by_cases hlt:m<s.size
  ·have hi:(m:Int)<(s.size:Int):=(by omega);have H4:(m:Int)+1<=(s.size:Int):=(by omega);have HE:=zh (zorZ hlt HA.o);obtain⟨B,hB⟩:∃B:ByteArray,s.extract m (m+1)=B:=⟨_,rfl⟩;have hBd:B.data.toList=[s[m]'hlt]:=(by rw[<-hB,zbsZ,zkZ s m hlt,show m+1-m=1 by omega];rfl);have hBs:(B.size:Int)=1:=(by rw[<-zhZ,hBd];rfl);have H0:=zh hBd;clear hBd;by_cases h10:(s[m]'hlt).toNat=10
   ·have b10:=u8t _ 10 h10;have HF:=zh (HE.o.trans (by rw[zvzZ h10]));clear h10;go_wp2;go_roundg (s.size-(m+1))
    case measure=>have:=HN.o;omega
    case rel=>exact⟨m+1,_,rfl,rfl,by simp,hlt,by rw[zcvZ,HF.o,HA.o],rfl⟩
   ·have b10:=u8f _ 10 h10;by_cases hq:(s[m]'hlt).toNat=34\/(s[m]'hlt).toNat=92
    ·have HF:=zh (HE.o.trans (by rw[ztqZ h10 hq]));by_cases h34:(s[m]'hlt).toNat=34
     ·have b34:=u8t _ 34 h34;clear h10 hq h34;go_wp2;go_roundg (s.size-(m+1))
      case measure=>have:=HN.o;omega
      case rel=>exact⟨m+1,_,rfl,rfl,by simp,hlt,by rw[zcvZ,zcvZ,HF.o,HA.o,H0.o];simp,rfl⟩
     ·have b34:=u8f _ 34 h34;have b92:=u8t _ 92 (by omega:(s[m]'hlt).toNat=92);clear h10 hq h34;go_wp2;go_roundg (s.size-(m+1))
      case measure=>have:=HN.o;omega
      case rel=>exact⟨m+1,_,rfl,rfl,by simp,hlt,by rw[zcvZ,zcvZ,HF.o,HA.o,H0.o];simp,rfl⟩
    ·have HF:=zh (HE.o.trans (by rw[zqrZ h10 hq]));have b34:=u8f _ 34 (by omega:¬(s[m]'hlt).toNat=34);have b92:=u8f _ 92 (by omega:¬(s[m]'hlt).toNat=92);clear h10 hq;go_wp2;go_roundg (s.size-(m+1))
     case measure=>have:=HN.o;omega
     case rel=>exact⟨m+1,_,rfl,rfl,by simp,hlt,by rw[zcvZ,HF.o,HA.o,H0.o],rfl⟩
  ·have hi:¬(m:Int)<(s.size:Int):=by omega
   have HQ:=zh (show(A++⟨#[34]⟩:ByteArray)=⟨(Lx.quote s.data.toList).toArray⟩by
    apply ByteArray.ext;rw[ByteArray.data_append];apply Array.toList_inj.1;rw[Array.toList_append,HA.o,yjZ (by rw[zhZ];omega)]
    rfl)
   go_wp2
   go_ret;rw[HQ.o];exact⟨rfl,rfl⟩
end Go.Proofs.YtdncljdfmdgdaaaGreatDoor
namespace Go.Proofs.YtdncljdfmdgdaaaGreatDoor
open Go.RowKit Go.Shelf
theorem zgoZ (k:Int) (w:World) (h1:1<=k) (h2:k<=21) :
  Calls Tryz.prog 80 #[.int .i64 k] w fun e w'=>e=.returned (.int .i64 (Sx.level k:Nat))/\w=w':=by
 have hk:k=1\/k=2\/k=3\/k=4\/k=5\/k=6\/k=7\/k=8\/k=9\/k=10\/k=11\/k=12\/k=13\/k=14\/k=15\/k=16\/k=17\/k=18\/k=19\/k=20\/k=21:=by omega
 clear h1 h2;rcases hk with rfl | rfl | rfl | rfl | rfl | rfl | rfl | rfl | rfl | rfl | rfl | rfl | rfl | rfl | rfl | rfl | rfl | rfl | rfl | rfl | rfl
 all_goals
  go_enter Tryz.func80, Tryz.ntmps80
  go_wp2
  go_ret;exact⟨rfl,rfl⟩
theorem zlzZ (k:Int) (w:World) (h1:15<=k) (h2:k<=21) :
  Calls Tryz.prog 81 #[.int .i64 k] w fun e w'=>e=.returned (.string ⟨(Sx.sign k).toArray⟩)/\w=w':=by
 have hk:k=15\/k=16\/k=17\/k=18\/k=19\/k=20\/k=21:=by omega
 clear h1 h2;rcases hk with rfl | rfl | rfl | rfl | rfl | rfl | rfl
 all_goals
  go_enter Tryz.func81, Tryz.ntmps81
  go_wp2
  go_ret;exact⟨rfl,rfl⟩
theorem zqsZ (k:Int) (w:World) (h1:1<=k) (h2:k<=21) :
  Calls Tryz.prog 75 #[.int .i64 k] w fun e w'=>e=.returned (.bool (Sx.flat k))/\w=w':=by
 have hk:k=1\/k=2\/k=3\/k=4\/k=5\/k=6\/k=7\/k=8\/k=9\/k=10\/k=11\/k=12\/k=13\/k=14\/k=15\/k=16\/k=17\/k=18\/k=19\/k=20\/k=21:=by omega
 clear h1 h2;rcases hk with rfl | rfl | rfl | rfl | rfl | rfl | rfl | rfl | rfl | rfl | rfl | rfl | rfl | rfl | rfl | rfl | rfl | rfl | rfl | rfl | rfl
 all_goals
  go_enter Tryz.func75, Tryz.ntmps75
  go_wp2
  go_ret;exact⟨rfl,rfl⟩
theorem zmaZ (W:World) (c:UInt8):(convert 98 9 (.slice (some ⟨W.heap.size,0,none⟩) 1 1)).run Tryz.prog (W.alloc (.cells #[.int .u8 (c.toNat:Int)] 5))=.ok (.string ⟨#[c]⟩) (W.alloc (.cells #[.int .u8 (c.toNat:Int)] 5)):=
 zdpZ (zwuZ W W.heap.size c (ybZ _))
theorem zwaZ {X W:World} {c:UInt8} (h:LW (X.alloc (.cells #[.int .u8 (c.toNat:Int)] 5)).drew W):(convert 98 9 (.slice (some ⟨X.heap.size,0,none⟩) 1 1)).run Tryz.prog W=.ok (.string ⟨#[c]⟩) W:=by
 refine zdpZ (base:=X.heap.size) (l:=[c]) ⟨rfl,.inr ⟨X.heap.size,1,#[.int .u8 (c.toNat:Int)],rfl,ybZ _,?_,ybZ _,by unfold maxLen;omega,rfl,rfl⟩⟩;exact(h.b.block _ (by show X.heap.size<(X.alloc _).heap.size;simp)).trans (ydZ X _)
theorem zjwZ:∀(n:Nat) (w:World),n<=9223372036854775807->GL w->NG<=w.heap.size->
  Calls Tryz.prog 76 #[.int .i64 n] w fun e w'=>e=.returned (.string ⟨(Lib.decDigits n).toArray⟩)/\LW w w':=by
 intro n
 induction n using Nat.strongRecOn with
 | _ n ih=>
  intro w hn hG hN;have H0:=LW.refl hG hN;by_cases hlt:n<10
  ·have hi:(n:Int)<10:=(by omega);have hd:Lib.decDigits n=[UInt8.ofNat (48+n)]:=Lib.decDigits_one hlt;obtain⟨c,hc⟩:∃c:UInt8,UInt8.ofNat (48+n)=c:=⟨_,rfl⟩;have H6:(48:Int)+(n:Int)=(c.toNat:Int):=(by rw[<-hc,UInt8.toNat_ofNat'];omega);rw[hd,hc];have H9:=fun W=>zmaZ W c;clear hd hc ih;go_enter Tryz.func76, Tryz.ntmps76;go_wp2;go_ret;exact⟨rfl,H0.alloc _⟩
  ·have hi:¬(n:Int)<10:=(by omega);have hd:=Lx.decDigits_step n (by omega);obtain⟨c,hc⟩:∃c:UInt8,UInt8.ofNat (48+n % 10)=c:=⟨_,rfl⟩;have H6:(48:Int)+(n:Int) % 10=(c.toNat:Int):=(by rw[<-hc,UInt8.toNat_ofNat'];omega);have H5:(n:Int).tmod 10=(n:Int) % 10:=(by rw[Int.tmod_eq_emod_of_nonneg (by omega)]);have He:c.toNat<256:=c.toNat_lt;have Ha:IntKind.i64.wrap (c.toNat:Int)=(c.toNat:Int):=(by rw[yQZ];omega);have Hc:IntKind.u8.wrap (c.toNat:Int)=(c.toNat:Int):=(by rw[IntKind.wrap_u8];omega);have H3:(Lib.decDigits (n / 10)).length<=20:=(by rw[Lib.decDigits_length];have:=nD_le 19 (n / 10) (by omega);omega);have H1:∀W,LW w W->Calls Tryz.prog 76 #[.int .i64 ((n / 10:Nat):Int)] W fun e W'=>e=.returned (.string ⟨(Lib.decDigits (n / 10)).toArray⟩)/\LW W W':=fun W h=>ih (n / 10) (by omega) W (by omega) h.g h.n;obtain⟨B,hB⟩:∃B:ByteArray,(⟨(Lib.decDigits (n / 10)).toArray⟩:ByteArray)=B:=⟨_,rfl⟩;have hBs:(B.size:Int)<=20:=(by rw[<-hB];show(((Lib.decDigits (n / 10)).length:Nat):Int)<=20;omega);have H2:(⟨(Lib.decDigits n).toArray⟩:ByteArray)=B++⟨#[c]⟩:=(by rw[hd,hc,<-hB];apply ByteArray.ext;rw[ByteArray.data_append];simp);rw[H2];rw[hB]at H1;have H9:=fun W=>zmaZ W c;obtain⟨k,hk⟩:=zE (n / 10);have Hb:IntKind.i64.wrap ((n:Int) / 10)=(k:Int):=(by rw[yQZ];omega);rw[hk]at H1;clear hk;clear hd hc ih H3 hB H2;go_enter Tryz.func76, Tryz.ntmps76;go_wp2;have H4:(convert 98 9 (.slice (some ⟨w.heap.size,0,none⟩) 1 1)).run Tryz.prog (w.alloc (.cells #[.int .u8 (c.toNat:Int)] 5)).drew=.ok (.string ⟨#[c]⟩) (w.alloc (.cells #[.int .u8 (c.toNat:Int)] 5)).drew:=zmaZ w.drew c;have HD:LW w w.drew:=H0.drewN 1;have HA:LW w (w.alloc (.cells #[.int .u8 (c.toNat:Int)] 5)).drew:=HD.alloc _;have H8:=H1 _ HD;have H7:=H1 _ HA;clear H1
   go_region_with (first
    | (go_at_call 76;with_reducible refine H8.mono ?_;rintro e W5 ⟨rfl,h5⟩;have h6:=HD.trans h5)
    | (go_at_call 76;with_reducible refine H7.mono ?_;rintro e W5 ⟨rfl,h5⟩;have h6:=HA.trans h5;have Hd:=zwaZ (X:=w) h5))
   all_goals
    go_wp2
    go_ret;exact⟨rfl,by first | exact h6 | exact h6.alloc _⟩
end Go.Proofs.YtdncljdfmdgdaaaGreatDoor
namespace Go.Proofs.YtdncljdfmdgdaaaGreatDoor
mutual
def Sx.fitsX:Sx.Ex->Prop
 | .mk _ _ _ s t ns ps=>s.length<=140737488351232/\ns.length<=140737488351232/\(∀s∈ns,s.length<=140737488351232)/\t.length<=140737488351232/\Sx.fitsL t/\ps.length<=140737488351232/\Sx.fitsXs ps
def Sx.fitsXs:List Sx.Ex->Prop
 | []=>True
 | t::l=>Sx.fitsX t/\Sx.fitsXs l
end
theorem Sx.fitsXs_mem:∀ {l:List Sx.Ex} {t:Sx.Ex},Sx.fitsXs l->t∈l->Sx.fitsX t
 | u::l,t,h,hm=>by
  rw[Sx.fitsXs]at h;rcases yTZ.1 hm with rfl | hm
  ·exact h.1
  ·exact Sx.fitsXs_mem h.2 hm
theorem Sx.fitsXs_of:∀ {l:List Sx.Ex},(∀t∈l,Sx.fitsX t)->Sx.fitsXs l
 | [],h=>by rw[Sx.fitsXs];trivial
 | t::l,h=>by rw[Sx.fitsXs];exact⟨h t ysZ,Sx.fitsXs_of fun u hu=>h u (ywZ _ hu)⟩
theorem Sx.fitsX_parts {t:Sx.Ex} (h:Sx.fitsX t):t.s.length<=140737488351232/\t.names.length<=140737488351232/\(∀s∈t.names,s.length<=140737488351232)/\t.t.length<=140737488351232/\(∀p∈t.t,Sx.fits p)/\t.parts.length<=140737488351232/\∀p∈t.parts,Sx.fitsX p:=by
 cases t;rw[Sx.fitsX]at h;obtain⟨a,b,c,d,e,f,g⟩:=h;exact⟨a,b,c,d,fun p hp=>Sx.fitsL_mem e hp,f,fun p hp=>Sx.fitsXs_mem g hp⟩
mutual
def Sx.fitsS:Sx.St->Prop
 | .mk _ _ nm t x b e=>nm.length<=140737488351232/\t.length<=140737488351232/\Sx.fitsL t/\x.length<=140737488351232/\Sx.fitsXs x/\(b.length<=140737488351232/\Sx.fitsSs b)/\(e.length<=140737488351232/\Sx.fitsSs e)
def Sx.fitsSs:List Sx.St->Prop
 | []=>True
 | t::l=>Sx.fitsS t/\Sx.fitsSs l
end
theorem Sx.fitsSs_mem:∀ {l:List Sx.St} {t:Sx.St},Sx.fitsSs l->t∈l->Sx.fitsS t
 | u::l,t,h,hm=>by
  rw[Sx.fitsSs]at h;rcases yTZ.1 hm with rfl | hm
  ·exact h.1
  ·exact Sx.fitsSs_mem h.2 hm
theorem Sx.fitsSs_of:∀ {l:List Sx.St},(∀t∈l,Sx.fitsS t)->Sx.fitsSs l
 | [],h=>by rw[Sx.fitsSs];trivial
 | t::l,h=>by rw[Sx.fitsSs];exact⟨h t ysZ,Sx.fitsSs_of fun u hu=>h u (ywZ _ hu)⟩
theorem Sx.fitsS_parts {t:Sx.St} (h:Sx.fitsS t):t.name.length<=140737488351232/\t.t.length<=140737488351232/\(∀p∈t.t,Sx.fits p)/\t.x.length<=140737488351232/\(∀p∈t.x,Sx.fitsX p)/\(t.body.length<=140737488351232/\Sx.fitsSs t.body)/\(t.els.length<=140737488351232/\Sx.fitsSs t.els):=by
 cases t;rw[Sx.fitsS]at h;obtain⟨a,b,c,d,e,f,g⟩:=h;exact⟨a,b,fun p hp=>Sx.fitsL_mem c hp,d,fun p hp=>Sx.fitsXs_mem e hp,f,g⟩
theorem Sx.sizeXs_append:∀(l m:List Sx.Ex),Sx.sizeXs (l++m)=Sx.sizeXs l+Sx.sizeXs m
 | [],m=>by simp[Sx.sizeXs]
 | t::l,m=>by rw[yHZ,Sx.sizeXs,Sx.sizeXs,Sx.sizeXs_append l m];omega
theorem Sx.sizeX_take {l:List Sx.Ex} {m:Nat} (h:m<l.length):Sx.sizeXs (l.take (m+1))=Sx.sizeXs (l.take m)+Sx.sizeX l[m]:=by
 rw[ykZ h,Sx.sizeXs_append];simp[Sx.sizeXs]
theorem Sx.sizeSs_append:∀(l m:List Sx.St),Sx.sizeSs (l++m)=Sx.sizeSs l+Sx.sizeSs m
 | [],m=>by simp[Sx.sizeSs]
 | t::l,m=>by rw[yHZ,Sx.sizeSs,Sx.sizeSs,Sx.sizeSs_append l m];omega
theorem Sx.sizeS_take {l:List Sx.St} {m:Nat} (h:m<l.length):Sx.sizeSs (l.take (m+1))=Sx.sizeSs (l.take m)+Sx.sizeS l[m]:=by
 rw[ykZ h,Sx.sizeSs_append];simp[Sx.sizeSs]
end Go.Proofs.YtdncljdfmdgdaaaGreatDoor
