/-
  coilref1's functions of one byte.
-/
import Derived.Test.YtdncljdfmdgdaaaGreatDoorM1
import Derived.Test.YtdncljdfmdgdaaaGreatDoorM24
import Derived.Test.YtdncljdfmdgdaaaGreatDoorM5
import Derived.Test.YtdncljdfmdgdaaaGreatDoorM6
set_option linter.unusedSimpArgs false
set_option linter.unusedVariables false
set_option maxRecDepth 100000
set_option maxHeartbeats 4000000
namespace Go.Proofs.YtdncljdfmdgdaaaGreatDoor
open Go.RowKit
theorem zbyZ (b:UInt8) (w:World):Calls Tryz.prog 164 #[.int .u8 (b.toNat:Int)] w fun e w'=>e=.returned (.bool (Lx.small b))∧w=w':=by
 go_enter Tryz.func164, Tryz.ntmps164
 go_wp2
 all_goals
  go_ret
  refine⟨zbdZ ?_,rfl⟩
  rw[Bool.eq_iff_iff]
  simp[Lx.small]
  omega
theorem zbnZ (b:UInt8) (w:World):Calls Tryz.prog 165 #[.int .u8 (b.toNat:Int)] w fun e w'=>e=.returned (.bool (Lx.great b))∧w=w':=by
 go_enter Tryz.func165, Tryz.ntmps165
 go_wp2
 all_goals
  go_ret
  refine⟨zbdZ ?_,rfl⟩
  rw[Bool.eq_iff_iff]
  simp[Lx.great]
  omega
theorem zbsZ (b:UInt8) (w:World):Calls Tryz.prog 166 #[.int .u8 (b.toNat:Int)] w fun e w'=>e=.returned (.bool (Lx.digit b))∧w=w':=by
 go_enter Tryz.func166, Tryz.ntmps166
 go_wp2
 all_goals
  go_ret
  refine⟨zbdZ ?_,rfl⟩
  rw[Bool.eq_iff_iff]
  simp[Lx.digit]
  omega
theorem zmpZ (b:UInt8) (w:World):Calls Tryz.prog 123 #[.int .u8 (b.toNat:Int)] w fun e w'=>e=.returned (.bool (Lx.saidB b))∧w=w':=by
 go_enter Tryz.func123, Tryz.ntmps123
 go_wp2
 all_goals
  go_ret
  refine⟨zbdZ ?_,rfl⟩
  rw[Bool.eq_iff_iff]
  simp[Lx.saidB]
  omega
def plainB (c:UInt8):Bool:=decide (32≤c.toNat)&&(decide (c.toNat≤126)&&(!(c.toNat==34)&&!(c.toNat==92)))
theorem zsgZ (b:UInt8) (w:World):Calls Tryz.prog 182 #[.int .u8 (b.toNat:Int)] w fun e w'=>e=.returned (.bool (plainB b))∧w=w':=by
 go_enter Tryz.func182, Tryz.ntmps182
 go_wp2
 all_goals
  go_ret
  refine⟨zbdZ ?_,rfl⟩
  rw[Bool.eq_iff_iff]
  simp[plainB]
  omega
theorem zgtZ (b:UInt8) (w:World):Calls Tryz.prog 180 #[.int .u8 (b.toNat:Int)] w fun e w'=>e=.returned (.bool (Lx.within b))∧w=w':=by
 go_enter Tryz.func180, Tryz.ntmps180
 cases hs:Lx.small b <;> cases hg:Lx.great b <;> cases hd:Lx.digit b
 all_goals
  have HW:=zh (show Lx.within b=((Lx.small b||Lx.great b)||Lx.digit b||b.toNat==95)from rfl)
  rw[hs,hg,hd]at HW
  go_wp2_with (first
   | (go_at_call 164;refine(zbyZ _ _).mono ?_;rw[hs];rintro e w' ⟨rfl,rfl⟩)
   | (go_at_call 165;refine(zbnZ _ _).mono ?_;rw[hg];rintro e w' ⟨rfl,rfl⟩)
   | (go_at_call 166;refine(zbsZ _ _).mono ?_;rw[hd];rintro e w' ⟨rfl,rfl⟩))
  go_ret
  refine⟨zbdZ ?_,rfl⟩
  rw[HW.o]
  first | rfl | (rw[Bool.eq_iff_iff];simp;try omega)
theorem u8f (c:UInt8) (n:Nat) (h:¬c.toNat=n):((c.toNat:Int)==(n:Int))=false:=by simp;omega
theorem u8t (c:UInt8) (n:Nat) (h:c.toNat=n):((c.toNat:Int)==(n:Int))=true:=by simp[h]
theorem zmqZ (s:ByteArray) (k:Nat) (w:World) (hk:k≤s.size) (hs:s.size≤140737488351232) :
  Calls Tryz.prog 150 #[.string s,.int .i64 (k:Int)] w fun e w'=>e=.returned (.int .i64 (skipAt s k:Nat))∧w'=w:=by
 have Hc:(s.size:Int)≤140737488351232:=by omega
 go_enter Tryz.func150, Tryz.ntmps150
 go_wp2
 go_loopg [1] (s.size-k) (fun n v wr=>∃m:Nat,n=s.size-m∧v=.int .i64 (m:Int)∧m≤s.size∧Lx.skip false (s.data.toList.drop m)=Lx.skip false (s.data.toList.drop k)∧wr=w)
 case atStart=>exact⟨k,rfl,rfl,hk,rfl,rfl⟩
 case round=>
  obtain⟨m,hn,rfl,hm,he,rfl⟩:=hrel
  obtain⟨g0,hg0⟩:∃g0,g0=gk:=⟨_,rfl⟩
  have HE:=zh he
  have HN:Hid (g0=s.size-m):=by rw[hg0];exact hn
  subst hg0
  clear he hn
  have Hd:(0:Int)≤(m:Int):=by omega
  by_cases hlt:m<s.size
  ·have hi:(m:Int)<(s.size:Int):=by omega
   have HD:=zh (zlZ s m hlt)
   obtain⟨c,hc⟩:=zE (s[m]'hlt)
   rw[hc]at HD
   have H0:Lx.blank c=true→Lx.skip false (s.data.toList.drop (m+1))=Lx.skip false (s.data.toList.drop k):=fun h=>by
    have e:=HE.o
    rw[HD.o,Lx.skip_blank h]at e
    exact e
   by_cases h9:c.toNat=9
   ·have b9:((c.toNat:Int)==9)=true:=u8t c 9 h9
    have HB:=zh (H0 (by simp[Lx.blank,h9]))
    clear H0 h9
    go_wp2
    go_roundg (s.size-(m+1))
    case measure=>have:=HN.o;omega
    case rel=>exact⟨m+1,rfl,by simp,hlt,HB.o,rfl⟩
   ·have b9:((c.toNat:Int)==9)=false:=u8f c 9 h9
    by_cases h10:c.toNat=10
    ·have b10:((c.toNat:Int)==10)=true:=u8t c 10 h10
     have HB:=zh (H0 (by simp[Lx.blank,h10]))
     clear H0 h9 h10
     go_wp2
     go_roundg (s.size-(m+1))
     case measure=>have:=HN.o;omega
     case rel=>exact⟨m+1,rfl,by simp,hlt,HB.o,rfl⟩
    ·have b10:((c.toNat:Int)==10)=false:=u8f c 10 h10
     by_cases h13:c.toNat=13
     ·have b13:((c.toNat:Int)==13)=true:=u8t c 13 h13
      have HB:=zh (H0 (by simp[Lx.blank,h13]))
      clear H0 h9 h10 h13
      go_wp2
      go_roundg (s.size-(m+1))
      case measure=>have:=HN.o;omega
      case rel=>exact⟨m+1,rfl,by simp,hlt,HB.o,rfl⟩
     ·have b13:((c.toNat:Int)==13)=false:=u8f c 13 h13
      by_cases h32:c.toNat=32
      ·have b32:((c.toNat:Int)==32)=true:=u8t c 32 h32
       have HB:=zh (H0 (by simp[Lx.blank,h32]))
       clear H0 h9 h10 h13 h32
       go_wp2
       go_roundg (s.size-(m+1))
       case measure=>have:=HN.o;omega
       case rel=>exact⟨m+1,rfl,by simp,hlt,HB.o,rfl⟩
      ·have b32:((c.toNat:Int)==32)=false:=u8f c 32 h32
       have H2:Lx.blank c=false:=by simp[Lx.blank,h9,h10,h13,h32]
       have H1:¬(c.toNat=47∧(s.data.toList.drop (m+1)).head? =some 47)→skipAt s k=m:=fun h=>by
        have e:=HE.o
        rw[HD.o,Lx.skip_stays H2 h,←HD.o]at e
        exact zifZ e.symm hm
       by_cases h47:c.toNat=47
       ·have n47:((c.toNat:Int) != 47)=false:=by simp[h47]
        by_cases hend:m+1=s.size
        ·have be:((m:Int)+1==(s.size:Int))=true:=by simp;omega
         have HS:=zh (H1 (by
          rintro⟨_,h⟩
          rw[List.drop_eq_nil_of_le (by rw[ziZ];omega)]at h
          cases h))
         clear H0 H1 h9 h10 h13 h32 H2 h47 hend
         go_wp2
         go_ret
         rw[HS.o]
         exact⟨rfl,rfl⟩
        ·have be:((m:Int)+1==(s.size:Int))=false:=by simp;omega
         have H3:m+1<s.size:=by omega
         have Hb:(m:Int)+1<(s.size:Int):=by omega
         have He:(0:Int)≤(m:Int)+1:=by omega
         have H5:=zh (zlZ s (m+1) H3)
         obtain⟨d,hd⟩:=zE (s[m+1]'H3)
         rw[hd]at H5
         by_cases d47:d.toNat=47
         ·have nd:((d.toNat:Int) != 47)=false:=by simp[d47]
          have H7:d=47:=UInt8.toNat_inj.1 d47
          have HR:=zh (show Lx.skip true (s.data.toList.drop m)=Lx.skip false (s.data.toList.drop k)by
           have e:=HE.o
           rw[HD.o,Lx.skip_remark H2 h47 (by rw[H5.o,H7];rfl)]at e
           rw[HD.o,Lx.skip_within (by omega)]
           exact e)
          have Ha:=zh h47
          have HC:=zh hc
          clear H0 H1 h9 h10 h13 h32 H2 h47 hend d47 H7
          go_wp2
          go_loopg [1] (s.size-m) (fun n v wq=>∃p:Nat,n=s.size-p∧v=.int .i64 (p:Int)∧m≤p∧p≤s.size∧Lx.skip true (s.data.toList.drop p)=Lx.skip false (s.data.toList.drop k)∧wq=wr)
          case atStart=>exact⟨m,rfl,rfl,Nat.le_refl _,hm,HR.o,rfl⟩
          case round=>
           obtain⟨p,hn2,rfl,hmp,hp,he2,rfl⟩:=hrel
           have H6:=zh he2
           have H9:=zh hn2
           clear he2 hn2
           have Hg:(0:Int)≤(p:Int):=by omega
           by_cases hlp:p<s.size
           ·have H8:(p:Int)<(s.size:Int):=by omega
            have H4:=zh (zlZ s p hlp)
            obtain⟨x,hx⟩:=zE (s[p]'hlp)
            rw[hx]at H4
            by_cases x10:x.toNat=10
            ·have nx:((x.toNat:Int) != 10)=false:=by simp[x10]
             have Hf:m<p:=by
              rcases Nat.lt_or_ge m p with h | h
              ·exact h
              ·exfalso
               have:p=m:=by omega
               subst this
               have e1:=HC.o
               rw[hx]at e1
               have e2:=Ha.o
               rw[←e1]at e2
               omega
             have HB:=zh (show Lx.skip false (s.data.toList.drop p)=Lx.skip false (s.data.toList.drop k)by
              have e:=H6.o
              rw[H4.o,Lx.skip_out x10,←H4.o]at e
              exact e)
             clear x10
             go_wp2
             go_roundg (s.size-p)
             case measure=>have:=HN.o;omega
             case rel=>exact⟨p,rfl,rfl,hp,HB.o,rfl⟩
            ·have nx:((x.toNat:Int) != 10)=true:=by simp;omega
             have HB:=zh (show Lx.skip true (s.data.toList.drop (p+1))=Lx.skip false (s.data.toList.drop k)by
              have e:=H6.o
              rw[H4.o,Lx.skip_within x10]at e
              exact e)
             clear x10
             go_wp2
             go_roundg (s.size-(p+1))
             case measure=>have:=H9.o;omega
             case rel=>exact⟨p+1,rfl,by simp,by omega,hlp,HB.o,rfl⟩
           ·have H8:¬(p:Int)<(s.size:Int):=by omega
            have HB:=zh (show Lx.skip false (s.data.toList.drop p)=Lx.skip false (s.data.toList.drop k)by
             have e:=H6.o
             rw[List.drop_eq_nil_of_le (by rw[ziZ];omega)]at e ⊢
             rw[Lx.skip_end]at e ⊢
             exact e)
            go_wp2
            go_roundg (s.size-p)
            case measure=>have:=HN.o;omega
            case rel=>exact⟨p,rfl,rfl,hp,HB.o,rfl⟩
         ·have nd:((d.toNat:Int) != 47)=true:=by simp;omega
          have HS:=zh (H1 (by
           rintro⟨_,h⟩
           rw[H5.o]at h
           injection h with h
           subst h
           exact d47 rfl))
          clear H0 H1 h9 h10 h13 h32 H2 h47 hend d47
          go_wp2
          go_ret
          rw[HS.o]
          exact⟨rfl,rfl⟩
       ·have n47:((c.toNat:Int) != 47)=true:=by simp;omega
        have HS:=zh (H1 (fun h=>h47 h.1))
        clear H0 H1 h9 h10 h13 h32 H2 h47
        go_wp2
        go_ret
        rw[HS.o]
        exact⟨rfl,rfl⟩
  ·have hi:¬(m:Int)<(s.size:Int):=by omega
   have HS:=zh (show skipAt s k=m from zifZ (by
    rw[←HE.o,List.drop_eq_nil_of_le (by rw[ziZ];omega)]
    exact Lx.skip_end _) hm)
   go_wp2
   go_ret
   rw[HS.o]
   exact⟨rfl,rfl⟩
theorem zumZ {c:UInt8} (h:c.toNat=10):Lx.esc c=[92,110]:=by simp[Lx.esc,h]
theorem zshZ {c:UInt8} (h:¬c.toNat=10) (h2:c.toNat=34∨c.toNat=92):Lx.esc c=[92,c]:=by
 simp only[Lx.esc,beq_iff_eq,h,if_false,Bool.or_eq_true,h2,if_true]
theorem zpmZ {c:UInt8} (h:¬c.toNat=10) (h2:¬(c.toNat=34∨c.toNat=92)):Lx.esc c=[c]:=by
 simp only[Lx.esc,beq_iff_eq,h,if_false,Bool.or_eq_true,h2]
theorem znoZ {s:ByteArray} {m:Nat} (hlt:m<s.size) {l:Lx.Bytes} (hl:l=34::Lx.quoteIn (s.data.toList.take m)):34::Lx.quoteIn (s.data.toList.take (m+1))=l++Lx.esc (s[m]'hlt):=by
 rw[zekZ s m hlt,Lx.quoteIn_append,hl]
 have e:Lx.quoteIn [s[m]'hlt]=Lx.esc (s[m]'hlt):=by rw[Lx.quoteIn_cons];simp[Lx.quoteIn]
 rw[e]
 rfl
theorem zcrZ (a b:ByteArray):(a++b).data.toList=a.data.toList++b.data.toList:=by rw[ByteArray.data_append];simp
theorem znpZ {s A:ByteArray} {m:Nat} (hm:m≤s.size) (hA:A.data.toList=34::Lx.quoteIn (s.data.toList.take m)):A.size≤2 * m+1:=by
 rw[←ziZ,hA,List.length_cons]
 have:=Lx.quoteIn_len (s.data.toList.take m)
 rw[List.length_take,ziZ]at this
 omega
theorem zguZ (s:ByteArray) (w:World) (hs:s.size≤4000000) :
  Calls Tryz.prog 77 #[.string s] w fun e w'=>e=.returned (.string ⟨(Lx.quote s.data.toList).toArray⟩)∧w'=w:=by
 have H2:(s.size:Int)≤4000000:=by omega
 go_enter Tryz.func77, Tryz.ntmps77
 go_wp2
 go_loopg [3,4] (s.size) (fun n v u wr=>∃(m:Nat) (A:ByteArray),n=s.size-m∧v=.string A∧u=.int .i64 (m:Int)∧m≤s.size∧A.data.toList=34::Lx.quoteIn (s.data.toList.take m)∧wr=w)
 case atStart=>exact⟨0,⟨#[34]⟩,rfl,rfl,rfl,Nat.zero_le _,by simp[Lx.quoteIn],rfl⟩
 case round=>
  obtain⟨m,A,hn,rfl,rfl,hm,hA,rfl⟩:=hrel
  have HN:=zh hn
  have HA:=zh hA
  have hAs:=znpZ hm hA
  have hAi:(A.size:Int)≤8000001:=by omega
  clear hn hA hAs
  have H1:(0:Int)≤(m:Int):=by omega
  have H4:(m:Int)≤4000000:=by omega
  by_cases hlt:m<s.size
  ·have hi:(m:Int)<(s.size:Int):=by omega
   have H3:(m:Int)+1≤(s.size:Int):=by omega
   have HE:=zh (znoZ hlt HA.o)
   obtain⟨B,hB⟩:∃B:ByteArray,s.extract m (m+1)=B:=⟨_,rfl⟩
   have hBd:B.data.toList=[s[m]'hlt]:=by
    rw[←hB,zbpZ,zlZ s m hlt,show m+1-m=1 by omega]
    rfl
   have hBs:(B.size:Int)=1:=by
    rw[←ziZ,hBd]
    rfl
   have H0:=zh hBd
   clear hBd
   by_cases h10:(s[m]'hlt).toNat=10
   ·have b10:=u8t _ 10 h10
    have HF:=zh (HE.o.trans (by rw[zumZ h10]))
    clear h10
    go_wp2
    go_roundg (s.size-(m+1))
    case measure=>have:=HN.o;omega
    case rel=>exact⟨m+1,_,rfl,rfl,by simp,hlt,by rw[zcrZ,HF.o,HA.o],rfl⟩
   ·have b10:=u8f _ 10 h10
    by_cases hq:(s[m]'hlt).toNat=34∨(s[m]'hlt).toNat=92
    ·have HF:=zh (HE.o.trans (by rw[zshZ h10 hq]))
     by_cases h34:(s[m]'hlt).toNat=34
     ·have b34:=u8t _ 34 h34
      clear h10 hq h34
      go_wp2
      go_roundg (s.size-(m+1))
      case measure=>have:=HN.o;omega
      case rel=>exact⟨m+1,_,rfl,rfl,by simp,hlt,by rw[zcrZ,zcrZ,HF.o,HA.o,H0.o];simp,rfl⟩
     ·have b34:=u8f _ 34 h34
      have b92:=u8t _ 92 (by omega:(s[m]'hlt).toNat=92)
      clear h10 hq h34
      go_wp2
      go_roundg (s.size-(m+1))
      case measure=>have:=HN.o;omega
      case rel=>exact⟨m+1,_,rfl,rfl,by simp,hlt,by rw[zcrZ,zcrZ,HF.o,HA.o,H0.o];simp,rfl⟩
    ·have HF:=zh (HE.o.trans (by rw[zpmZ h10 hq]))
     have b34:=u8f _ 34 (by omega:¬(s[m]'hlt).toNat=34)
     have b92:=u8f _ 92 (by omega:¬(s[m]'hlt).toNat=92)
     clear h10 hq
     go_wp2
     go_roundg (s.size-(m+1))
     case measure=>have:=HN.o;omega
     case rel=>exact⟨m+1,_,rfl,rfl,by simp,hlt,by rw[zcrZ,HF.o,HA.o,H0.o],rfl⟩
  ·have hi:¬(m:Int)<(s.size:Int):=by omega
   have HQ:=zh (show(A++⟨#[34]⟩:ByteArray)=⟨(Lx.quote s.data.toList).toArray⟩by
    apply ByteArray.ext
    rw[ByteArray.data_append]
    apply Array.toList_inj.1
    rw[Array.toList_append,HA.o,List.take_of_length_le (by rw[ziZ];omega)]
    rfl)
   go_wp2
   go_ret
   rw[HQ.o]
   exact⟨rfl,rfl⟩
end Go.Proofs.YtdncljdfmdgdaaaGreatDoor
