/-
  coilref1.One.
-/
import Derived.Test.YtdncljdfmdgdaaaGreatDoorM38
set_option linter.unusedSimpArgs false
set_option linter.unusedVariables false
set_option maxRecDepth 100000
set_option maxHeartbeats 8000000
namespace Go.Proofs.YtdncljdfmdgdaaaGreatDoor
open Go.RowKit
theorem ztzZ (l:Lx.Bytes) (m:Nat) (h:m<14):(sgs.take (m+1)).contains l=((sgs.take m).contains l||(sgs.getD m []==l)):=by
 have hl:m<sgs.length:=h;rw[ykZ hl,List.getD_eq_getElem?_getD,List.getElem?_eq_getElem hl,yEZ];simp only[ySZ,yfbZ,yWZ,yKZ,ytZ,Option.getD_some];exact⟨fun h=>h.imp id Eq.symm,fun h=>h.imp id Eq.symm⟩
theorem zuaZ (w:World) (p k n:Int) (S:ByteArray) (hG:GL w) (hN:NG<=w.heap.size) (hs:S.size<=1000000) (hn0:-9223372036854775808<=n) (hn1:n<=9223372036854775807) (hk:k=6) :
  Calls Tryz.prog 122 #[.agg #[.int .i64 p,.int .i64 k,.string S,.int .i64 n]] w fun e w'=>e=.returned (.tuple #[.string ⟨(Lx.oneR ⟨p,k,S.data.toList,n⟩).1.toArray⟩,.bool (Lx.oneR ⟨p,k,S.data.toList,n⟩).2])/\LW w w':=by
 have Hl:(S.size:Int)<=1000000:=by omega
 have H0:=LW.refl hG hN;go_enter Tryz.func122, Tryz.ntmps122;have hB:=ydZ w (.cells #[.int .i64 p,.int .i64 k,.string S,.int .i64 n] 133);have hW:=H0.alloc (.cells #[.int .i64 p,.int .i64 k,.string S,.int .i64 n] 133);obtain⟨b0,b1,b2,b3⟩:=zgZ hB;have HB:=zh hB;clear hB H0;have HK:=zh hk;have e1:(k==1)=false:=by simp;omega
 have e2:(k==2)=false:=by simp;omega
 have e3:(k==3)=false:=by simp;omega
 have e4:(k==4)=false:=by simp;omega
 have e5:(k==5)=false:=by simp;omega
 have e6:(k==6)=true:=by simp;omega
 clear hk
 go_upto_block 0 with fail
 obtain⟨w2,hw2⟩:=zE (w.alloc (.cells #[.int .i64 p,.int .i64 k,.string S,.int .i64 n] 133));rw[hw2]at b0 b1 b2 b3 HB hW ⊢;have Hh:w.heap.size<w2.heap.size:=zaZ HB.o;have HW:=zh hW;clear hw2 hW;go_upto_region 20 with(go_at_call 139;refine(zhxZ _).mono ?_;rintro e W1 ⟨rfl,hWe⟩;rw[hWe];clear hWe);have H1:=ydZ w2 (.cells sgCells 9);have H7:=heap_alloc HB.o (.cells sgCells 9);have H6:=HW.o.alloc (.cells sgCells 9);have He:=World.size_alloc w2 (.cells sgCells 9);obtain⟨L,hL⟩:=zE (w2.heap.size);obtain⟨W2,hW2⟩:=zE (w2.alloc (.cells sgCells 9));rw[hL,hW2]at H1;rw[hW2]at H7 H6;rw[hL,hW2];have Hj:=zh H1;have Hk:=zh H7;have Hd:=zh H6;clear H1 H7 H6 He hL hW2 b0 b1 b2 b3 HB HW Hh;go_wp2_with fail;go_loopg [9] 14 (fun i v wr=>∃m:Nat,i=14-m/\v=.int .i64 (m:Int)/\m<=14/\wr.heap=W2.heap/\LW w wr/\(sgs.take m).contains S.data.toList=false)
 case atStart=>exact⟨0,rfl,rfl,yxZ _,rfl,Hd.o,rfl⟩
 case round=>
  obtain⟨m,hi,rfl,hm,hwe,hwl,hc⟩:=hrel;have HI:=zh hi;have HC:=zh hc;have Hc:=zh hwe;have H5:=zh hwl;have H8:Hid (wr.heap[L]? =some (.cells sgCells 9 (0,0))):=zh (by rw[hwe];exact Hj.o);have hB3:wr.heap[w.heap.size]? =some (.cells #[.int .i64 p,.int .i64 k,.string S,.int .i64 n] 133 (0,0)):=(by rw[hwe];exact Hk.o);obtain⟨c0,c1,c2,c3⟩:=zgZ hB3;have Hg:=zh hB3;have Hb:=zaZ hB3;have Hi:=zaZ H8.o;clear hi hc hwe hwl hB3;by_cases hlt:m<14
  ·have Hf:(m:Int)<14:=(by omega);have Hm:(0:Int)<=(m:Int):=(by omega);have t0:=(zdZ H8.o m).trans (zfjZ m hlt);have H3:=ztzZ S.data.toList m hlt;rw[HC.o,Bool.false_or]at H3;obtain⟨x,hx⟩:=zE (sgs.getD m []);have H2:x∈sgs:=(by rw[<-hx,List.getD_eq_getElem?_getD,List.getElem?_eq_getElem (show m<sgs.length from hlt)];exact yfZ _);rw[hx]at t0 H3;obtain⟨X,hX⟩:∃X:ByteArray,(⟨x.toArray⟩:ByteArray)=X:=⟨_,rfl⟩;have H4:(X.toList==S.toList)=(x==S.data.toList):=(by rw[<-hX,ByteArray.toList_mk,yebZ]);rw[hX]at t0;clear hX hx
   cases hq:(x==S.data.toList)with
   | true=>
    rw[hq]at H4
    have HR:=zh (show Lx.oneR ⟨p,k,S.data.toList,n⟩=(S.data.toList,n==0)by
     unfold Lx.oneR;simp only;have h6:=HK.o;rw[if_neg (by omega),if_neg (by omega),if_neg (by omega),if_pos h6,if_pos];rw[ySZ,<-show x=S.data.toList by simpa using hq]
     exact H2)
    clear H3 hq H2;go_wp2_with fail;go_quiet (fail);obtain⟨W4,hW4⟩:=zE (wr.drewN nq);have Ha:Hid (LW w W4):=zh (by rw[<-hW4];exact H5.o.drewN _);have hB4:W4.heap[w.heap.size]? =some (.cells #[.int .i64 p,.int .i64 k,.string S,.int .i64 n] 133 (0,0)):=(by rw[<-hW4];exact Hg.o);rw[hW4];clear hW4 c0 c1 c2 c3 t0 Hb Hi;obtain⟨c0,c1,c2,c3⟩:=zgZ hB4;have Hb:=zaZ hB4;clear hB4
    cases hn:(n==0)with
    | false=>
     rw[hn]at HR;go_wp2_with fail;go_quiet (fail);go_wp2_with fail;refine ylZ (yDZ rfl _ _ _) rfl ?_;rw[HR.o,zcoZ];exact⟨rfl,Ha.o.drewN _⟩
    | true=>
     rw[hn]at HR;go_wp2_with fail;go_quiet (fail);go_wp2_with fail;refine ylZ (yDZ rfl _ _ _) rfl ?_;rw[HR.o,zcoZ];exact⟨rfl,Ha.o.drewN _⟩
   | false=>
    rw[hq]at H4 H3;have HG:=zh H3;clear H3 hq H2;go_wp2_with fail;go_quiet (fail);go_wp2_with fail;go_roundg (14-(m+1))
    case measure=>have:=HI.o;omega
    case rel=>exact⟨m+1,rfl,by simp,hlt,Hc.o,H5.o.drewN _,HG.o⟩
  ·have Hf:¬(m:Int)<14:=(by omega);have H9:m=14:=by omega
   have HR:=zh (show Lx.oneR ⟨p,k,S.data.toList,n⟩=([],false)by
    unfold Lx.oneR;simp only;have h6:=HK.o;have h:=HC.o;rw[H9,yjZ (show sgs.length<=14 from ybZ _)]at h
    rw[if_neg (by omega),if_neg (by omega),if_neg (by omega),if_pos h6,if_neg (by rw[h];simp)])
   clear H9;go_wp2_with fail;refine ylZ (yDZ rfl _ _ _) rfl ?_;rw[HR.o];exact⟨rfl,H5.o⟩
theorem zreZ (w:World) (p k n:Int) (S:ByteArray) (hG:GL w) (hN:NG<=w.heap.size) (hs:S.size<=1000000) (hn0:-9223372036854775808<=n) (hn1:n<=9223372036854775807) (hk:¬(k=1\/k=2\/k=3\/k=4\/k=5\/k=6)) :
  Calls Tryz.prog 122 #[.agg #[.int .i64 p,.int .i64 k,.string S,.int .i64 n]] w fun e w'=>e=.returned (.tuple #[.string ⟨(Lx.oneR ⟨p,k,S.data.toList,n⟩).1.toArray⟩,.bool (Lx.oneR ⟨p,k,S.data.toList,n⟩).2])/\LW w w':=by
 have H1:(S.size:Int)<=1000000:=by omega
 have H0:=LW.refl hG hN;go_enter Tryz.func122, Tryz.ntmps122;have hB:=ydZ w (.cells #[.int .i64 p,.int .i64 k,.string S,.int .i64 n] 133);have hW:=H0.alloc (.cells #[.int .i64 p,.int .i64 k,.string S,.int .i64 n] 133);obtain⟨b0,b1,b2,b3⟩:=zgZ hB;have HB:=zh hB;clear hB H0
 have HR:=zh (show Lx.oneR ⟨p,k,S.data.toList,n⟩=([],false)by
  unfold Lx.oneR;simp only
  rw[if_neg (by omega),if_neg (by omega),if_neg (by omega),if_neg (by omega)])
 have e1:(k==1)=false:=by simp;omega
 have e2:(k==2)=false:=by simp;omega
 have e3:(k==3)=false:=by simp;omega
 have e4:(k==4)=false:=by simp;omega
 have e5:(k==5)=false:=by simp;omega
 have e6:(k==6)=false:=by simp;omega
 clear hk
 go_upto_block 0 with fail
 obtain⟨w2,hw2⟩:=zE (w.alloc (.cells #[.int .i64 p,.int .i64 k,.string S,.int .i64 n] 133));rw[hw2]at b0 b1 b2 b3 HB hW ⊢;have H2:w.heap.size<w2.heap.size:=zaZ HB.o;have HW:=zh hW;clear hw2 hW;go_wp2_with fail;refine ylZ (yDZ rfl _ _ _) rfl ?_;rw[HR.o];exact⟨rfl,HW.o⟩
theorem zrfZ {p k n:Int} {S:ByteArray} (hk:k=1\/k=2\/k=3):(Lx.oneR ⟨p,k,S.data.toList,n⟩).1.toArray=S.data/\(Lx.oneR ⟨p,k,S.data.toList,n⟩).2=Lx.nameOk ⟨p,k,S.data.toList,n⟩:=by
 unfold Lx.oneR;rw[if_pos hk];exact⟨by simp,rfl⟩
theorem zwgZ (w:World) (p k n:Int) (S:ByteArray) (hG:GL w) (hN:NG<=w.heap.size) (hs:S.size<=1000000) (hn0:-9223372036854775808<=n) (hn1:n<=9223372036854775807) :
  Calls Tryz.prog 122 #[.agg #[.int .i64 p,.int .i64 k,.string S,.int .i64 n]] w fun e w'=>e=.returned (.tuple #[.string ⟨(Lx.oneR ⟨p,k,S.data.toList,n⟩).1.toArray⟩,.bool (Lx.oneR ⟨p,k,S.data.toList,n⟩).2])/\LW w w':=by
 by_cases h:k=1\/k=2\/k=3
 ·obtain⟨e1,e2⟩:=zrfZ (p:=p) (n:=n) (S:=S) h;rw[e1,e2];rcases h with h | h | h
  ·exact zrbZ w p k n S hG hN hs hn0 hn1 h
  ·exact zrcZ w p k n S hG hN hs hn0 hn1 h
  ·exact zrdZ w p k n S hG hN hs hn0 hn1 h
 ·by_cases h4:k=4
  ·by_cases hneg:n<0
   ·exact zwfZ w p k n S hG hN hs hn0 hn1 h4 hneg
   ·by_cases hS:S.data.toList=[]
    ·exact zowZ w p k n S hG hN hs hn0 hn1 h4 n.toNat (by omega) hS
    ·exact zjkZ w p k n S hG hN hs hn0 hn1 h4 (by omega) hS
  ·by_cases h5:k=5
   ·exact ztyZ w p k n S hG hN hs hn0 hn1 h5
   ·by_cases h6:k=6
    ·exact zuaZ w p k n S hG hN hs hn0 hn1 h6
    ·exact zreZ w p k n S hG hN hs hn0 hn1 (by omega)
theorem zrgZ {w W:World} (h:LW w W) (t:Lx.Tok) (hs:t.s.length<=1000000) (hn0:-9223372036854775808<=t.n) (hn1:t.n<=9223372036854775807) :
  Calls Tryz.prog 122 #[.agg #[.int .i64 t.pos,.int .i64 t.kind,.string ⟨t.s.toArray⟩,.int .i64 t.n]] W fun e W'=>e=.returned (.tuple #[.string ⟨(Lx.oneR t).1.toArray⟩,.bool (Lx.oneR t).2])/\LW w W':=
 (zwgZ W t.pos t.kind t.n ⟨t.s.toArray⟩ h.g h.n hs hn0 hn1).mono fun e W' h'=>⟨h'.1,h.trans h'.2⟩
end Go.Proofs.YtdncljdfmdgdaaaGreatDoor
namespace Go.Proofs.YtdncljdfmdgdaaaGreatDoor
open Go.RowKit Go.Shelf
theorem zgsZ (k:Int) (s:Lx.Bytes):(Lx.oneR ⟨0,k,s,0⟩).2=isTok k s:=by
 rw[(Lx.one_written (t:=⟨0,k,s,0⟩) (by show(0:Int)<=_;decide)).1];unfold isTok Lx.join;rw[Lx.joinFrom,Lx.joinFrom]
 cases h:(Lx.written ⟨0,k,s,0⟩).2 with
 | false=>simp
 | true=>
  simp only[ycbZ];split
  ·rfl
  ·rename_i hn;simp
theorem zgtZ {w W:World} (h:LW w W) (s:Lx.Bytes) (hs:s.length<=1000000) :
  Calls Tryz.prog 83 #[.string ⟨s.toArray⟩] W fun e W'=>e=.returned (.bool (NM.small s))/\LW w W':=by
 have hone:=zrgZ h ⟨0,1,s,0⟩ hs (by show _<=(0:Int);decide) (by show(0:Int)<=_;decide);rw[zgsZ]at hone;have HO:=zh hone;clear hone h;go_enter Tryz.func83, Tryz.ntmps83;go_wp2_with fail;refine HO.o.mono ?_;rintro e W1 ⟨rfl,h1⟩;go_wp2_with fail;go_ret;exact⟨rfl,h1⟩
theorem zjyZ {w W:World} (h:LW w W) (s:Lx.Bytes) (hs:s.length<=1000000) :
  Calls Tryz.prog 67 #[.string ⟨s.toArray⟩] W fun e W'=>e=.returned (.bool (NM.great s))/\LW w W':=by
 have hone:=zrgZ h ⟨0,2,s,0⟩ hs (by show _<=(0:Int);decide) (by show(0:Int)<=_;decide);rw[zgsZ]at hone;have HO:=zh hone;clear hone h;go_enter Tryz.func67, Tryz.ntmps67;go_wp2_with fail;refine HO.o.mono ?_;rintro e W1 ⟨rfl,h1⟩;go_wp2_with fail;go_ret;exact⟨rfl,h1⟩
def Sx.shP (k:Int):Int:=if k=7\/k=8 then -1 else if k=10\/k=11 then -2 else if k=9\/k=12\/k=13\/k=14 then 1 else if k<=6 then 0 else 2
def Sx.shN (k:Int):Int:=if k=7\/k=8 then -1 else 0
def Sx.shT (k:Int):Int:=if k=6\/k=12 then 1 else 0
def Sx.shS (k:Int):Int:=if k=2 then 115 else if k=4\/k=9\/k=10 then 110 else if k=7\/k=8 then 84 else 45
theorem zubZ (k:Int) (w:World) (h1:1<=k) (h2:k<=21) :
  Calls Tryz.prog 73 #[.int .i64 k] w fun e w'=>e=.returned (.tuple #[.int .i64 (Sx.shP k),.int .i64 (Sx.shN k),.int .i64 (Sx.shT k),.int .u8 (Sx.shS k)])/\w=w':=by
 have hk:k=1\/k=2\/k=3\/k=4\/k=5\/k=6\/k=7\/k=8\/k=9\/k=10\/k=11\/k=12\/k=13\/k=14\/k=15\/k=16\/k=17\/k=18\/k=19\/k=20\/k=21:=by omega
 clear h1 h2;rcases hk with rfl | rfl | rfl | rfl | rfl | rfl | rfl | rfl | rfl | rfl | rfl | rfl | rfl | rfl | rfl | rfl | rfl | rfl | rfl | rfl | rfl
 all_goals
  go_enter Tryz.func73, Tryz.ntmps73
  go_wp2
  refine ylZ (by simp[results, Tryz.results73,go_sem];exact⟨rfl,rfl,rfl,rfl⟩) rfl ⟨rfl,rfl⟩
def Sx.sd (c:Int) (s:Lx.Bytes):Bool:=if c=110 then NM.small s else if c=84 then NM.great s else if c=115 then s.all Lx.saidB else s.isEmpty
theorem zucZ {w0 W:World} (h0:LW w0 W) (s:Lx.Bytes) (hs:s.length<=1000000) (c:Int) (hc:c=110\/c=84\/c=115\/c=45) :
  Calls Tryz.prog 74 #[.string ⟨s.toArray⟩,.int .u8 c] W fun e W'=>e=.returned (.bool (Sx.sd c s))/\LW W W':=by
 have H2:=zh (zgtZ h0.self s hs);have H9:=zh (zjyZ h0.self s hs);have HW:=zh h0.self;clear h0;rcases hc with rfl | rfl | rfl | rfl
 ·go_enter Tryz.func74, Tryz.ntmps74
  go_wp2_with (go_at_call 83;refine H2.o.mono ?_;rintro e w5 ⟨rfl,H0⟩)
  go_ret;exact⟨rfl,H0⟩
 ·go_enter Tryz.func74, Tryz.ntmps74
  go_wp2_with (go_at_call 67;refine H9.o.mono ?_;rintro e w5 ⟨rfl,H0⟩)
  go_ret;exact⟨rfl,H0⟩
 ·obtain⟨S,hS⟩:∃S:ByteArray,(⟨s.toArray⟩:ByteArray)=S:=⟨_,rfl⟩;have H6:s=S.data.toList:=(by rw[<-hS]);have hz:S.size=s.length:=(by rw[<-hS];simp[ByteArray.size]);rw[hS];have H7:=zh H6;have Hd:S.size<=1000000:=(by omega);have Hc:(S.size:Int)<=1000000:=(by omega);have Hb:(0:Int)<=(S.size:Int):=(by omega);clear hS H6 hz H2 H9 hs;go_enter Tryz.func74, Tryz.ntmps74;go_wp2_with fail;go_loopg [5] (S.size) (fun n v wr=>∃m:Nat,n=S.size-m/\v=.int .i64 (m:Nat)/\m<=S.size/\(S.data.toList.take m).all Lx.saidB=true/\wr=W)
  case atStart=>exact⟨0,rfl,rfl,yxZ _,rfl,rfl⟩
  case round=>
   obtain⟨m,hn,rfl,hm,hal,rfl⟩:=hrel;have HN:=zh hn;have H4:=zh hal;have m0:(0:Int)<=(m:Int):=(by omega);have m1:(m:Int)<=1000000:=(by omega);clear hn hal;by_cases hlt:m<S.size
   ·have Ha:(m:Int)<(S.size:Int):=(by omega);have H1:=zntZ (S[m]'hlt) wr;have H5:=zexZ S m hlt;obtain⟨b,hb⟩:=zE (Lx.saidB (S[m]'hlt));rw[hb]at H1;have H3:=zh H5;have HB:=zh hb;have H8:=zh H1;clear H5 hb H1
    cases b with
    | true=>
     go_wp2_with (go_at_call 123;refine H8.o.mono ?_;rintro e w5 ⟨rfl,rfl⟩)
     go_roundg (S.size-(m+1))
     case measure=>have:=HN.o;omega
     case rel=>exact⟨m+1,rfl,by simp,hlt,by rw[H3.o,List.all_append,H4.o];simp[HB.o],rfl⟩
    | false=>
     go_wp2_with (go_at_call 123;refine H8.o.mono ?_;rintro e w5 ⟨rfl,rfl⟩)
     go_ret;refine⟨?_,HW.o⟩;have hf:S.data.toList.all Lx.saidB=false:=(by rw[<-ydbZ (m+1) S.data.toList,List.all_append,H3.o,List.all_append];simp[HB.o]);show Ending.returned (Value.bool false)=_;unfold Sx.sd;rw[H7.o,if_neg (by omega),if_neg (by omega),if_pos rfl,hf]
   ·have Ha:¬(m:Int)<(S.size:Int):=by omega
    have HF:=zh (show S.data.toList.all Lx.saidB=true by
     have h:=H4.o
     rwa [yjZ (by rw[show S.data.toList.length=S.size from rfl];omega)]at h)
    go_wp2_with fail
    go_ret;refine⟨?_,HW.o⟩;show Ending.returned (Value.bool true)=_;unfold Sx.sd;rw[H7.o,if_neg (by omega),if_neg (by omega),if_pos rfl,HF.o]
 ·have HE:=zh (show Sx.sd 45 s=s.isEmpty from rfl)
  cases s with
  | nil=>
   go_enter Tryz.func74, Tryz.ntmps74
   go_wp2_with fail
   go_ret;exact⟨rfl,HW.o⟩
  | cons b s=>
   go_enter Tryz.func74, Tryz.ntmps74
   go_wp2_with fail
   go_ret;exact⟨rfl,HW.o⟩
theorem Sx.apart_false {l:List Lx.Bytes} (h:(∃s∈l,NM.small s=false)\/¬l.Nodup):Sx.apart NM l=false:=by
 cases ha:Sx.apart NM l with
 | false=>rfl
 | true=>
  obtain⟨h1,h2⟩:=(Sx.apart_iff NM l).1 ha;rcases h with⟨s,hs,hf⟩ | h
  ·rw[h1 s hs]at hf;cases hf
  ·exact absurd h2 h
theorem zoxZ {l:List Lx.Bytes} {i:Nat} (hi:i<l.length) (h:(l.take i).Nodup) (hn:∀p (hp:p<i),l[p]'(by omega)≠l[i]):(l.take (i+1)).Nodup:=by
 rw[ykZ hi];refine List.nodup_append.2 ⟨h,by simp,fun x hx y hy e=>?_⟩;simp only[yWZ]at hy;subst hy e;obtain⟨p,hp,hpe⟩:=List.getElem_of_mem hx;have H0:p<i:=by rw[yUZ]at hp;omega
 rw[List.getElem_take]at hpe;exact hn p H0 hpe
theorem ziaZ {w0 W:World} (h0:LW w0 W) (l:List Lx.Bytes) (v:Value) (hv:StrRow W v l) (hl:l.length<=1000000) (hls:∀s∈l,s.length<=1000000) :
  Calls Tryz.prog 68 #[v] W fun e W'=>e=.returned (.bool (Sx.apart NM l))/\LW W W':=by
 obtain⟨A,c,rfl,hrow⟩:=hv;have HV:=zh (show StrRow W (.slice A l.length c) l from⟨A,c,rfl,hrow⟩);have Hg:=zh hls;have HW:=zh h0.self;clear hrow hls h0;obtain⟨k,hk⟩:=zE (l.length);rw[hk]at HV hl ⊢;have HK:=zh hk;have k0:(0:Int)<=(k:Int):=by omega
 have k1:(k:Int)<=1000000:=by omega
 clear hk;go_enter Tryz.func68, Tryz.ntmps68;go_wp2_with fail;go_loopg [3,4] k (fun n v3 v4 wr=>∃i:Nat,n=k-i/\v3=.int .i64 (i:Nat)/\i<=k/\Sx.apart NM (l.take i)=true/\LW W wr)
 case atStart=>exact⟨0,rfl,rfl,yxZ _,by simp[Sx.apart],HW.o⟩
 case round=>
  obtain⟨i,hn,rfl,hi,hap,hw⟩:=hrel;have HN:=zh hn;have Hc:=zh ((Sx.apart_iff NM _).1 hap);have Hb:=zh hw;have i0:(0:Int)<=(i:Int):=(by omega);have i1:(i:Int)<=1000000:=(by omega);clear hn hap hw;by_cases hlt:i<k
  ·have Hh:(i:Int)<(k:Int):=(by omega);have H1:i<l.length:=(by have:=HK.o;omega);obtain⟨g,off,rfl,hsp⟩:=HV.o.spot i H1;obtain⟨hg,q0⟩:=hsp wr Hb.o.b;have H7:=Hg.o _ (yfZ H1);have H0:=yfZ H1
   have Hd:=zh (fun(h:NM.small l[i]=true) (hne:∀p (hp:p<i),l[p]'(by omega)≠l[i])=>(Sx.apart_iff NM (l.take (i+1))).2 ⟨fun s hs=>by
    rw[ykZ H1,yfbZ,yWZ]at hs;rcases hs with hs | rfl
    ·exact Hc.o.1 s hs
    ·exact h,zoxZ H1 Hc.o.2 hne⟩)
   have He:=zh hsp;obtain⟨s,hs⟩:=zE (l[i]'H1);rw[hs]at q0 H7 H0 He Hd;have H4:=zh (zgtZ Hb.o s H7);have HS:=zh hs;have Ha:=zh H0;clear hsp H7 hs H0;go_wp2_with fail
   cases hb:NM.small s with
   | false=>rw[hb]at H4;have HF:=zh (Sx.apart_false (.inl ⟨s,Ha.o,hb⟩));clear hb;refine H4.o.mono ?_;rintro e w5 ⟨rfl,H5⟩;go_wp2_with fail;go_ret;rw[HF.o];exact⟨rfl,H5⟩
   | true=>
    rw[hb]at H4;have H6:=zh (Hd.o hb);clear hb;refine H4.o.mono ?_;rintro e w5 ⟨rfl,H5⟩;have Hk:=zh H5;clear H5 hg q0;go_wp2_with fail;go_loopg [4] i (fun n v4 w9=>∃j:Nat,n=i-j/\v4=.int .i64 (j:Nat)/\j<=i/\(∀p (hp:p<j) (hpl:p<l.length),l[p]'hpl≠s)/\LW W w9)
    case atStart=>exact⟨0,rfl,rfl,yxZ _,fun p hp=>by omega,Hk.o⟩
    case round=>
     obtain⟨j,hn,rfl,hj,hne,hw⟩:=hrel;have Hj:=zh hn;have Hf:=zh hne;have H3:=zh hw;have j0:(0:Int)<=(j:Int):=(by omega);have j1:(j:Int)<=1000000:=(by omega);clear hn hne hw;by_cases hlt2:j<i
     ·have Hi:(j:Int)<(i:Int):=(by omega);have Hl:(j:Int)<(k:Int):=(by omega);have H8:j<l.length:=(by omega);obtain⟨hg,q0⟩:=He.o wr H3.o.b;obtain⟨g2,off2,e2,hsp2⟩:=HV.o.spot j H8;injection e2 with e2;injection e2 with e2 e3;subst e2 e3;obtain⟨hg2,q1⟩:=hsp2 wr H3.o.b;obtain⟨x,hx⟩:=zE (l[j]'H8);rw[hx]at q1;have HX:=zh hx;clear hsp2 hx
      cases hq:(s==x)with
      | true=>
       have H2:s=x:=by simpa using hq
       have HF:=zh (Sx.apart_false (l:=l) (.inr fun hnd=>by
        exact(List.pairwise_iff_getElem.1 hnd) j i H8 H1 hlt2 (by rw[HX.o,HS.o,H2])))
       clear H2;go_wp2_with fail;go_quiet (fail);go_wp2_with fail;go_ret;rw[HF.o];exact⟨rfl,H3.o.drewN _⟩
      | false=>
       have H2:¬s=x:=(by simpa using hq);have HF:=zh H2;clear H2;go_wp2_with fail;go_quiet (fail);go_wp2_with fail;go_roundg (i-(j+1))
       case measure=>have:=Hj.o;omega
       case rel=>
        refine⟨j+1,rfl,by simp,hlt2,fun p hp hpl=>?_,H3.o.drewN _⟩;by_cases hpj:p<j
        ·exact Hf.o p hpj hpl
        ·obtain rfl:p=j:=(by omega);rw[HX.o];exact fun e=>HF.o e.symm
     ·have Hi:¬(j:Int)<(i:Int):=(by omega);have H9:=zh (H6.o fun p hp=>Hf.o p (by omega) (by omega));go_wp2_with fail;go_roundg (k-(i+1))
      case measure=>have:=HN.o;omega
      case rel=>exact⟨i+1,rfl,by simp,hlt,H9.o,H3.o⟩
  ·have Hh:¬(i:Int)<(k:Int):=by omega
   have HF:=zh (show Sx.apart NM l=true by
    have h:=(Sx.apart_iff NM _).2 Hc.o
    rwa [yjZ (by have:=HK.o;omega)]at h)
   go_wp2_with fail
   go_ret;rw[HF.o];exact⟨rfl,Hb.o⟩
end Go.Proofs.YtdncljdfmdgdaaaGreatDoor
