/-
  coilref1.One.
-/
import Derived.Test.YtdncljdfmdgdaaaGreatDoorM1
import Derived.Test.YtdncljdfmdgdaaaGreatDoorM39
import Derived.Test.YtdncljdfmdgdaaaGreatDoorM18
import Derived.Test.YtdncljdfmdgdaaaGreatDoorM34
import Derived.Test.YtdncljdfmdgdaaaGreatDoorM24
set_option linter.unusedSimpArgs false
set_option linter.unusedVariables false
set_option maxRecDepth 100000
set_option maxHeartbeats 4000000
namespace Go.Proofs.YtdncljdfmdgdaaaGreatDoor
open Go.RowKit
theorem zsqZ (l:Lx.Bytes) (m:Nat) (h:m<14):(sgs.take (m+1)).contains l=((sgs.take m).contains l||(sgs.getD m []==l)):=by
 have hl:m<sgs.length:=h
 rw[List.take_succ_eq_append_getElem hl,List.getD_eq_getElem?_getD,List.getElem?_eq_getElem hl,Bool.eq_iff_iff]
 simp only[List.contains_iff_mem,List.mem_append,List.mem_singleton,Bool.or_eq_true,beq_iff_eq,Option.getD_some]
 exact⟨fun h=>h.imp id Eq.symm,fun h=>h.imp id Eq.symm⟩
theorem zsrZ (w:World) (p k n:Int) (S:ByteArray) (hG:GL w) (hN:NG≤w.heap.size) (hs:S.size≤1000000) (hn0:-9223372036854775808≤n) (hn1:n≤9223372036854775807) (hk:k=6) :
  Calls Tryz.prog 122 #[.agg #[.int .i64 p,.int .i64 k,.string S,.int .i64 n]] w fun e w'=>e=.returned (.tuple #[.string ⟨(Lx.oneR ⟨p,k,S.data.toList,n⟩).1.toArray⟩,.bool (Lx.oneR ⟨p,k,S.data.toList,n⟩).2])∧LW w w':=by
 have Hl:(S.size:Int)≤1000000:=by omega
 have H0:=LW.refl hG hN
 go_enter Tryz.func122, Tryz.ntmps122
 have hB:=heap_alloc_new w (.cells #[.int .i64 p,.int .i64 k,.string S,.int .i64 n] 133)
 have hW:=H0.alloc (.cells #[.int .i64 p,.int .i64 k,.string S,.int .i64 n] 133)
 obtain⟨b0,b1,b2,b3⟩:=zhZ hB
 have HB:=zh hB
 clear hB H0
 have HK:=zh hk
 have e1:(k==1)=false:=by simp;omega
 have e2:(k==2)=false:=by simp;omega
 have e3:(k==3)=false:=by simp;omega
 have e4:(k==4)=false:=by simp;omega
 have e5:(k==5)=false:=by simp;omega
 have e6:(k==6)=true:=by simp;omega
 clear hk
 go_upto_block 0 with fail
 obtain⟨w2,hw2⟩:=zE (w.alloc (.cells #[.int .i64 p,.int .i64 k,.string S,.int .i64 n] 133))
 rw[hw2]at b0 b1 b2 b3 HB hW ⊢
 have He:w.heap.size<w2.heap.size:=zaZ HB.o
 have HW:=zh hW
 clear hw2 hW
 go_upto_region 20 with(go_at_call 139;refine(zgxZ _).mono ?_;rintro e W1 ⟨rfl,hWe⟩;rw[hWe];clear hWe)
 have H1:=heap_alloc_new w2 (.cells sgCells 9)
 have H7:=heap_alloc HB.o (.cells sgCells 9)
 have H5:=HW.o.alloc (.cells sgCells 9)
 have Hd:=World.size_alloc w2 (.cells sgCells 9)
 obtain⟨L,hL⟩:=zE (w2.heap.size)
 obtain⟨W2,hW2⟩:=zE (w2.alloc (.cells sgCells 9))
 rw[hL,hW2]at H1
 rw[hW2]at H7 H5
 rw[hL,hW2]
 have Hh:=zh H1
 have Hg:=zh H7
 have Hf:=zh H5
 clear H1 H7 H5 Hd hL hW2 b0 b1 b2 b3 HB HW He
 go_wp2_with fail
 go_loopg [9] 14 (fun i v wr=>∃m:Nat,i=14-m∧v=.int .i64 (m:Int)∧m≤14∧wr.heap=W2.heap∧LW w wr∧(sgs.take m).contains S.data.toList=false)
 case atStart=>exact⟨0,rfl,rfl,Nat.zero_le _,rfl,Hf.o,rfl⟩
 case round=>
  obtain⟨m,hi,rfl,hm,hwe,hwl,hc⟩:=hrel
  have HI:=zh hi
  have HC:=zh hc
  have Hj:=zh hwe
  have H6:=zh hwl
  have H8:Hid (wr.heap[L]? =some (.cells sgCells 9 (0,0))):=zh (by rw[hwe];exact Hh.o)
  have hB3:wr.heap[w.heap.size]? =some (.cells #[.int .i64 p,.int .i64 k,.string S,.int .i64 n] 133 (0,0)):=by rw[hwe];exact Hg.o
  obtain⟨c0,c1,c2,c3⟩:=zhZ hB3
  have Hk:=zh hB3
  have Ha:=zaZ hB3
  have Hi:=zaZ H8.o
  clear hi hc hwe hwl hB3
  by_cases hlt:m<14
  ·have Hc:(m:Int)<14:=by omega
   have Hm:(0:Int)≤(m:Int):=by omega
   have t0:=(zdZ H8.o m).trans (zetZ m hlt)
   have H3:=zsqZ S.data.toList m hlt
   rw[HC.o,Bool.false_or]at H3
   obtain⟨x,hx⟩:=zE (sgs.getD m [])
   have H2:x∈sgs:=by
    rw[←hx,List.getD_eq_getElem?_getD,List.getElem?_eq_getElem (show m<sgs.length from hlt)]
    exact List.getElem_mem _
   rw[hx]at t0 H3
   obtain⟨X,hX⟩:∃X:ByteArray,(⟨x.toArray⟩:ByteArray)=X:=⟨_,rfl⟩
   have H4:(X.toList==S.toList)=(x==S.data.toList):=by rw[←hX,ByteArray.toList_mk,ByteArray.toList_eq]
   rw[hX]at t0
   clear hX hx
   cases hq:(x==S.data.toList)with
   | true=>
    rw[hq]at H4
    have HR:=zh (show Lx.oneR ⟨p,k,S.data.toList,n⟩=(S.data.toList,n==0)by
     unfold Lx.oneR
     simp only
     have h6:=HK.o
     rw[if_neg (by omega),if_neg (by omega),if_neg (by omega),if_pos h6,if_pos]
     rw[List.contains_iff_mem,←show x=S.data.toList by simpa using hq]
     exact H2)
    clear H3 hq H2
    go_wp2_with fail
    go_quiet (fail)
    obtain⟨W4,hW4⟩:=zE (wr.drewN nq)
    have H9:Hid (LW w W4):=zh (by rw[←hW4];exact H6.o.drewN _)
    have hB4:W4.heap[w.heap.size]? =some (.cells #[.int .i64 p,.int .i64 k,.string S,.int .i64 n] 133 (0,0)):=by rw[←hW4];exact Hk.o
    rw[hW4]
    clear hW4 c0 c1 c2 c3 t0 Ha Hi
    obtain⟨c0,c1,c2,c3⟩:=zhZ hB4
    have Ha:=zaZ hB4
    clear hB4
    cases hn:(n==0)with
    | false=>
     rw[hn]at HR
     go_wp2_with fail
     go_quiet (fail)
     go_wp2_with fail
     refine bodyPost_ret (results_tmp2 rfl _ _ _) rfl ?_
     rw[HR.o,zchZ]
     exact⟨rfl,H9.o.drewN _⟩
    | true=>
     rw[hn]at HR
     go_wp2_with fail
     go_quiet (fail)
     go_wp2_with fail
     refine bodyPost_ret (results_tmp2 rfl _ _ _) rfl ?_
     rw[HR.o,zchZ]
     exact⟨rfl,H9.o.drewN _⟩
   | false=>
    rw[hq]at H4 H3
    have HG:=zh H3
    clear H3 hq H2
    go_wp2_with fail
    go_quiet (fail)
    go_wp2_with fail
    go_roundg (14-(m+1))
    case measure=>have:=HI.o;omega
    case rel=>exact⟨m+1,rfl,by simp,hlt,Hj.o,H6.o.drewN _,HG.o⟩
  ·have Hc:¬(m:Int)<14:=by omega
   have Hb:m=14:=by omega
   have HR:=zh (show Lx.oneR ⟨p,k,S.data.toList,n⟩=([],false)by
    unfold Lx.oneR
    simp only
    have h6:=HK.o
    have h:=HC.o
    rw[Hb,List.take_of_length_le (show sgs.length≤14 from Nat.le_refl _)]at h
    rw[if_neg (by omega),if_neg (by omega),if_neg (by omega),if_pos h6,if_neg (by rw[h];simp)])
   clear Hb
   go_wp2_with fail
   refine bodyPost_ret (results_tmp2 rfl _ _ _) rfl ?_
   rw[HR.o]
   exact⟨rfl,H6.o⟩
theorem zpzZ (w:World) (p k n:Int) (S:ByteArray) (hG:GL w) (hN:NG≤w.heap.size) (hs:S.size≤1000000) (hn0:-9223372036854775808≤n) (hn1:n≤9223372036854775807) (hk:¬(k=1∨k=2∨k=3∨k=4∨k=5∨k=6)) :
  Calls Tryz.prog 122 #[.agg #[.int .i64 p,.int .i64 k,.string S,.int .i64 n]] w fun e w'=>e=.returned (.tuple #[.string ⟨(Lx.oneR ⟨p,k,S.data.toList,n⟩).1.toArray⟩,.bool (Lx.oneR ⟨p,k,S.data.toList,n⟩).2])∧LW w w':=by
 have H1:(S.size:Int)≤1000000:=by omega
 have H0:=LW.refl hG hN
 go_enter Tryz.func122, Tryz.ntmps122
 have hB:=heap_alloc_new w (.cells #[.int .i64 p,.int .i64 k,.string S,.int .i64 n] 133)
 have hW:=H0.alloc (.cells #[.int .i64 p,.int .i64 k,.string S,.int .i64 n] 133)
 obtain⟨b0,b1,b2,b3⟩:=zhZ hB
 have HB:=zh hB
 clear hB H0
 have HR:=zh (show Lx.oneR ⟨p,k,S.data.toList,n⟩=([],false)by
  unfold Lx.oneR
  simp only
  rw[if_neg (by omega),if_neg (by omega),if_neg (by omega),if_neg (by omega)])
 have e1:(k==1)=false:=by simp;omega
 have e2:(k==2)=false:=by simp;omega
 have e3:(k==3)=false:=by simp;omega
 have e4:(k==4)=false:=by simp;omega
 have e5:(k==5)=false:=by simp;omega
 have e6:(k==6)=false:=by simp;omega
 clear hk
 go_upto_block 0 with fail
 obtain⟨w2,hw2⟩:=zE (w.alloc (.cells #[.int .i64 p,.int .i64 k,.string S,.int .i64 n] 133))
 rw[hw2]at b0 b1 b2 b3 HB hW ⊢
 have H2:w.heap.size<w2.heap.size:=zaZ HB.o
 have HW:=zh hW
 clear hw2 hW
 go_wp2_with fail
 refine bodyPost_ret (results_tmp2 rfl _ _ _) rfl ?_
 rw[HR.o]
 exact⟨rfl,HW.o⟩
theorem zqaZ {p k n:Int} {S:ByteArray} (hk:k=1∨k=2∨k=3):(Lx.oneR ⟨p,k,S.data.toList,n⟩).1.toArray=S.data∧(Lx.oneR ⟨p,k,S.data.toList,n⟩).2=Lx.nameOk ⟨p,k,S.data.toList,n⟩:=by
 unfold Lx.oneR
 rw[if_pos hk]
 exact⟨by simp,rfl⟩
theorem zutZ (w:World) (p k n:Int) (S:ByteArray) (hG:GL w) (hN:NG≤w.heap.size) (hs:S.size≤1000000) (hn0:-9223372036854775808≤n) (hn1:n≤9223372036854775807) :
  Calls Tryz.prog 122 #[.agg #[.int .i64 p,.int .i64 k,.string S,.int .i64 n]] w fun e w'=>e=.returned (.tuple #[.string ⟨(Lx.oneR ⟨p,k,S.data.toList,n⟩).1.toArray⟩,.bool (Lx.oneR ⟨p,k,S.data.toList,n⟩).2])∧LW w w':=by
 by_cases h:k=1∨k=2∨k=3
 ·obtain⟨e1,e2⟩:=zqaZ (p:=p) (n:=n) (S:=S) h
  rw[e1,e2]
  rcases h with h | h | h
  ·exact zpwZ w p k n S hG hN hs hn0 hn1 h
  ·exact zpxZ w p k n S hG hN hs hn0 hn1 h
  ·exact zpyZ w p k n S hG hN hs hn0 hn1 h
 ·by_cases h4:k=4
  ·by_cases hneg:n<0
   ·exact zusZ w p k n S hG hN hs hn0 hn1 h4 hneg
   ·by_cases hS:S.data.toList=[]
    ·exact znrZ w p k n S hG hN hs hn0 hn1 h4 n.toNat (by omega) hS
    ·exact zieZ w p k n S hG hN hs hn0 hn1 h4 (by omega) hS
  ·by_cases h5:k=5
   ·exact zspZ w p k n S hG hN hs hn0 hn1 h5
   ·by_cases h6:k=6
    ·exact zsrZ w p k n S hG hN hs hn0 hn1 h6
    ·exact zpzZ w p k n S hG hN hs hn0 hn1 (by omega)
theorem zqbZ {w W:World} (h:LW w W) (t:Lx.Tok) (hs:t.s.length≤1000000) (hn0:-9223372036854775808≤t.n) (hn1:t.n≤9223372036854775807) :
  Calls Tryz.prog 122 #[.agg #[.int .i64 t.pos,.int .i64 t.kind,.string ⟨t.s.toArray⟩,.int .i64 t.n]] W fun e W'=>e=.returned (.tuple #[.string ⟨(Lx.oneR t).1.toArray⟩,.bool (Lx.oneR t).2])∧LW w W':=
 (zutZ W t.pos t.kind t.n ⟨t.s.toArray⟩ h.g h.n hs hn0 hn1).mono fun e W' h'=>⟨h'.1,h.trans h'.2⟩
end Go.Proofs.YtdncljdfmdgdaaaGreatDoor
namespace Go.Proofs.YtdncljdfmdgdaaaGreatDoor
open Go.RowKit Go.Shelf
theorem zfvZ (k:Int) (s:Lx.Bytes):(Lx.oneR ⟨0,k,s,0⟩).2=isTok k s:=by
 rw[(Lx.one_written (t:=⟨0,k,s,0⟩) (by show(0:Int)≤_;decide)).1]
 unfold isTok Lx.join
 rw[Lx.joinFrom,Lx.joinFrom]
 cases h:(Lx.written ⟨0,k,s,0⟩).2 with
 | false=>simp
 | true=>
  simp only[if_true]
  split
  ·rfl
  ·rename_i hn;simp
theorem zitZ {w W:World} (h:LW w W) (s:Lx.Bytes) (hs:s.length≤1000000) :
  Calls Tryz.prog 83 #[.string ⟨s.toArray⟩] W fun e W'=>e=.returned (.bool (NM.small s))∧LW w W':=by
 have hone:=zqbZ h ⟨0,1,s,0⟩ hs (by show _≤(0:Int);decide) (by show(0:Int)≤_;decide)
 rw[zfvZ]at hone
 have HO:=zh hone
 clear hone h
 go_enter Tryz.func83, Tryz.ntmps83
 go_wp2_with fail
 refine HO.o.mono ?_
 rintro e W1 ⟨rfl,h1⟩
 go_wp2_with fail
 go_ret
 exact⟨rfl,h1⟩
theorem ziuZ {w W:World} (h:LW w W) (s:Lx.Bytes) (hs:s.length≤1000000) :
  Calls Tryz.prog 67 #[.string ⟨s.toArray⟩] W fun e W'=>e=.returned (.bool (NM.great s))∧LW w W':=by
 have hone:=zqbZ h ⟨0,2,s,0⟩ hs (by show _≤(0:Int);decide) (by show(0:Int)≤_;decide)
 rw[zfvZ]at hone
 have HO:=zh hone
 clear hone h
 go_enter Tryz.func67, Tryz.ntmps67
 go_wp2_with fail
 refine HO.o.mono ?_
 rintro e W1 ⟨rfl,h1⟩
 go_wp2_with fail
 go_ret
 exact⟨rfl,h1⟩
def Sx.shP (k:Int):Int:=if k=7∨k=8 then -1 else if k=10∨k=11 then -2 else if k=9∨k=12∨k=13∨k=14 then 1 else if k≤6 then 0 else 2
def Sx.shN (k:Int):Int:=if k=7∨k=8 then -1 else 0
def Sx.shT (k:Int):Int:=if k=6∨k=12 then 1 else 0
def Sx.shS (k:Int):Int:=if k=2 then 115 else if k=4∨k=9∨k=10 then 110 else if k=7∨k=8 then 84 else 45
theorem zssZ (k:Int) (w:World) (h1:1≤k) (h2:k≤21) :
  Calls Tryz.prog 73 #[.int .i64 k] w fun e w'=>e=.returned (.tuple #[.int .i64 (Sx.shP k),.int .i64 (Sx.shN k),.int .i64 (Sx.shT k),.int .u8 (Sx.shS k)])∧w=w':=by
 have hk:k=1∨k=2∨k=3∨k=4∨k=5∨k=6∨k=7∨k=8∨k=9∨k=10∨k=11∨k=12∨k=13∨k=14∨k=15∨k=16∨k=17∨k=18∨k=19∨k=20∨k=21:=by omega
 clear h1 h2
 rcases hk with rfl | rfl | rfl | rfl | rfl | rfl | rfl | rfl | rfl | rfl | rfl | rfl | rfl | rfl | rfl | rfl | rfl | rfl | rfl | rfl | rfl
 all_goals
  go_enter Tryz.func73, Tryz.ntmps73
  go_wp2
  refine bodyPost_ret (by simp[results, Tryz.results73,go_sem];exact⟨rfl,rfl,rfl,rfl⟩) rfl ⟨rfl,rfl⟩
def Sx.sd (c:Int) (s:Lx.Bytes):Bool:=if c=110 then NM.small s else if c=84 then NM.great s else if c=115 then s.all Lx.saidB else s.isEmpty
theorem zstZ {w0 W:World} (h0:LW w0 W) (s:Lx.Bytes) (hs:s.length≤1000000) (c:Int) (hc:c=110∨c=84∨c=115∨c=45) :
  Calls Tryz.prog 74 #[.string ⟨s.toArray⟩,.int .u8 c] W fun e W'=>e=.returned (.bool (Sx.sd c s))∧LW W W':=by
 have H6:=zh (zitZ h0.self s hs)
 have H8:=zh (ziuZ h0.self s hs)
 have HW:=zh h0.self
 clear h0
 rcases hc with rfl | rfl | rfl | rfl
 ·go_enter Tryz.func74, Tryz.ntmps74
  go_wp2_with (go_at_call 83;refine H6.o.mono ?_;rintro e w5 ⟨rfl,H1⟩)
  go_ret
  exact⟨rfl,H1⟩
 ·go_enter Tryz.func74, Tryz.ntmps74
  go_wp2_with (go_at_call 67;refine H8.o.mono ?_;rintro e w5 ⟨rfl,H1⟩)
  go_ret
  exact⟨rfl,H1⟩
 ·obtain⟨S,hS⟩:∃S:ByteArray,(⟨s.toArray⟩:ByteArray)=S:=⟨_,rfl⟩
  have H4:s=S.data.toList:=by rw[←hS]
  have hz:S.size=s.length:=by rw[←hS];simp[ByteArray.size]
  rw[hS]
  have H9:=zh H4
  have Hb:S.size≤1000000:=by omega
  have Hc:(S.size:Int)≤1000000:=by omega
  have Hd:(0:Int)≤(S.size:Int):=by omega
  have HZ:=zh hz
  clear hS H4 hz H6 H8 hs
  go_enter Tryz.func74, Tryz.ntmps74
  go_wp2_with fail
  go_loopg [5] (S.size) (fun n v wr=>∃m:Nat,n=S.size-m∧v=.int .i64 (m:Nat)∧m≤S.size∧(S.data.toList.take m).all Lx.saidB=true∧wr=W)
  case atStart=>exact⟨0,rfl,rfl,Nat.zero_le _,rfl,rfl⟩
  case round=>
   obtain⟨m,hn,rfl,hm,hal,rfl⟩:=hrel
   have HN:=zh hn
   have H3:=zh hal
   have m0:(0:Int)≤(m:Int):=by omega
   have m1:(m:Int)≤1000000:=by omega
   clear hn hal
   by_cases hlt:m<S.size
   ·have Ha:(m:Int)<(S.size:Int):=by omega
    have H0:=zmpZ (S[m]'hlt) wr
    have H7:=zekZ S m hlt
    obtain⟨b,hb⟩:=zE (Lx.saidB (S[m]'hlt))
    rw[hb]at H0
    have H2:=zh H7
    have HB:=zh hb
    have H5:=zh H0
    clear H7 hb H0
    cases b with
    | true=>
     go_wp2_with (go_at_call 123;refine H5.o.mono ?_;rintro e w5 ⟨rfl,rfl⟩)
     go_roundg (S.size-(m+1))
     case measure=>have:=HN.o;omega
     case rel=>exact⟨m+1,rfl,by simp,hlt,by rw[H2.o,List.all_append,H3.o];simp[HB.o],rfl⟩
    | false=>
     go_wp2_with (go_at_call 123;refine H5.o.mono ?_;rintro e w5 ⟨rfl,rfl⟩)
     go_ret
     refine⟨?_,HW.o⟩
     have hf:S.data.toList.all Lx.saidB=false:=by
      rw[←List.take_append_drop (m+1) S.data.toList,List.all_append,H2.o,List.all_append]
      simp[HB.o]
     show Ending.returned (Value.bool false)=_
     unfold Sx.sd
     rw[H9.o,if_neg (by omega),if_neg (by omega),if_pos rfl,hf]
   ·have Ha:¬(m:Int)<(S.size:Int):=by omega
    have HF:=zh (show S.data.toList.all Lx.saidB=true by
     have h:=H3.o
     rwa [List.take_of_length_le (by rw[show S.data.toList.length=S.size from rfl];omega)]at h)
    go_wp2_with fail
    go_ret
    refine⟨?_,HW.o⟩
    show Ending.returned (Value.bool true)=_
    unfold Sx.sd
    rw[H9.o,if_neg (by omega),if_neg (by omega),if_pos rfl,HF.o]
 ·have HE:=zh (show Sx.sd 45 s=s.isEmpty from rfl)
  cases s with
  | nil=>
   go_enter Tryz.func74, Tryz.ntmps74
   go_wp2_with fail
   go_ret
   exact⟨rfl,HW.o⟩
  | cons b s=>
   go_enter Tryz.func74, Tryz.ntmps74
   go_wp2_with fail
   go_ret
   exact⟨rfl,HW.o⟩
end Go.Proofs.YtdncljdfmdgdaaaGreatDoor
