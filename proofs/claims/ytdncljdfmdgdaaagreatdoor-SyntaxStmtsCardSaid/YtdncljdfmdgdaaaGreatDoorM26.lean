/-
  coilref1.quoted.
-/
import Derived.Test.YtdncljdfmdgdaaaGreatDoorM1
import Derived.Test.YtdncljdfmdgdaaaGreatDoorM25
import Derived.Test.YtdncljdfmdgdaaaGreatDoorM3
import Derived.OwnWalk
import Derived.Test.YtdncljdfmdgdaaaGreatDoorM13
import Derived.Test.YtdncljdfmdgdaaaGreatDoorM16
import Derived.Test.YtdncljdfmdgdaaaGreatDoorM5
set_option linter.unusedSimpArgs false
set_option linter.unusedVariables false
set_option maxRecDepth 100000
set_option maxHeartbeats 4000000
namespace Go.Proofs.YtdncljdfmdgdaaaGreatDoor
open Go.RowKit
structure QW (w W:World):Prop where
 b:Below w.heap.size w W
 z:W.heap[w.heap.size]? =some (.cells #[.int .i64 0,.int .i64 0,.string ⟨#[]⟩,.int .i64 0,.int .i64 0,.int .i64 0,.int .i64 0] 193 (0,0))
theorem QW.row {w W W':World} {row:Option Nat} (h:QW w W) (hg:W.grownBy W' row) (hr:∀g,row=some g->w.heap.size+1<=g):QW w W':=
 ⟨Below.turn h.b hg (fun r e=>by have:=hr r e;omega),(hg.block _ (zaZ h.z) (fun e=>by have:=hr _ e.symm;omega)).trans h.z⟩
theorem QW.row2 {w W W':World} {row:Option Nat} {o:Obj} (h:QW w W) (hg:(W.alloc o).grownBy W' row) (hr:∀g,row=some g->w.heap.size+1<=g):QW w W':=
 (h.row (yeZ W o none) (fun g e=>nomatch e)).row hg hr
theorem zmgZ {c:UInt8} (h:plainB c=true):¬c.toNat=34/\¬c.toNat=92/\¬(c.toNat<32\/126<c.toNat):=by
 simp only[plainB,ygZ,yCZ,Bool.not_eq_true',yaZ]at h;exact⟨h.2.2.1,h.2.2.2,by omega⟩
theorem zkqZ {c:UInt8} (h:plainB c=false) (h34:¬c.toNat=34) (h92:¬c.toNat=92):c.toNat<32\/126<c.toNat:=by
 by_cases hb:c.toNat<32\/126<c.toNat
 ·exact hb
 ·exfalso;have:plainB c=true:=(by simp only[plainB,ygZ,yCZ,Bool.not_eq_true',yaZ];exact⟨by omega,by omega,h34,h92⟩);rw[h]at this;cases this
theorem zqwZ (s:ByteArray) (k:Nat) (w:World) (hk:k<s.size) (hs:s.size<=140737488351232) :
  Calls Tryz.prog 169 #[.string s,.int .i64 (k:Int)] w fun e w'=>e=.returned (cutV k (Lx.quoted k (s.data.toList.drop (k+1)) [] 1))/\Below w.heap.size w w':=by
 have Hr:(s.size:Int)<=140737488351232:=by omega
 have Hm:(k:Int)<(s.size:Int):=by omega
 have Ho:(0:Int)<=(k:Int):=by omega
 obtain⟨i0,hi0,hz0,hz1,hz2⟩:=info_parts zddZ;go_enter Tryz.func169, Tryz.ntmps169;go_upto_region 1 with fail;have H8:=ydZ w (.cells #[.int .i64 0,.int .i64 0,.string ⟨#[]⟩,.int .i64 0,.int .i64 0,.int .i64 0,.int .i64 0] 193);have hb:=zeZ (yeZ w (.cells #[.int .i64 0,.int .i64 0,.string ⟨#[]⟩,.int .i64 0,.int .i64 0,.int .i64 0,.int .i64 0] 193) none);have Hc:(w.alloc (.cells #[.int .i64 0,.int .i64 0,.string ⟨#[]⟩,.int .i64 0,.int .i64 0,.int .i64 0,.int .i64 0] 193)).heap.size=w.heap.size+1:=by rw[World.size_alloc]
 obtain⟨W1,hW1⟩:=zE (w.alloc (.cells #[.int .i64 0,.int .i64 0,.string ⟨#[]⟩,.int .i64 0,.int .i64 0,.int .i64 0,.int .i64 0] 193));rw[hW1]at H8 hb Hc ⊢;have H6:=zh (QW.mk hb H8);have Hb:=zaZ H8;clear H8 hW1 hb;go_wp2_with (at_make;refine wpList_make_own _ rfl _ _ 98 rfl (w.heap.size+1) 5 i0 (.int .u8 0) 1 Tryz.underlying98 hi0 hz0 hz1 .i64 .i64 _ 0 rfl rfl rfl (by rw[hz2];omega) (by unfold maxLen;omega) (by rw[Hc];exact ybZ _) ?_;intro W2 hown H9);have Hl:=zh (H6.o.row H9 (fun g e=>nomatch e));rw[Hc]at hown;have Hj:Hid (OwnB W2 (w.heap.size+1) (.slice (some ⟨w.heap.size+1,0,none⟩) 0 0) []):=zh hown;clear hown H9 H6 hi0 hz0 hz1 hz2 Hc;go_loopg [5,6] (s.size-(k+1)) (fun n v u wr=>∃(m:Nat) (l:List UInt8),n=s.size-m/\u=.int .i64 (m:Int)/\k+1<=m/\m<=s.size/\QW w wr/\OwnB wr (w.heap.size+1) v l/\l.length<=m/\
  Lx.quoted k (s.data.toList.drop m) l (m-k)=Lx.quoted k (s.data.toList.drop (k+1)) [] 1)
 case atStart=>exact⟨k+1,[],rfl,rfl,ybZ _,by omega,Hl.o,Hj.o,by simp,by rw[show k+1-k=1 from by omega]⟩
 case round=>
  obtain⟨m,l,hn,rfl,hkm,hm,hW,hO,hl,he⟩:=hrel;have Hd:=zh hW;have HB:=zh hW.b;have HZ:=zh hW.z;have Hb:=zaZ hW.z;have HO:=zh hO;have HE:=zh he;have HN:=zh hn;obtain⟨A0,cap0,hv⟩:=hO.slice;clear he hn hW hO;subst hv;have m0:(0:Int)<=(m:Int):=(by omega);have Hp:(m:Int)<=(s.size:Int):=(by omega);by_cases hlt:m<s.size
  ·have hi:(m:Int)<(s.size:Int):=(by omega);have HD:=zh (zkZ s m hlt);have H2:=ztpZ (s[m]'hlt) wr;by_cases h34:(s[m]'hlt).toNat=34
   ·have b34:=u8t _ 34 h34;have bsz:((m:Int)==(s.size:Int))=false:=(by simp;omega);have He:=zh h34;clear h34;have HQ:Hid (Lx.quoted k (s.data.toList.drop (k+1)) [] 1=.ok ⟨k,5,l,0⟩ (m+1-k)):=HE.o.symm.trans (by
     rw[HD.o,zigZ He.o,show m-k+1=m+1-k from by omega])
    obtain⟨⟨p0,p1,p2,p3,p4,p5,p6⟩,⟨g0,g1,g2,g3,g4,g5,g6⟩,hl0⟩:=zfZ HZ.o;have Hn:(convert 98 9 (.slice A0 l.length cap0)).run Tryz.prog wr=.ok (.string ⟨l.toArray⟩) wr:=zdpZ HO.o;go_wp2_with fail;refine ylZ (v:=.agg #[.int .i64 (k:Int),.int .i64 5,.string ⟨l.toArray⟩,.int .i64 0,.int .i64 ((m:Int)+1),.int .i64 0,.int .i64 0]) (by simp[results, Tryz.results169,go_sem,p0,p1,p2,p3,p4,p5,p6,g0,g1,g2,g3,g4,g5,g6,hl0]) rfl ?_;rw[HQ.o];have H7:=HB.o;refine⟨?_,?_⟩
    ·simp only[cutV];rw[show k+(m+1-k)=m+1 by omega];rfl
    ·repeat (first | (with_reducible exact H7) | (with_reducible refine BSet ?_ (ybZ _)) | (with_reducible refine BSet ?_ H7.size) | (with_reducible refine BAlloc ?_))
   ·have b34:=u8f _ 34 h34;have He:=zh h34;clear h34
    cases hp:plainB (s[m]'hlt)with
    | true=>
     rw[hp]at H2;have HP:=zh (zmgZ hp);clear hp;have HQ:Hid (Lx.quoted k (s.data.toList.drop (m+1)) (l++[s[m]'hlt]) (m+1-k)=Lx.quoted k (s.data.toList.drop (k+1)) [] 1):=(by have e:=HE.o;rw[HD.o,zfyZ HP.o.1 HP.o.2.1 HP.o.2.2,show m-k+1=m+1-k from by omega]at e;exact e);go_wp2_with (first
      | (go_at_call 182;refine H2.mono ?_;clear H2;rintro e w' ⟨rfl,H1⟩;rw[<-H1];clear H1)
      | (at_builtin;refine zcnZ (w.heap.size+1) rfl (.tmp 25) (.tmp 29) rfl _ l (s[m]'hlt) rfl rfl HO.o (by omega) (by omega) ?_;intro v1 w1 hown H5;have hQ1:=Hd.o.row2 H5 (fun g hg=>OwnB.base HO.o g hg)))
     have Ha:=zh hown;have H6:=zh hQ1;clear hown H5 hQ1;go_roundg (s.size-(m+1))
     case measure=>have:=HN.o;omega
     case rel=>exact⟨m+1,_,rfl,rfl,by omega,by omega,H6.o,Ha.o,by simp;omega,HQ.o⟩
    | false=>
     rw[hp]at H2;by_cases h92:(s[m]'hlt).toNat=92
     ·have b92:=u8t _ 92 h92;have Hg:=zh h92;clear h92 hp;by_cases hend:m+1=s.size
      ·have bend:((m:Int)+1==(s.size:Int))=true:=(by simp;omega);have Hi:=zh hend;clear hend;have HQ:Hid (Lx.quoted k (s.data.toList.drop (k+1)) [] 1=.bad 12 (m+1)):=HE.o.symm.trans (by
        rw[HD.o,yNZ (i:=m+1) (by rw[zhZ,Hi.o];exact ybZ _),zihZ Hg.o,show k+(m-k)+1=m+1 from by omega])
       have H3:=zbwZ 12 ((m:Int)+1) wr;have HX:=HZ.o;go_wp2_with (first
        | (go_at_call 182;refine H2.mono ?_;clear H2;rintro e w' ⟨rfl,H1⟩;rw[<-H1];clear H1)
        | (go_at_call 170;refine H3.mono ?_;clear H3;rintro e W3 ⟨rfl,H4⟩;obtain⟨⟨a0,a1,a2,a3,a4,a5,a6⟩,⟨f0,f1,f2,f3,f4,f5,f6⟩,hl3⟩:=zfZ ((H4.block _ Hb).trans HX)))
       refine ylZ (v:=.agg #[.int .i64 0,.int .i64 0,.string ⟨#[]⟩,.int .i64 0,.int .i64 0,.int .i64 12,.int .i64 ((m:Int)+1)]) (by simp[results, Tryz.results169,go_sem,a0,a1,a2,a3,a4,a5,a6,f0,f1,f2,f3,f4,f5,f6,hl3]) rfl ?_;rw[HQ.o];have H7:=Below.chain HB.o H4;refine⟨rfl,?_⟩
       repeat (first | (with_reducible exact H7) | with_reducible refine BSet ?_ (ybZ _))
      ·have bend:((m:Int)+1==(s.size:Int))=false:=(by simp;omega);have H0:m+1<s.size:=(by omega);have Hq:(m:Int)+1<(s.size:Int):=(by omega);have Hk:(0:Int)<=(m:Int)+1:=(by omega);have Hh:=zh (zkZ s (m+1) H0);have Hf:Hid (Lx.quoted k (s.data.toList.drop (k+1)) [] 1=if(s[m+1]'H0).toNat==110 then Lx.quoted k (s.data.toList.drop (m+1+1)) (l++[10]) (m-k+2)else if(s[m+1]'H0).toNat==34||(s[m+1]'H0).toNat==92 then Lx.quoted k (s.data.toList.drop (m+1+1)) (l++[s[m+1]'H0]) (m-k+2)else .bad 12 (k+(m-k)+1)):=
        HE.o.symm.trans (by rw[HD.o,Hh.o];exact zbtZ Hg.o)
       clear hend;by_cases h110:(s[m+1]'H0).toNat=110
       ·have c110:=u8t _ 110 h110;have HQ:Hid (Lx.quoted k (s.data.toList.drop (m+2)) (l++[10]) (m+2-k)=Lx.quoted k (s.data.toList.drop (k+1)) [] 1):=(by have e:=Hf.o;rw[if_pos (by simp[h110]),show m-k+2=m+2-k from by omega]at e;exact e.symm);clear h110;go_wp2_with (first
         | (go_at_call 182;refine H2.mono ?_;clear H2;rintro e w' ⟨rfl,H1⟩;rw[<-H1];clear H1)
         | (at_builtin;refine zcnZ (w.heap.size+1) rfl (.tmp 54) (.tmp 55) rfl _ l 10 rfl rfl HO.o (by omega) (by omega) ?_;intro v1 w1 hown H5;have hQ1:=Hd.o.row2 H5 (fun g hg=>OwnB.base HO.o g hg)))
        have Ha:=zh hown;have H6:=zh hQ1;clear hown H5 hQ1;go_roundg (s.size-(m+2))
        case measure=>have:=HN.o;omega
        case rel=>exact⟨m+2,_,rfl,rfl,by omega,by omega,H6.o,Ha.o,by simp;omega,HQ.o⟩
       ·have c110:=u8f _ 110 h110;by_cases hq:(s[m+1]'H0).toNat=34\/(s[m+1]'H0).toNat=92
        ·have HQ:Hid (Lx.quoted k (s.data.toList.drop (m+2)) (l++[s[m+1]'H0]) (m+2-k)=Lx.quoted k (s.data.toList.drop (k+1)) [] 1):=(by have e:=Hf.o;rw[if_neg (by simpa using h110),if_pos (by simpa using hq),show m-k+2=m+2-k from by omega]at e;exact e.symm);clear h110;by_cases h34b:(s[m+1]'H0).toNat=34
         ·have c34:=u8t _ 34 h34b;clear h34b hq;go_wp2_with (first
           | (go_at_call 182;refine H2.mono ?_;clear H2;rintro e w' ⟨rfl,H1⟩;rw[<-H1];clear H1)
           | (at_builtin;refine zcnZ (w.heap.size+1) rfl (.tmp 60) (.tmp 64) rfl _ l (s[m+1]'H0) rfl rfl HO.o (by omega) (by omega) ?_;intro v1 w1 hown H5;have hQ1:=Hd.o.row2 H5 (fun g hg=>OwnB.base HO.o g hg)))
          have Ha:=zh hown;have H6:=zh hQ1;clear hown H5 hQ1;go_roundg (s.size-(m+2))
          case measure=>have:=HN.o;omega
          case rel=>exact⟨m+2,_,rfl,rfl,by omega,by omega,H6.o,Ha.o,by simp;omega,HQ.o⟩
         ·have c34:=u8f _ 34 h34b;have c92:=u8t _ 92 (by omega:(s[m+1]'H0).toNat=92);clear h34b hq;go_wp2_with (first
           | (go_at_call 182;refine H2.mono ?_;clear H2;rintro e w' ⟨rfl,H1⟩;rw[<-H1];clear H1)
           | (at_builtin;refine zcnZ (w.heap.size+1) rfl (.tmp 60) (.tmp 64) rfl _ l (s[m+1]'H0) rfl rfl HO.o (by omega) (by omega) ?_;intro v1 w1 hown H5;have hQ1:=Hd.o.row2 H5 (fun g hg=>OwnB.base HO.o g hg)))
          have Ha:=zh hown;have H6:=zh hQ1;clear hown H5 hQ1;go_roundg (s.size-(m+2))
          case measure=>have:=HN.o;omega
          case rel=>exact⟨m+2,_,rfl,rfl,by omega,by omega,H6.o,Ha.o,by simp;omega,HQ.o⟩
        ·have HQ:Hid (Lx.quoted k (s.data.toList.drop (k+1)) [] 1=.bad 12 (m+1)):=(by have e:=Hf.o;rw[if_neg (by simpa using h110),if_neg (by simpa using hq),show k+(m-k)+1=m+1 from by omega]at e;exact e);have c34:=u8f _ 34 (by omega:¬(s[m+1]'H0).toNat=34);have c92:=u8f _ 92 (by omega:¬(s[m+1]'H0).toNat=92);clear h110 hq;have H3:=zbwZ 12 ((m:Int)+1) wr;have HX:=HZ.o;go_wp2_with (first
          | (go_at_call 182;refine H2.mono ?_;clear H2;rintro e w' ⟨rfl,H1⟩;rw[<-H1];clear H1)
          | (go_at_call 170;refine H3.mono ?_;clear H3;rintro e W3 ⟨rfl,H4⟩;obtain⟨⟨a0,a1,a2,a3,a4,a5,a6⟩,⟨f0,f1,f2,f3,f4,f5,f6⟩,hl3⟩:=zfZ ((H4.block _ Hb).trans HX)))
         refine ylZ (v:=.agg #[.int .i64 0,.int .i64 0,.string ⟨#[]⟩,.int .i64 0,.int .i64 0,.int .i64 12,.int .i64 ((m:Int)+1)]) (by simp[results, Tryz.results169,go_sem,a0,a1,a2,a3,a4,a5,a6,f0,f1,f2,f3,f4,f5,f6,hl3]) rfl ?_;rw[HQ.o];have H7:=Below.chain HB.o H4;refine⟨rfl,?_⟩
         repeat (first | (with_reducible exact H7) | with_reducible refine BSet ?_ (ybZ _))
     ·have b92:=u8f _ 92 h92;have HQ:Hid (Lx.quoted k (s.data.toList.drop (k+1)) [] 1=.bad 12 m):=HE.o.symm.trans (by
       rw[HD.o,zewZ He.o h92 (zkqZ hp He.o h92),show k+(m-k)=m from by omega])
      clear h92 hp;have H3:=zbwZ 12 (m:Int) wr;have HX:=HZ.o;go_wp2_with (first
       | (go_at_call 182;refine H2.mono ?_;clear H2;rintro e w' ⟨rfl,H1⟩;rw[<-H1];clear H1)
       | (go_at_call 170;refine H3.mono ?_;clear H3;rintro e W3 ⟨rfl,H4⟩;obtain⟨⟨a0,a1,a2,a3,a4,a5,a6⟩,⟨f0,f1,f2,f3,f4,f5,f6⟩,hl3⟩:=zfZ ((H4.block _ Hb).trans HX)))
      refine ylZ (v:=.agg #[.int .i64 0,.int .i64 0,.string ⟨#[]⟩,.int .i64 0,.int .i64 0,.int .i64 12,.int .i64 (m:Int)]) (by simp[results, Tryz.results169,go_sem,a0,a1,a2,a3,a4,a5,a6,f0,f1,f2,f3,f4,f5,f6,hl3]) rfl ?_;rw[HQ.o];have H7:=Below.chain HB.o H4;refine⟨rfl,?_⟩
      repeat (first | (with_reducible exact H7) | with_reducible refine BSet ?_ (ybZ _))
  ·have hi:¬(m:Int)<(s.size:Int):=(by omega);have bsz:((m:Int)==(s.size:Int))=true:=(by simp;omega);have HM:=zh hlt;have HQ:Hid (Lx.quoted k (s.data.toList.drop (k+1)) [] 1=.bad 12 m):=HE.o.symm.trans (by
    rw[yNZ (by rw[zhZ];have:=HM.o;omega),Lx.quoted,show k+(m-k)=m from by omega])
   have H3:=zbwZ 12 (m:Int) wr;have HX:=HZ.o;go_wp2_with (first
    | (go_at_call 170;refine H3.mono ?_;clear H3;rintro e W3 ⟨rfl,H4⟩;obtain⟨⟨a0,a1,a2,a3,a4,a5,a6⟩,⟨f0,f1,f2,f3,f4,f5,f6⟩,hl3⟩:=zfZ ((H4.block _ Hb).trans HX)))
   refine ylZ (v:=.agg #[.int .i64 0,.int .i64 0,.string ⟨#[]⟩,.int .i64 0,.int .i64 0,.int .i64 12,.int .i64 (m:Int)]) (by simp[results, Tryz.results169,go_sem,a0,a1,a2,a3,a4,a5,a6,f0,f1,f2,f3,f4,f5,f6,hl3]) rfl ?_;rw[HQ.o];have H7:=Below.chain HB.o H4;refine⟨rfl,?_⟩
   repeat (first | (with_reducible exact H7) | with_reducible refine BSet ?_ (ybZ _))
def cutR (p:Nat) (l:Lx.Bytes):Lx.Res:=if(l.head?.map Lx.begins).getD false then Lx.cut p l else .bad 10 p
theorem zbzZ {p:Nat} {b:UInt8} {t:Lx.Bytes} (h:Lx.begins b=true):cutR p (b::t)=Lx.cut p (b::t):=by
 simp[cutR,h]
theorem zmhZ {p:Nat} {b:UInt8} {t:Lx.Bytes} (h:Lx.begins b=false):cutR p (b::t)=.bad 10 p:=by
 simp[cutR,h]
theorem zhzZ (m:Nat) (h0:m≠0) (h:m<14):sgs.getD m []=[firsts.getD m 0]:=by
 have H0:((List.range 14).all fun m=>m==0||sgs.getD m []==[firsts.getD m 0])=true:=by decide
 have:=yZZ.1 H0 m (List.mem_range.2 h);simpa[h0]using this
theorem zqxZ (b:UInt8) (h:firsts.contains b=true):∃m,m≠0/\m<14/\firsts.getD m 0=b:=by
 have H0:∀x∈firsts,((List.range 14).any fun m=>m != 0&&firsts.getD m 0==x)=true:=by decide
 have:=List.any_eq_true.1 (H0 b (ySZ.1 h));obtain⟨m,hm,he⟩:=this;simp only[ygZ,bne_iff_ne,ne_eq,ytZ]at he;exact⟨m,he.1,List.mem_range.1 hm,he.2⟩
theorem zqyZ (m:Nat) (h:m<14):firsts.contains (firsts.getD m 0)=true:=by
 have H0:((List.range 14).all fun m=>firsts.contains (firsts.getD m 0))=true:=by decide
 exact yZZ.1 H0 m (List.mem_range.2 h)
theorem znwZ (c b:UInt8) (t:Lx.Bytes):List.isPrefixOf [c] (b::t)=(c==b):=by simp[List.isPrefixOf]
theorem znxZ (b:UInt8) (t:Lx.Bytes):List.isPrefixOf [61,61] (b::t)=(b.toNat==61&&t.head? ==some 61):=by
 have hb:((61:UInt8)==b)=(b.toNat==61):=by rw[yEZ];simp only[ytZ];exact⟨fun h=>by rw[<-h];rfl,fun h=>(ybbZ.1 (by simpa using h)).symm⟩
 cases t with
 | nil=>simp[List.isPrefixOf]
 | cons d t=>have hd:((61:UInt8)==d)=(d==61):=(by rw[yEZ];simp only[ytZ];exact⟨Eq.symm,Eq.symm⟩);simp[List.isPrefixOf,hb,hd]
theorem ztsZ {p:Nat} {b:UInt8} {t:Lx.Bytes} {m:Nat} (hm:m<14) (hl:Lx.letter b=false) (hd:Lx.digit b=false) (h34:¬b.toNat=34)
  (hp:(sgs.getD m []).isPrefixOf (b::t)=true) (hn:∀j,j<m->(sgs.getD j []).isPrefixOf (b::t)=false) :
  cutR p (b::t)=.ok ⟨p,6,sgs.getD m [],0⟩ (sgs.getD m []).length:=by
 have H1:(b.toNat==34)=false:=by simpa using h34
 rcases yLZ m with rfl | hpos
 ·have e:sgs.getD 0 []=[61,61]:=rfl;rw[e,znxZ]at hp;have hb:b.toNat=61:=(by simp at hp;exact hp.1);have H0:Lx.begins b=true:=(by have:b=61:=ybbZ.1 hb;subst this;decide);rw[zbzZ H0,e];simp[Lx.cut,hl,hd,H1,hp]
 ·rw[zhzZ m (by omega) hm,znwZ]at hp;have H2:firsts.getD m 0=b:=(by simpa using hp);have H0:Lx.begins b=true:=(by have:=zqyZ m hm;rw[H2,zgqZ]at this;unfold Lx.begins;rw[this];simp);have h0:=hn 0 hpos;rw[show sgs.getD 0 []=[61,61]from rfl,znxZ]at h0;rw[zbzZ H0,zhzZ m (by omega) hm,H2];simp only[Lx.cut,hl,hd,H1,h0];simp
theorem zttZ {p:Nat} {b:UInt8} {t:Lx.Bytes} (hl:Lx.letter b=false) (hd:Lx.digit b=false) (h34:¬b.toNat=34)
  (hn:∀j,j<14->(sgs.getD j []).isPrefixOf (b::t)=false):cutR p (b::t)=.bad 10 p:=by
 have H0:(b.toNat==34)=false:=by simpa using h34
 apply zmhZ;unfold Lx.begins;rw[hl,hd,H0,<-zgqZ];simp only[Bool.false_or]
 cases hf:firsts.contains b with
 | false=>rfl
 | true=>exfalso;obtain⟨m,h0,hm,e⟩:=zqxZ b hf;have:=hn m hm;rw[zhzZ m h0 hm,znwZ,e]at this;simp at this
theorem zfkZ (p:Nat) (r:Lx.Res):∃(a b:Int) (c:ByteArray) (d e f h:Int),cutV p r=.agg #[.int .i64 a,.int .i64 b,.string c,.int .i64 d,.int .i64 e,.int .i64 f,.int .i64 h]:=by
 cases r with
 | ok t n=>exact⟨_,_,_,_,_,_,_,rfl⟩
 | bad y x=>exact⟨_,_,_,_,_,_,_,rfl⟩
theorem pre_take {x l:Lx.Bytes} (h:x.length<=l.length):x.isPrefixOf l=(l.take x.length==x):=by
 rw[yEZ,List.isPrefixOf_iff_prefix,ytZ,List.prefix_iff_eq_take];exact⟨Eq.symm,Eq.symm⟩
theorem zqzZ {x l:Lx.Bytes} (h:l.length<x.length):x.isPrefixOf l=false:=by
 rw[<-Bool.not_eq_true,List.isPrefixOf_iff_prefix];intro hp;have:=hp.length_le;omega
theorem BDrew {B:Nat} {w W:World} (h:Below B w W):Below B w W.drew:=⟨h.os,h.tape,h.output,h.size,h.block⟩
theorem zyaZ (s:ByteArray) (k:Nat) (w:World) (hk:k<s.size) (hs:s.size<=140737488351232) :
  Calls Tryz.prog 152 #[.string s,.int .i64 (k:Int)] w fun e w'=>e=.returned (cutV k (cutR k (s.data.toList.drop k)))/\Below w.heap.size w w':=by
 have Jf:(s.size:Int)<=140737488351232:=by omega
 have Jb:(k:Int)<(s.size:Int):=by omega
 have Je:(0:Int)<=(k:Int):=by omega
 have HD:=zh (zkZ s k hk);go_enter Tryz.func152, Tryz.ntmps152;go_upto_region 1 with fail
 have H4:=ydZ w (.cells #[.int .i64 0,.int .i64 0,.string ⟨#[]⟩,.int .i64 0,.int .i64 0,.int .i64 0,.int .i64 0] 193);have hb:=zeZ (yeZ w (.cells #[.int .i64 0,.int .i64 0,.string ⟨#[]⟩,.int .i64 0,.int .i64 0,.int .i64 0,.int .i64 0] 193) none);have Hc:(w.alloc (.cells #[.int .i64 0,.int .i64 0,.string ⟨#[]⟩,.int .i64 0,.int .i64 0,.int .i64 0,.int .i64 0] 193)).heap.size=w.heap.size+1:=by rw[World.size_alloc]
 obtain⟨W1,hW1⟩:=zE (w.alloc (.cells #[.int .i64 0,.int .i64 0,.string ⟨#[]⟩,.int .i64 0,.int .i64 0,.int .i64 0,.int .i64 0] 193));rw[hW1]at H4 hb Hc ⊢;have HZ:=zh H4;have HB:=zh hb;have He:=zaZ H4;clear H4 hW1 hb;by_cases hlet:Lx.letter (s[k]'hk)=true
 ·have HR:=zh (show cutR k (s.data.toList.drop k)=Lx.cutName k (s.data.toList.drop k)by
   rw[HD.o,zbzZ (by simp[Lx.begins,hlet])];simp only[Lx.cut,hlet,ycbZ])
  have h2:Lx.small (s[k]'hk)=true\/(Lx.small (s[k]'hk)=false/\Lx.great (s[k]'hk)=true):=by
   have h:=hlet;unfold Lx.letter at h
   cases hsm:Lx.small (s[k]'hk)with
   | true=>exact .inl rfl
   | false=>rw[hsm,Bool.false_or]at h;exact .inr ⟨rfl,h⟩
  rcases h2 with hsm | ⟨hsm,hgr⟩
  all_goals
   have H6:=fun X=>zwcZ s k X hk hs hlet;obtain⟨l0,l1,l2,l3,l4,l5,l6,hcv⟩:=zfkZ k (Lx.cutName k (s.data.toList.drop k));have H8:=zh hcv;go_wp2_with (first
    | (go_at_call 164;refine(zcfZ _ _).mono ?_;rw[hsm];rintro e w' ⟨rfl,H0⟩;rw[<-H0];clear H0)
    | (go_at_call 165;refine(zbpZ _ _).mono ?_;rw[hgr];rintro e w' ⟨rfl,H0⟩;rw[<-H0];clear H0)
    | (go_at_call 166;refine(zbvZ _ _).mono ?_;rw[H3];rintro e w' ⟨rfl,H0⟩;rw[<-H0];clear H0)
    | (go_at_call 167;refine(H6 _).mono ?_;rw[hcv];clear H6;rintro e W3 ⟨rfl,H2⟩;obtain⟨⟨a0,a1,a2,a3,a4,a5,a6⟩,⟨f0,f1,f2,f3,f4,f5,f6⟩,hl3⟩:=zfZ ((H2.block _ He).trans HZ.o)))
   refine ylZ (v:=.agg #[.int .i64 l0,.int .i64 l1,.string l2,.int .i64 l3,.int .i64 l4,.int .i64 l5,.int .i64 l6]) (by simp[results, Tryz.results152,go_sem,a0,a1,a2,a3,a4,a5,a6,f0,f1,f2,f3,f4,f5,f6,hl3]) rfl ?_;rw[HR.o,H8.o];have H5:=Below.chain HB.o H2;refine⟨rfl,?_⟩
   repeat (first | (with_reducible exact H5) | with_reducible refine BSet ?_ (ybZ _))
 ·have Hb:Lx.letter (s[k]'hk)=false:=(by simpa using hlet);have Hx:Lx.small (s[k]'hk)=false/\Lx.great (s[k]'hk)=false:=(by simpa[Lx.letter]using Hb);obtain⟨hsm,hgr⟩:=Hx
  cases H3:Lx.digit (s[k]'hk)with
  | true=>
   have HR:=zh (show cutR k (s.data.toList.drop k)=Lx.cutNumber k (s.data.toList.drop k)by
    rw[HD.o,zbzZ (by simp[Lx.begins,H3])];simp only[Lx.cut,Hb,H3,ycbZ,Bool.false_eq_true,yXZ])
   have H6:=fun X=>zqvZ s k X hk hs H3;obtain⟨l0,l1,l2,l3,l4,l5,l6,hcv⟩:=zfkZ k (Lx.cutNumber k (s.data.toList.drop k));have H8:=zh hcv;go_wp2_with (first
    | (go_at_call 164;refine(zcfZ _ _).mono ?_;rw[hsm];rintro e w' ⟨rfl,H0⟩;rw[<-H0];clear H0)
    | (go_at_call 165;refine(zbpZ _ _).mono ?_;rw[hgr];rintro e w' ⟨rfl,H0⟩;rw[<-H0];clear H0)
    | (go_at_call 166;refine(zbvZ _ _).mono ?_;rw[H3];rintro e w' ⟨rfl,H0⟩;rw[<-H0];clear H0)
    | (go_at_call 168;refine(H6 _).mono ?_;rw[hcv];clear H6;rintro e W3 ⟨rfl,H2⟩;obtain⟨⟨a0,a1,a2,a3,a4,a5,a6⟩,⟨f0,f1,f2,f3,f4,f5,f6⟩,hl3⟩:=zfZ ((H2.block _ He).trans HZ.o)))
   refine ylZ (v:=.agg #[.int .i64 l0,.int .i64 l1,.string l2,.int .i64 l3,.int .i64 l4,.int .i64 l5,.int .i64 l6]) (by simp[results, Tryz.results152,go_sem,a0,a1,a2,a3,a4,a5,a6,f0,f1,f2,f3,f4,f5,f6,hl3]) rfl ?_;rw[HR.o,H8.o];have H5:=Below.chain HB.o H2;refine⟨rfl,?_⟩
   repeat (first | (with_reducible exact H5) | with_reducible refine BSet ?_ (ybZ _))
  | false=>
   by_cases h34:(s[k]'hk).toNat=34
   ·have b34:=u8t _ 34 h34;have HR:=zh (show cutR k (s.data.toList.drop k)=Lx.quoted k (s.data.toList.drop (k+1)) [] 1 by
     rw[HD.o,zbzZ (by simp[Lx.begins,h34])];simp only[Lx.cut,Hb,H3,h34,beq_self_eq_true,ycbZ,Bool.false_eq_true,yXZ])
    clear h34;have H6:=fun X=>zqwZ s k X hk hs;obtain⟨l0,l1,l2,l3,l4,l5,l6,hcv⟩:=zfkZ k (Lx.quoted k (s.data.toList.drop (k+1)) [] 1);have H8:=zh hcv;go_wp2_with (first
     | (go_at_call 164;refine(zcfZ _ _).mono ?_;rw[hsm];rintro e w' ⟨rfl,H0⟩;rw[<-H0];clear H0)
     | (go_at_call 165;refine(zbpZ _ _).mono ?_;rw[hgr];rintro e w' ⟨rfl,H0⟩;rw[<-H0];clear H0)
     | (go_at_call 166;refine(zbvZ _ _).mono ?_;rw[H3];rintro e w' ⟨rfl,H0⟩;rw[<-H0];clear H0)
     | (go_at_call 169;refine(H6 _).mono ?_;rw[hcv];clear H6;rintro e W3 ⟨rfl,H2⟩;obtain⟨⟨a0,a1,a2,a3,a4,a5,a6⟩,⟨f0,f1,f2,f3,f4,f5,f6⟩,hl3⟩:=zfZ ((H2.block _ He).trans HZ.o)))
    refine ylZ (v:=.agg #[.int .i64 l0,.int .i64 l1,.string l2,.int .i64 l3,.int .i64 l4,.int .i64 l5,.int .i64 l6]) (by simp[results, Tryz.results152,go_sem,a0,a1,a2,a3,a4,a5,a6,f0,f1,f2,f3,f4,f5,f6,hl3]) rfl ?_;rw[HR.o,H8.o];have H5:=Below.chain HB.o H2;refine⟨rfl,?_⟩
    repeat (first | (with_reducible exact H5) | with_reducible refine BSet ?_ (ybZ _))
   ·have b34:=u8f _ 34 h34;have Ht:=zh h34;clear h34 hlet;go_upto_region 9 with(first
 | (go_at_call 164;refine(zcfZ _ _).mono ?_;rw[hsm];rintro e w' ⟨rfl,H0⟩;rw[<-H0];clear H0)
 | (go_at_call 165;refine(zbpZ _ _).mono ?_;rw[hgr];rintro e w' ⟨rfl,H0⟩;rw[<-H0];clear H0)
 | (go_at_call 166;refine(zbvZ _ _).mono ?_;rw[H3];rintro e w' ⟨rfl,H0⟩;rw[<-H0];clear H0)
     | (go_at_call 139;refine(zhxZ _).mono ?_;rintro e W2 ⟨rfl,hWe⟩;rw[hWe];clear hWe))
    have H1:=ydZ W1 (.cells sgCells 9);have Hd:=heap_alloc HZ.o (.cells sgCells 9);have Hk:=HB.o.alloc HB.o.size (.cells sgCells 9);have Hh:(W1.alloc (.cells sgCells 9)).heap.size=w.heap.size+2:=(by rw[World.size_alloc,Hc]);rw[Hc]at H1;obtain⟨W2,hW2⟩:=zE (W1.alloc (.cells sgCells 9));rw[hW2]at H1 Hd Hk Hh ⊢;have J0:=zh H1;have J8:=zh Hd;have Hv:=zh Hk;have HL:=zh (And.intro Hb H3);have J2:=zaZ Hd;have Hw:=zaZ H1;clear H1 Hd Hk hW2 HZ HB He Hc Hb hsm hgr H3 b34;go_wp2_with fail;go_loopg [7] 14 (fun n v wr=>∃(m:Nat),n=14-m/\v=.int .i64 (m:Int)/\m<=14/\wr.heap=W2.heap/\Below w.heap.size w wr/\∀j,j<m->(sgs.getD j []).isPrefixOf (s.data.toList.drop k)=false)
    case atStart=>exact⟨0,rfl,rfl,yxZ _,rfl,Hv.o,fun j h=>absurd h (Nat.not_lt_zero j)⟩
    case round=>
     obtain⟨m,hn,rfl,hm,hwq,hwb,hc⟩:=hrel;have HN:=zh hn;have HC:=zh hc;have Hr:=zh hwq;have Hl:Hid (wr.heap[w.heap.size+1]? =some (.cells sgCells 9 (0,0))):=zh (by rw[hwq];exact J0.o);have Hn:Hid (wr.heap[w.heap.size]? =some (.cells #[.int .i64 0,.int .i64 0,.string ⟨#[]⟩,.int .i64 0,.int .i64 0,.int .i64 0,.int .i64 0] 193 (0,0))):=zh (by rw[hwq];exact J8.o);have Hg:Hid (Below w.heap.size w wr):=zh hwb;have H9:=zaZ Hn.o;have Hj:=zaZ Hl.o;clear hn hc hwq hwb;by_cases hlt:m<14
     ·have J4:(m:Int)<14:=(by omega);have Jc:(0:Int)<=(m:Int):=(by omega);have t0:=(zdZ Hl.o m).trans (zfjZ m hlt);obtain⟨x,hx⟩:=zE (sgs.getD m []);have HX:=zh hx;rw[hx]at t0;have Hy:x.length<=2:=(by have J3:((List.range 14).all fun m=>decide ((sgs.getD m []).length<=2))=true:=(by decide);have:=yZZ.1 J3 m (List.mem_range.2 hlt);rw[hx]at this;simpa using this);obtain⟨S,hS⟩:∃S:ByteArray,(⟨x.toArray⟩:ByteArray)=S:=⟨_,rfl⟩;have Hz:=zh (show S.data.toList=x by rw[<-hS]);have hSl:S.size=x.length:=(by rw[<-hS];rfl);have Hf:=zh hSl;rw[hS]at t0;have hS2:(S.size:Int)<=2:=(by omega);have hS0:(0:Int)<=(S.size:Int):=(by omega);have Jg:IntKind.i64.wrap ((k:Int)+(S.size:Int))=(k:Int)+(S.size:Int):=(by rw[yQZ];omega);have Ja:=zh hS;clear hx hS hSl Hy;by_cases hfit:k+S.size<=s.size
      ·have J1:(k:Int)+(S.size:Int)<=(s.size:Int):=(by omega);have HP:=zh (show x.isPrefixOf (s.data.toList.drop k)=((s.data.toList.drop k).take S.size==x)by
        rw[pre_take (by rw[yhbZ,zhZ,<-Hf.o];omega),Hf.o])
       obtain⟨E,hE⟩:∃E:ByteArray,s.extract k (k+S.size)=E:=⟨_,rfl⟩;have H7:(E.toList==S.toList)=((s.data.toList.drop k).take S.size==x):=(by rw[yebZ,yebZ,<-hE,zbsZ,Hz.o,show k+S.size-k=S.size by omega]);clear hfit
       cases hq:((s.data.toList.drop k).take S.size==x)with
       | true=>
        rw[hq]at H7 HP;have HR:=zh (show cutR k (s.data.toList.drop k)=.ok ⟨k,6,x,0⟩ x.length by
         rw[HD.o];have:=ztsZ (p:=k) hlt HL.o.1 HL.o.2 Ht.o (by rw[HX.o,<-HD.o];exact HP.o) (by rw[<-HD.o];exact HC.o);rw[HX.o]at this;exact this)
        clear hq;go_wp2_with fail;go_quiet (fail);obtain⟨W4,hW4⟩:=zE (wr.drewN nq);have J7:Hid (W4.heap[w.heap.size+1]? =some (.cells sgCells 9 (0,0))):=zh (by rw[<-hW4];exact Hl.o);have Hq:Hid (W4.heap[w.heap.size]? =some (.cells #[.int .i64 0,.int .i64 0,.string ⟨#[]⟩,.int .i64 0,.int .i64 0,.int .i64 0,.int .i64 0] 193 (0,0))):=zh (by rw[<-hW4];exact Hn.o);have Hu:Hid (Below w.heap.size w W4):=zh (by rw[<-hW4];exact Below.drewN Hg.o _);have s0:W4.cell? ⟨w.heap.size+1,m,none⟩=some (.string S):=(by rw[<-hW4];exact t0);have Ho:=zaZ Hq.o;have Hi:=zaZ J7.o;rw[hW4];clear hW4 t0 H9 Hj;go_upto_region 15 with fail;have ht:=ydZ W4 (.cells #[.int .i64 (k:Int),.int .i64 6,.string S,.int .i64 0] 133);have Hm:=heap_alloc Hq.o (.cells #[.int .i64 (k:Int),.int .i64 6,.string S,.int .i64 0] 133);have Hp:=Hu.o.alloc Hu.o.size (.cells #[.int .i64 (k:Int),.int .i64 6,.string S,.int .i64 0] 133);have s5:(W4.alloc (.cells #[.int .i64 (k:Int),.int .i64 6,.string S,.int .i64 0] 133)).cell? ⟨w.heap.size+1,m,none⟩=some (.string S):=(World.cell?_of_block (Below.heap_alloc W4 _ _ Hi)).trans s0;have Ha:=World.size_alloc W4 (.cells #[.int .i64 (k:Int),.int .i64 6,.string S,.int .i64 0] 133);obtain⟨L,hL⟩:=zE (W4.heap.size);obtain⟨W5,hW5⟩:=zE (W4.alloc (.cells #[.int .i64 (k:Int),.int .i64 6,.string S,.int .i64 0] 133));rw[hL]at ht Ho Hi;rw[hL,hW5]at Ha;rw[hW5]at ht Hm Hp s5;rw[hL,hW5];obtain⟨t0,t1,t2,t3⟩:=zgZ ht;obtain⟨⟨p0,p1,p2,p3,p4,p5,p6⟩,⟨g0,g1,g2,g3,g4,g5,g6⟩,hl0⟩:=zfZ Hm;have J9:=zaZ ht;have J6:w.heap.size+1<W5.heap.size:=(by omega);have J5:=zh Hp;clear hL hW5 s0 Hp Hm ht Ha Ho Hi hE H7
        go_region
        go_wp2_with fail
        refine ylZ (v:=.agg #[.int .i64 (k:Int),.int .i64 6,.string S,.int .i64 0,.int .i64 ((k:Int)+(S.size:Int)),.int .i64 0,.int .i64 0]) (by simp[results, Tryz.results152,go_sem,p0,p1,p2,p3,p4,p5,p6,g0,g1,g2,g3,g4,g5,g6,hl0]) rfl ?_;rw[HR.o];have H5:=J5.o;refine⟨?_,?_⟩
        ·simp only[cutV,Ja.o];rw[<-Hf.o];rfl
        ·refine BDrew ?_
         repeat (first | (with_reducible exact H5) | with_reducible refine BSet ?_ (ybZ _))
       | false=>
        rw[hq]at H7 HP;clear hq;go_wp2_with fail;go_quiet (fail);go_wp2_with fail
        go_roundg (14-(m+1))
        case measure=>have:=HN.o;omega
        case rel=>exact⟨m+1,rfl,by simp,hlt,Hr.o,Below.drewN Hg.o _,fun j hj=>by
        rcases Nat.lt_or_ge j m with h | h
        ·exact HC.o j h
        ·rw[show j=m by omega,HX.o];exact HP.o⟩
      ·have J1:decide ((k:Int)+(S.size:Int)<=(s.size:Int))=false:=(by simp;omega);have HP:=zh (show x.isPrefixOf (s.data.toList.drop k)=false from zqzZ (by rw[yhbZ,zhZ,<-Hf.o];omega));clear hfit;go_wp2_with fail;go_quiet (fail);go_wp2_with fail
       go_roundg (14-(m+1))
       case measure=>have:=HN.o;omega
       case rel=>exact⟨m+1,rfl,by simp,hlt,Hr.o,Below.drewN Hg.o _,fun j hj=>by
        rcases Nat.lt_or_ge j m with h | h
        ·exact HC.o j h
        ·rw[show j=m by omega,HX.o];exact HP.o⟩
     ·have J4:¬(m:Int)<14:=(by omega);have HR:=zh (show cutR k (s.data.toList.drop k)=.bad 10 k by
       rw[HD.o];refine zttZ HL.o.1 HL.o.2 Ht.o ?_;rw[<-HD.o];exact fun j hj=>HC.o j (by omega))
      have Hs:=zbwZ 10 (k:Int) wr;go_wp2_with (go_at_call 170;refine Hs.mono ?_;clear Hs;rintro e W3 ⟨rfl,H2⟩;obtain⟨⟨a0,a1,a2,a3,a4,a5,a6⟩,⟨f0,f1,f2,f3,f4,f5,f6⟩,hl3⟩:=zfZ ((H2.block _ H9).trans Hn.o));refine ylZ (v:=.agg #[.int .i64 0,.int .i64 0,.string ⟨#[]⟩,.int .i64 0,.int .i64 0,.int .i64 10,.int .i64 (k:Int)]) (by simp[results, Tryz.results152,go_sem,a0,a1,a2,a3,a4,a5,a6,f0,f1,f2,f3,f4,f5,f6,hl3]) rfl ?_;rw[HR.o];have H5:=Below.chain Hg.o H2;refine⟨rfl,?_⟩
      repeat (first | (with_reducible exact H5) | with_reducible refine BSet ?_ (ybZ _))
namespace Lx
def nameOk (t:Tok):Bool:=
 match toks t.s with
 | ([x],none)=>x.kind==t.kind&&(x.s==t.s&&t.n==0)
 | _=>false
def oneR (t:Tok):Bytes×Bool:=
 if t.kind=1\/t.kind=2\/t.kind=3 then(t.s,nameOk t)
 else if t.kind=4 then(if t.n<0\/t.s≠[]then([],false)else(Lib.decDigits t.n.toNat,true))
 else if t.kind=5 then(if t.s.all saidB then(quote t.s,t.n==0)else([],false))
 else if t.kind=6 then(if sgs.contains t.s then(t.s,t.n==0)else([],false))
 else([],false)
theorem zjjZ (l:Bytes):nameKind l=1\/nameKind l=2\/nameKind l=3:=by
 unfold nameKind;split
 ·exact .inr (.inr rfl)
 ·split
  ·exact .inr (.inl rfl)
  ·exact .inl rfl
theorem ztuZ (c:UInt8) (h:signs.contains c=true):sgs.contains [c]=true:=by
 have H0:∀x∈signs,sgs.contains [x]=true:=by decide
 exact H0 c (ySZ.1 h)
theorem ztvZ {s:Bytes} (h:sgs.contains s=true):s=[61,61]\/∃c,s=[c]/\signs.contains c=true:=by
 have H0:∀x∈sgs,x=[61,61]\/∃c∈signs,x=[c]:=by decide
 rcases H0 s (ySZ.1 h)with h | ⟨c,hc,e⟩
 ·exact .inl h
 ·exact .inr ⟨c,e,ySZ.2 hc⟩
theorem ztwZ {s:Bytes} {t:Tok} (h:Form s t.bare):oneR t=(s,true):=by
 obtain⟨p,k,u,n⟩:=t;simp only[Tok.bare]at h;generalize hb:(⟨0,k,u,n⟩:Tok)=b at h
 cases h with
 | name c s hc hs hl=>have hf:=Form.name c s hc hs hl;injection hb with _ hk hu hn;subst hk hu hn;have ht:=zssZ hf (by omega);unfold oneR nameOk;rw[if_pos (by rcases zjjZ (c::s)with h | h | h <;> rw[h] <;> simp)];simp[ht]
 | number c s hs hv hz=>injection hb with _ hk hu hn;subst hk hu hn;unfold oneR;rw[if_neg (by simp),if_pos rfl,if_neg (by simp)];show(Lib.decDigits (value (c::s)),true)=_;rw[zefZ hs hz]
 | text v hv=>injection hb with _ hk hu hn;subst hk hu hn;unfold oneR;rw[if_neg (by simp),if_neg (by simp),if_pos rfl,if_pos (by simpa using hv)];rfl
 | two=>injection hb with _ hk hu hn;subst hk hu hn;rfl
 | sign c hc=>injection hb with _ hk hu hn;subst hk hu hn;unfold oneR;rw[if_neg (by simp),if_neg (by simp),if_neg (by simp),if_pos rfl,if_pos (ztuZ c hc)];rfl
theorem ztxZ {t:Tok} (h1:t.n<=9223372036854775807) (h:(oneR t).2=true):Form (oneR t).1 t.bare:=by
 obtain⟨p,k,u,n⟩:=t;unfold oneR at h ⊢;simp only[Tok.bare]at *;by_cases hk:k=1\/k=2\/k=3
 ·rw[if_pos hk]at h ⊢;unfold nameOk at h;simp only at h ⊢
  cases ht:toks u with
  | mk l o=>
   rw[ht]at h
   match l,o,h,ht with
   | [x],none,h,ht=>
    simp only[ygZ,ytZ]at h;obtain⟨h2,h3,h4⟩:=h;have H0:go (u.length+1) 0 0 u=([x],none):=by
     unfold toks at ht;split at ht
     ·injection ht with _ h;cases h
     ·exact ht
    obtain⟨-,hp⟩:=zlsZ _ _ _ _ _ H0 (by omega);obtain⟨hf,-⟩:=hp x (yWZ.2 rfl);obtain⟨q,k',u',n'⟩:=x;simp only[Tok.bare]at *;subst h2 h3 h4;generalize hb:(⟨0,k',u',n'⟩:Tok)=b at hf;generalize (written _).1=S at hf
    cases hf with
    | name c s hc hs hl=>injection hb with _ hk hu hn;subst hk hu;exact Form.name c s hc hs hl
    | number c s hs hv hz=>injection hb with _ hk' hu hn;omega
    | text v hv=>injection hb with _ hk' hu hn;omega
    | two=>injection hb with _ hk' hu hn;omega
    | sign c hc=>injection hb with _ hk' hu hn;omega
   | [],none,h,_=>cases h
   | _::_::_,none,h,_=>cases h
   | [],some _,h,_=>cases h
   | _::_,some _,h,_=>simp at h
 ·rw[if_neg hk]at h ⊢;by_cases h4:k=4
  ·rw[if_pos h4]at h ⊢;by_cases hn:n<0\/u≠[]
   ·rw[if_pos hn]at h;cases h
   ·rw[if_neg hn]at h ⊢;have hu:u=[]:=by
     cases u with
     | nil=>rfl
     | cons a l=>exact absurd (.inr (by simp)) hn
    have H1:0<=n:=by
     rcases Int.lt_or_le n 0 with h | h
     ·exact absurd (.inl h) hn
     ·exact h
    subst hu h4;obtain⟨c,s,e1,e2,e3,e4⟩:=zeqZ n.toNat;have hf:=Form.number c s e2 (by omega) (fun h=>(e4 h).1);simp only;rw[e1];rw[e3]at hf;rw[show((n.toNat:Nat):Int)=n by omega]at hf;exact hf
  ·rw[if_neg h4]at h ⊢;by_cases h5:k=5
   ·rw[if_pos h5]at h ⊢;by_cases ha:u.all saidB=true
    ·rw[if_pos ha]at h ⊢;simp only[ytZ]at h;subst h h5;exact Form.text u (by simpa using ha)
    ·rw[if_neg ha]at h;cases h
   ·rw[if_neg h5]at h ⊢;by_cases h6:k=6
    ·rw[if_pos h6]at h ⊢;by_cases ha:sgs.contains u=true
     ·rw[if_pos ha]at h ⊢;simp only[ytZ]at h;subst h h6;rcases ztvZ ha with rfl | ⟨c,rfl,hc⟩
      ·exact Form.two
      ·exact Form.sign c hc
     ·rw[if_neg ha]at h;cases h
    ·rw[if_neg h6]at h;cases h
theorem one_written {t:Tok} (h1:t.n<=9223372036854775807):(oneR t).2=(written t).2/\((written t).2=true->oneR t=written t):=by
 have hw:(written t).2=true->oneR t=written t:=fun h=>by have hf:=form_of_written h;rw[ztwZ hf];exact Prod.ext rfl h.symm
 refine⟨?_,hw⟩
 cases h2:(written t).2 with
 | true=>rw[hw h2,h2]
 | false=>
  cases h:(oneR t).2 with
  | false=>rfl
  | true=>have:=written_of_form (ztxZ h1 h);rw[this]at h2;cases h2
theorem zdoZ (p:Nat):∀(m:Nat) (l acc:Bytes) (k y x:Nat),l.length<=m->quoted p l acc k=.bad y x->y=12
 | m,[],acc,k,y,x,_,h=>by simp only[quoted]at h;injection h with h1 h2;exact h1.symm
 | 0,c::l,acc,k,y,x,hm,h=>by simp at hm
 | m+1,c::l,acc,k,y,x,hm,h=>by
  have H1:l.length<=m:=(by simpa using hm);by_cases e34:c=34
  ·subst e34;simp[quoted]at h
  ·by_cases e92:c=92
   ·subst e92
    cases l with
    | nil=>simp only[quoted]at h;injection h with h1 h2;exact h1.symm
    | cons d l=>
     have H0:l.length<=m:=(by simp at H1;omega);rw[zbtZ]at h;split at h
     ·exact zdoZ p m l _ _ y x H0 h
     ·split at h
      ·exact zdoZ p m l _ _ y x H0 h
      ·injection h with h1 h2;exact h1.symm
   ·rw[zekZ p c l acc k e34 e92]at h;split at h
    ·injection h with h1 h2;exact h1.symm
    ·exact zdoZ p m l _ _ y x H1 h
theorem cut_why {p y x:Nat} {b:UInt8} {l:Bytes} (h:cut p (b::l)=.bad y x):y=2\/y=11\/y=12:=by
 simp only[cut]at h;split at h
 ·simp only[cutName]at h;split at h
  ·injection h with h1 h2;exact .inl h1.symm
  ·cases h
 ·split at h
  ·simp only[cutNumber]at h;split at h
   ·injection h with h1 h2;exact .inr (.inl h1.symm)
   ·cases h
  ·split at h
   ·exact .inr (.inr (zdoZ p _ l _ _ y x (ybZ _) h))
   ·split at h <;> cases h
end Lx
end Go.Proofs.YtdncljdfmdgdaaaGreatDoor
namespace Go.Proofs.YtdncljdfmdgdaaaGreatDoor
open Go.RowKit Go.Shelf
theorem OwnT.toks {w:World} {base:Nat} {v:Value} {l:List Lx.Tok} (h:OwnT w base v l):ToksIn w v l:=by
 rcases h.2 with⟨rfl,hn⟩ | ⟨g,cap,cur,rfl,hbg,hgb,hcap,hcm,hcs,htk⟩
 ·exact .inl ⟨yabZ.1 hn,none,0,rfl⟩
 ·exact .inr ⟨g,cap,cur,(0,0),rfl,hgb,htk⟩
theorem TokAt.below {w w':World} {b o:Nat} {t:Lx.Tok} (h:TokAt w b o t) (hb:Below w.heap.size w w'):TokAt w' b o t:=by
 obtain⟨h0,h1,h2,h3,h4⟩:=h;have hl:=World.block_lt_of_cell? w ⟨b,o,none⟩ h0;have e:∀j,w'.cell? ⟨b,j,none⟩=w.cell? ⟨b,j,none⟩:=fun j=>World.cell?_of_block (hb.block b hl);exact⟨(e _).trans h0,(e _).trans h1,(e _).trans h2,(e _).trans h3,h4⟩
end Go.Proofs.YtdncljdfmdgdaaaGreatDoor
namespace Go.Proofs.YtdncljdfmdgdaaaGreatDoor
open Go.RowKit
def whyR (o:Option (Nat×Nat)):Int:=((o.map Prod.fst).getD 0:Nat)
def placeR (o:Option (Nat×Nat)):Int:=((o.map Prod.snd).getD 0:Nat)
theorem OwnT.slice {w:World} {base:Nat} {v:Value} {l:List Lx.Tok} (h:OwnT w base v l):∃A c,v=.slice A l.length c:=by
 rcases h.2 with⟨rfl,h0⟩ | ⟨g,cap,cur,rfl,_⟩
 ·exact⟨none,0,by rw[h0]⟩
 ·exact⟨_,cap,rfl⟩
theorem OwnT.base {w:World} {base:Nat} {v:Value} {l:List Lx.Tok} (h:OwnT w base v l) (k:Nat) (hk:v.ownBlock=some k):base<=k:=(World.ownsRow.lt h k hk).1
theorem OwnT.below {W W':World} {v:Value} {l:List Lx.Tok} {base:Nat} (h:OwnT W base v l) (hb:Below W.heap.size W W'):OwnT W' base v l:=
 World.ownsRow.kept h (zbhZ hb) (by cases v.ownBlock <;> simp)
section
variable {s:ByteArray} {p f i:Nat}
theorem zybZ (hp:p<=s.size) (hf:s.size-p<f) (hq:skipAt s p=s.size):Lx.go f p i (s.data.toList.drop p)=([],none):=by
 obtain⟨g,rfl⟩:∃g,f=g+1:=⟨f-1,by omega⟩;exact zwlZ hp hq
theorem zwdZ (hp:p<=s.size) (hf:s.size-p<f) (hq:skipAt s p<s.size) (hb:Lx.begins (s[skipAt s p]'hq)=false):Lx.go f p i (s.data.toList.drop p)=([],some (10,skipAt s p)):=by
 obtain⟨g,rfl⟩:∃g,f=g+1:=⟨f-1,by omega⟩;exact zunZ hp hq hb
theorem zweZ (hp:p<=s.size) (hf:s.size-p<f) (hq:skipAt s p<s.size) (hb:Lx.begins (s[skipAt s p]'hq)=true) (hi:i=4096):Lx.go f p i (s.data.toList.drop p)=([],some (3,skipAt s p)):=by
 obtain⟨g,rfl⟩:∃g,f=g+1:=⟨f-1,by omega⟩;exact zuoZ hp hq hb hi
theorem zycZ {y x:Nat} (hp:p<=s.size) (hf:s.size-p<f) (hq:skipAt s p<s.size) (hb:Lx.begins (s[skipAt s p]'hq)=true) (hi:i≠4096) (h:Lx.cut (skipAt s p) (s.data.toList.drop (skipAt s p))=.bad y x) :
  Lx.go f p i (s.data.toList.drop p)=([],some (y,x)):=by
 obtain⟨g,rfl⟩:∃g,f=g+1:=⟨f-1,by omega⟩;exact zwmZ hp hq hb hi h
theorem tk_ok {t:Lx.Tok} {n:Nat} (hp:p<=s.size) (hf:s.size-p<f) (hq:skipAt s p<s.size) (hb:Lx.begins (s[skipAt s p]'hq)=true) (hi:i≠4096) (h:Lx.cut (skipAt s p) (s.data.toList.drop (skipAt s p))=.ok t n) :
  ∃g,s.size-(skipAt s p+n)<g/\Lx.go f p i (s.data.toList.drop p)=(t::(Lx.go g (skipAt s p+n) (i+1) (s.data.toList.drop (skipAt s p+n))).1,(Lx.go g (skipAt s p+n) (i+1) (s.data.toList.drop (skipAt s p+n))).2):=by
 obtain⟨g,rfl⟩:∃g,f=g+1:=⟨f-1,by omega⟩;have h2:=zldZ hq h;have h3:=(zdrZ s p hp).1;exact⟨g,by omega,go_ok hp hq hb hi h⟩
end
theorem zgrZ (s:ByteArray) (w:World) (hs:s.size<=140737488351232) :
  Calls Tryz.prog 138 #[.string s] w fun e w'=>∃v,e=.returned (.tuple #[v,.int .i64 (placeR (Lx.toks s.data.toList).2),.int .i64 (whyR (Lx.toks s.data.toList).2)])/\OwnT w' w.heap.size v (Lx.toks s.data.toList).1/\Below w.heap.size w w':=by
 have Ht:(s.size:Int)<=140737488351232:=by omega
 go_enter Tryz.func138, Tryz.ntmps138
 by_cases hbig:65536<s.size
 ·have Hj:(65536:Int)<(s.size:Int):=(by omega);have HR:=zh (show Lx.toks s.data.toList=([],some (2,0))by unfold Lx.toks;rw[if_pos (by rw[zhZ];exact hbig)]);clear hbig;go_wp2;refine ylZ (results_tmp3 rfl _ _ _) rfl ?_;rw[HR.o];exact⟨_,rfl,yOZ _ _ _ _,yqZ _ _⟩
 ·have Hj:¬(65536:Int)<(s.size:Int):=(by omega);have HT:=zh (show Lx.toks s.data.toList=Lx.go (s.size+1) 0 0 s.data.toList by unfold Lx.toks;rw[if_neg (by rw[zhZ];exact hbig),zhZ]);have He:=znuZ s 0 w (yxZ _) hs;clear hbig;go_wp2_with (go_at_call 150;refine He.mono ?_;clear He;rintro e w' ⟨rfl,Hf⟩;rw[Hf];clear Hf);go_loopg [5,6] (s.size-skipAt s 0) (fun n r v wr=>∃(p f:Nat) (ts:List Lx.Tok),n=s.size-skipAt s p/\v=.int .i64 ((skipAt s p:Nat):Int)/\p<=s.size/\s.size-p<f/\ts.length<=4096/\OwnT wr w.heap.size r ts/\Below w.heap.size w wr/\
   Lx.toks s.data.toList=(ts++(Lx.go f p ts.length (s.data.toList.drop p)).1,(Lx.go f p ts.length (s.data.toList.drop p)).2))
  case atStart=>exact⟨0,s.size+1,[],rfl,rfl,yxZ _,by omega,by simp,yOZ _ _ _ _,yqZ _ _,by rw[HT.o];rfl⟩
  case round=>
   obtain⟨p,f,ts,hn,rfl,hp,hf,hl,ho,hb,he⟩:=hrel;obtain⟨A0,cap0,hv⟩:=ho.slice;subst hv;have HN:=zh hn;have HO:=zh ho;have HB:=zh hb;have HE:=zh he;have HF:=zh hf;have HP:=zh hp;have Hg:=zdrZ s p hp;obtain⟨m,hm⟩:=zE (skipAt s p);rw[hm]at Hg HN ⊢;have Hr:p<=m:=Hg.1;have Hs:m<=s.size:=Hg.2.1;have HM:=zh hm;have m0:(0:Int)<=(m:Int):=(by omega);have Hq:(ts.length:Int)<=4096:=(by omega);clear hn ho hb he hf Hg hm;by_cases hlt:m<s.size
   ·have hi:(m:Int)<(s.size:Int):=(by omega);have H7:=fun X=>zqtZ (s[m]'hlt) X;have H1:=fun X=>zyaZ s m X hlt hs;have HD:=zh (zkZ s m hlt)
    cases hbe:Lx.begins (s[m]'hlt)with
    | false=>
     have HR:=zh (show Lx.toks s.data.toList=(ts,some (10,m))by
      rw[HE.o,zwdZ HP.o HF.o (by rw[HM.o];exact hlt) (by simp only[HM.o];exact hbe),HM.o,List.append_nil])
     rw[hbe]at H7;rw[HD.o,zmhZ hbe]at H1;clear hbe;by_cases h4:ts.length=4096
     ·have b4:((ts.length:Int)==4096)=true:=(by simp;omega);clear h4;rw[show cutV m (.bad 10 m)=.agg #[.int .i64 0,.int .i64 0,.string ⟨#[]⟩,.int .i64 0,.int .i64 0,.int .i64 10,.int .i64 (m:Nat)]from rfl]at H1;go_upto_region 9 with(first | (go_at_call 151;refine(H7 _).mono ?_;clear H7;rintro e Wb ⟨rfl,Hc⟩) | (go_at_call 152;refine(H1 _).mono ?_;clear H1;rintro e Wc ⟨rfl,Hb⟩;have H0:=Below.chain Hc Hb))
      have H2:=ydZ Wc (.cells #[.int .i64 0,.int .i64 0,.string ⟨#[]⟩,.int .i64 0,.int .i64 0,.int .i64 10,.int .i64 (m:Nat)] 193);have H3:OwnT (Wc.alloc (.cells #[.int .i64 0,.int .i64 0,.string ⟨#[]⟩,.int .i64 0,.int .i64 0,.int .i64 10,.int .i64 (m:Nat)] 193)) w.heap.size (.slice A0 ts.length cap0) ts:=World.ownsRow.alloc (HO.o.below H0) _;have H4:Below w.heap.size w (Wc.alloc (.cells #[.int .i64 0,.int .i64 0,.string ⟨#[]⟩,.int .i64 0,.int .i64 0,.int .i64 10,.int .i64 (m:Nat)] 193)):=BAlloc (Below.chain HB.o H0);have H8:∀r,(Value.slice A0 ts.length cap0).ownBlock=some r->r≠Wc.heap.size:=fun r e=>(by have:=(World.ownsRow.lt HO.o r e).2;have:=H0.size;omega);obtain⟨L,hL⟩:=zE (Wc.heap.size);rw[hL]at H8;obtain⟨W5,hW5⟩:=zE (Wc.alloc (.cells #[.int .i64 0,.int .i64 0,.string ⟨#[]⟩,.int .i64 0,.int .i64 0,.int .i64 10,.int .i64 (m:Nat)] 193));rw[hL,hW5]at H2;rw[hW5]at H3 H4;rw[hL,hW5];obtain⟨⟨p0,p1,p2,p3,p4,p5,p6⟩,-,hl0⟩:=zfZ H2;have Ha:=zh H3;have H9:=zh H4;clear H2 H3 H4 hL hW5 H0;go_wp2_with fail;go_quiet (fail);go_wp2_with fail
      refine ylZ (results_tmp3 rfl _ _ _) rfl ?_;rw[HR.o];exact⟨_,rfl,(show OwnT (World.drewN _ _) _ _ _ from Ha.o),Below.drewN H9.o _⟩
     ·have b4:((ts.length:Int)==4096)=false:=(by simp;omega);clear h4;rw[show cutV m (.bad 10 m)=.agg #[.int .i64 0,.int .i64 0,.string ⟨#[]⟩,.int .i64 0,.int .i64 0,.int .i64 10,.int .i64 (m:Nat)]from rfl]at H1;go_upto_region 9 with(first | (go_at_call 151;refine(H7 _).mono ?_;clear H7;rintro e Wb ⟨rfl,Hc⟩) | (go_at_call 152;refine(H1 _).mono ?_;clear H1;rintro e Wc ⟨rfl,Hb⟩;have H0:=Hb))
      have H2:=ydZ Wc (.cells #[.int .i64 0,.int .i64 0,.string ⟨#[]⟩,.int .i64 0,.int .i64 0,.int .i64 10,.int .i64 (m:Nat)] 193);have H3:OwnT (Wc.alloc (.cells #[.int .i64 0,.int .i64 0,.string ⟨#[]⟩,.int .i64 0,.int .i64 0,.int .i64 10,.int .i64 (m:Nat)] 193)) w.heap.size (.slice A0 ts.length cap0) ts:=World.ownsRow.alloc (HO.o.below H0) _;have H4:Below w.heap.size w (Wc.alloc (.cells #[.int .i64 0,.int .i64 0,.string ⟨#[]⟩,.int .i64 0,.int .i64 0,.int .i64 10,.int .i64 (m:Nat)] 193)):=BAlloc (Below.chain HB.o H0);have H8:∀r,(Value.slice A0 ts.length cap0).ownBlock=some r->r≠Wc.heap.size:=fun r e=>(by have:=(World.ownsRow.lt HO.o r e).2;have:=H0.size;omega);obtain⟨L,hL⟩:=zE (Wc.heap.size);rw[hL]at H8;obtain⟨W5,hW5⟩:=zE (Wc.alloc (.cells #[.int .i64 0,.int .i64 0,.string ⟨#[]⟩,.int .i64 0,.int .i64 0,.int .i64 10,.int .i64 (m:Nat)] 193));rw[hL,hW5]at H2;rw[hW5]at H3 H4;rw[hL,hW5];obtain⟨⟨p0,p1,p2,p3,p4,p5,p6⟩,-,hl0⟩:=zfZ H2;have Ha:=zh H3;have H9:=zh H4;clear H2 H3 H4 hL hW5 H0;go_wp2_with fail;go_quiet (fail);go_wp2_with fail
      refine ylZ (results_tmp3 rfl _ _ _) rfl ?_;rw[HR.o];exact⟨_,rfl,(show OwnT (World.drewN _ _) _ _ _ from Ha.o),Below.drewN H9.o _⟩
    | true=>
     rw[hbe]at H7;by_cases h4:ts.length=4096
     ·have b4:((ts.length:Int)==4096)=true:=(by simp;omega);have HR:=zh (show Lx.toks s.data.toList=(ts,some (3,m))by
       rw[HE.o,zweZ HP.o HF.o (by rw[HM.o];exact hlt) (by simp only[HM.o];exact hbe) h4,HM.o,List.append_nil])
      clear h4 hbe;go_wp2_with (first | (go_at_call 151;refine(H7 _).mono ?_;clear H7;rintro e Wb ⟨rfl,Hc⟩));refine ylZ (results_tmp3 rfl _ _ _) rfl ?_;rw[HR.o];exact⟨_,rfl,HO.o.below Hc,Below.chain HB.o Hc⟩
     ·have b4:((ts.length:Int)==4096)=false:=(by simp;omega);rw[HD.o,zbzZ hbe,<-HD.o]at H1
      cases hcut:Lx.cut m (s.data.toList.drop m)with
      | bad y x=>
       have HR:=zh (show Lx.toks s.data.toList=(ts,some (y,x))by
        rw[HE.o,zycZ HP.o HF.o (by rw[HM.o];exact hlt) (by simp only[HM.o];exact hbe) h4 (by rw[HM.o];exact hcut),List.append_nil])
       have hy:=Lx.cut_why (by rw[<-HD.o];exact hcut);have Hu:((y:Int) != 0)=true:=(by simp;omega);rw[hcut]at H1;clear hy h4 hcut hbe;rw[show cutV m (.bad y x)=.agg #[.int .i64 0,.int .i64 0,.string ⟨#[]⟩,.int .i64 0,.int .i64 0,.int .i64 (y:Nat),.int .i64 (x:Nat)]from rfl]at H1;go_upto_region 9 with(first | (go_at_call 151;refine(H7 _).mono ?_;clear H7;rintro e Wb ⟨rfl,Hc⟩) | (go_at_call 152;refine(H1 _).mono ?_;clear H1;rintro e Wc ⟨rfl,Hb⟩;have H0:=Hb))
       have H2:=ydZ Wc (.cells #[.int .i64 0,.int .i64 0,.string ⟨#[]⟩,.int .i64 0,.int .i64 0,.int .i64 (y:Nat),.int .i64 (x:Nat)] 193);have H3:OwnT (Wc.alloc (.cells #[.int .i64 0,.int .i64 0,.string ⟨#[]⟩,.int .i64 0,.int .i64 0,.int .i64 (y:Nat),.int .i64 (x:Nat)] 193)) w.heap.size (.slice A0 ts.length cap0) ts:=World.ownsRow.alloc (HO.o.below H0) _;have H4:Below w.heap.size w (Wc.alloc (.cells #[.int .i64 0,.int .i64 0,.string ⟨#[]⟩,.int .i64 0,.int .i64 0,.int .i64 (y:Nat),.int .i64 (x:Nat)] 193)):=BAlloc (Below.chain HB.o H0);have H8:∀r,(Value.slice A0 ts.length cap0).ownBlock=some r->r≠Wc.heap.size:=fun r e=>(by have:=(World.ownsRow.lt HO.o r e).2;have:=H0.size;omega);obtain⟨L,hL⟩:=zE (Wc.heap.size);rw[hL]at H8;obtain⟨W5,hW5⟩:=zE (Wc.alloc (.cells #[.int .i64 0,.int .i64 0,.string ⟨#[]⟩,.int .i64 0,.int .i64 0,.int .i64 (y:Nat),.int .i64 (x:Nat)] 193));rw[hL,hW5]at H2;rw[hW5]at H3 H4;rw[hL,hW5];obtain⟨⟨p0,p1,p2,p3,p4,p5,p6⟩,-,hl0⟩:=zfZ H2;have Ha:=zh H3;have H9:=zh H4;clear H2 H3 H4 hL hW5 H0;go_wp2_with fail;go_quiet (fail);go_wp2_with fail
       refine ylZ (results_tmp3 rfl _ _ _) rfl ?_;rw[HR.o];exact⟨_,rfl,(show OwnT (World.drewN _ _) _ _ _ from Ha.o),Below.drewN H9.o _⟩
      | ok t n=>
       obtain⟨g,hg1,hg2⟩:=tk_ok (s:=s) (p:=p) (f:=f) (i:=ts.length) HP.o HF.o (by rw[HM.o];exact hlt) (by simp only[HM.o];exact hbe) h4 (by rw[HM.o];exact hcut);rw[HM.o]at hg1 hg2;have Hd:=zldZ hlt hcut;have Hi:=zh hg1;have HR:=zh (show Lx.toks s.data.toList=((ts++[t])++(Lx.go g (m+n) (ts++[t]).length (s.data.toList.drop (m+n))).1,(Lx.go g (m+n) (ts++[t]).length (s.data.toList.drop (m+n))).2)by
        rw[HE.o,hg2,ycZ,yiZ];rfl)
       have Hm:ts.length+1<=4096:=(by omega);have H6:=zh Hd;rw[hcut]at H1;rw[show cutV m (.ok t n)=.agg #[.int .i64 t.pos,.int .i64 t.kind,.string ⟨t.s.toArray⟩,.int .i64 t.n,.int .i64 ((m+n:Nat):Int),.int .i64 0,.int .i64 0]from rfl]at H1;obtain⟨q,hq⟩:=zE (m+n);rw[hq]at H1 Hi HR H6;have He:=fun X=>znuZ s q X H6.o.2 hs;have Hp:=(zdrZ s q H6.o.2).1;have Hk:Hid (m<q):=zh (by have:=H6.o.1;omega);clear hg1 hg2 Hd h4 hcut hbe hq;go_upto_region 9 with(first | (go_at_call 151;refine(H7 _).mono ?_;clear H7;rintro e Wb ⟨rfl,Hc⟩) | (go_at_call 152;refine(H1 _).mono ?_;clear H1;rintro e Wc ⟨rfl,Hb⟩;have H0:=Hb))
       have H2:=ydZ Wc (.cells #[.int .i64 t.pos,.int .i64 t.kind,.string ⟨t.s.toArray⟩,.int .i64 t.n,.int .i64 (q:Nat),.int .i64 0,.int .i64 0] 193);have H3:OwnT (Wc.alloc (.cells #[.int .i64 t.pos,.int .i64 t.kind,.string ⟨t.s.toArray⟩,.int .i64 t.n,.int .i64 (q:Nat),.int .i64 0,.int .i64 0] 193)) w.heap.size (.slice A0 ts.length cap0) ts:=World.ownsRow.alloc (HO.o.below H0) _;have H4:Below w.heap.size w (Wc.alloc (.cells #[.int .i64 t.pos,.int .i64 t.kind,.string ⟨t.s.toArray⟩,.int .i64 t.n,.int .i64 (q:Nat),.int .i64 0,.int .i64 0] 193)):=BAlloc (Below.chain HB.o H0);have H8:∀r,(Value.slice A0 ts.length cap0).ownBlock=some r->r≠Wc.heap.size:=fun r e=>(by have:=(World.ownsRow.lt HO.o r e).2;have:=H0.size;omega);obtain⟨L,hL⟩:=zE (Wc.heap.size);rw[hL]at H8;obtain⟨W5,hW5⟩:=zE (Wc.alloc (.cells #[.int .i64 t.pos,.int .i64 t.kind,.string ⟨t.s.toArray⟩,.int .i64 t.n,.int .i64 (q:Nat),.int .i64 0,.int .i64 0] 193));rw[hL,hW5]at H2;rw[hW5]at H3 H4;rw[hL,hW5];obtain⟨⟨p0,p1,p2,p3,p4,p5,p6⟩,-,hl0⟩:=zfZ H2;have Ha:=zh H3;have H9:=zh H4;clear H2 H3 H4 hL hW5 H0;have Hn:W5.ownsRow w.heap.size 133 4 (.slice A0 ts.length cap0) ts.length (ts.flatMap cellsT):=Ha.o;have hW:=H9.o;have hWsz:=H9.o.size;obtain⟨i0,hi',hz0,hz1,hz2⟩:=info_parts zuqZ;go_wp2_with (first
        | (at_builtin;refine wpList_append_own _ rfl _ _ 73 rfl w.heap.size 133 i0 _ 4 40 Tryz.underlying73 hi' hz0 hz1 hz2 rfl (by decide) _ _ _ rfl (Hn.alloc _) ⟨W5.heap.size,0,none⟩ 1 1 (cellsT t) rfl rfl (zpgZ _ _ _) (by simp[cellsT,Value.oneCell']) (by unfold maxLen;omega) (by omega) (by simp;omega) ?_;intro v' w1 hown' H5 _;have Hh:=(H5.block L (yJZ hl0 (by simp)) (fun e=>H8 L e.symm rfl)).trans ((yeZ W5 _ none).block L hl0 (by simp));have p4':=(World.cell?_of_block (a:=⟨L,4,none⟩) Hh).trans p4;have Hv:L<w1.heap.size:=yJZ hl0 (ymZ (by simp) H5.size);have Ho:=zh hown';have Hl:=zh (Below.turn (hW.alloc hWsz _) H5 (fun r e=>OwnT.base Ha.o r e));clear hown' H5 Hh)
        | (go_at_call 150;refine(He _).mono ?_;clear He;rintro e w' ⟨rfl,Hf⟩;rw[Hf];clear Hf))
       go_roundg (s.size-skipAt s q)
       case measure=>have:=HN.o;have:=Hk.o;have:=H6.o;omega
       case rel=>refine⟨q,g,ts++[t],rfl,rfl,H6.o.2,Hi.o,by rw[ycZ];exact Hm,?_,Hl.o,HR.o⟩;unfold OwnT;rw[ycZ,List.flatMap_append];simpa using Ho.o
   ·have hi:¬(m:Int)<(s.size:Int):=(by omega);have HR:=zh (show Lx.toks s.data.toList=(ts,none)by
     rw[HE.o,zybZ HP.o HF.o (by rw[HM.o];omega),List.append_nil])
    go_wp2
    refine ylZ (results_tmp3 rfl _ _ _) rfl ?_;rw[HR.o];exact⟨_,rfl,HO.o,HB.o⟩
namespace Lx
theorem zraZ:∀(f p i:Nat) (l:Bytes) (y x:Nat),(go f p i l).2=some (y,x)->y≠0
 | 0,_,_,_,y,x,h=>by simp[go]at h
 | f+1,p,i,l,y,x,h=>by
  rw[go]at h;simp only at h;split at h
  ·cases h
  ·rename_i b r hr;split at h
   ·injection h with h;injection h with h1 h2;omega
   ·split at h
    ·injection h with h;injection h with h1 h2;omega
    ·split at h
     ·rename_i why x' hcut;rw[hr]at hcut;have:=cut_why hcut;injection h with h;injection h with h1 h2;omega
     ·exact zraZ f _ _ _ y x h
theorem toks_why {l:Bytes} {ts:List Tok} {y x:Nat} (h:toks l=(ts,some (y,x))):y≠0:=by
 unfold toks at h;split at h
 ·injection h with _ h;injection h with h;injection h with h1 h2;omega
 ·exact zraZ _ _ _ _ y x (by rw[h])
end Lx
end Go.Proofs.YtdncljdfmdgdaaaGreatDoor
