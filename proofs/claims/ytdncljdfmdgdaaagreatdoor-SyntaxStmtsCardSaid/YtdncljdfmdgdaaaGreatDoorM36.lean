/-
  coilref1.quoted.
-/
import Derived.Test.YtdncljdfmdgdaaaGreatDoorM35
set_option linter.unusedSimpArgs false
set_option linter.unusedVariables false
set_option maxRecDepth 100000
set_option maxHeartbeats 4000000
namespace Go.Proofs.YtdncljdfmdgdaaaGreatDoor
open Go.RowKit
structure QW (w W:World):Prop where
 b:Below w.heap.size w W
 z:W.heap[w.heap.size]? =some (.cells #[.int .i64 0,.int .i64 0,.string ⟨#[]⟩,.int .i64 0,.int .i64 0,.int .i64 0,.int .i64 0] 193 (0,0))
theorem QW.row {w W W':World} {row:Option Nat} (h:QW w W) (hg:W.grownBy W' row) (hr:∀g,row=some g->w.heap.size+1<=g):QW w W':=
 ⟨Below.turn h.b hg (fun r e=>by have:=hr r e;omega),(hg.block _ (zaZ h.z) (fun e=>by have:=hr _ e.symm;omega)).trans h.z⟩
theorem QW.row2 {w W W':World} {row:Option Nat} {o:Obj} (h:QW w W) (hg:(W.alloc o).grownBy W' row) (hr:∀g,row=some g->w.heap.size+1<=g):QW w W':=
 (h.row (yeZ W o none) (fun g e=>nomatch e)).row hg hr
theorem zmgZ {c:UInt8} (h:plainB c=true):¬c.toNat=34/\¬c.toNat=92/\¬(c.toNat<32\/126<c.toNat):=by
 simp only[plainB,ygZ,yCZ,Bool.not_eq_true',yaZ]at h;exact⟨h.2.2.1,h.2.2.2,by omega⟩
theorem zkqZ {c:UInt8} (h:plainB c=false) (h34:¬c.toNat=34) (h92:¬c.toNat=92):c.toNat<32\/126<c.toNat:=by
 by_cases hb:c.toNat<32\/126<c.toNat
 ·exact hb
 ·exfalso;have:plainB c=true:=(by simp only[plainB,ygZ,yCZ,Bool.not_eq_true',yaZ];exact⟨by omega,by omega,h34,h92⟩);rw[h]at this;cases this
theorem zqwZ (s:ByteArray) (k:Nat) (w:World) (hk:k<s.size) (hs:s.size<=140737488351232) :
  Calls Tryz.prog 169 #[.string s,.int .i64 (k:Int)] w fun e w'=>e=.returned (cutV k (Lx.quoted k (s.data.toList.drop (k+1)) [] 1))/\Below w.heap.size w w':=by
 have Ho:(s.size:Int)<=140737488351232:=by omega
 have Hm:(k:Int)<(s.size:Int):=by omega
 have Hq:(0:Int)<=(k:Int):=by omega
 obtain⟨i0,hi0,hz0,hz1,hz2⟩:=info_parts zddZ;go_enter Tryz.func169, Tryz.ntmps169;go_upto_region 1 with fail;have H8:=ydZ w (.cells #[.int .i64 0,.int .i64 0,.string ⟨#[]⟩,.int .i64 0,.int .i64 0,.int .i64 0,.int .i64 0] 193);have hb:=zeZ (yeZ w (.cells #[.int .i64 0,.int .i64 0,.string ⟨#[]⟩,.int .i64 0,.int .i64 0,.int .i64 0,.int .i64 0] 193) none);have He:(w.alloc (.cells #[.int .i64 0,.int .i64 0,.string ⟨#[]⟩,.int .i64 0,.int .i64 0,.int .i64 0,.int .i64 0] 193)).heap.size=w.heap.size+1:=by rw[World.size_alloc]
 obtain⟨W1,hW1⟩:=zE (w.alloc (.cells #[.int .i64 0,.int .i64 0,.string ⟨#[]⟩,.int .i64 0,.int .i64 0,.int .i64 0,.int .i64 0] 193));rw[hW1]at H8 hb He ⊢;have H7:=zh (QW.mk hb H8);have Hb:=zaZ H8;clear H8 hW1 hb;go_wp2_with (at_make;refine wpList_make_own _ rfl _ _ 98 rfl (w.heap.size+1) 5 i0 (.int .u8 0) 1 Tryz.underlying98 hi0 hz0 hz1 .i64 .i64 _ 0 rfl rfl rfl (by rw[hz2];omega) (by unfold maxLen;omega) (by rw[He];exact ybZ _) ?_;intro W2 hown H9);have Hh:=zh (H7.o.row H9 (fun g e=>nomatch e));rw[He]at hown;have Hk:Hid (OwnB W2 (w.heap.size+1) (.slice (some ⟨w.heap.size+1,0,none⟩) 0 0) []):=zh hown;clear hown H9 H7 hi0 hz0 hz1 hz2 He
 go_loopg [5,6] (s.size-(k+1)) (fun n v u wr=>∃(m:Nat) (l:List UInt8),n=s.size-m/\u=.int .i64 (m:Int)/\k+1<=m/\m<=s.size/\QW w wr/\OwnB wr (w.heap.size+1) v l/\l.length<=m/\
  Lx.quoted k (s.data.toList.drop m) l (m-k)=Lx.quoted k (s.data.toList.drop (k+1)) [] 1)
 case atStart=>exact⟨k+1,[],rfl,rfl,ybZ _,by omega,Hh.o,Hk.o,by simp,by rw[show k+1-k=1 from by omega]⟩
 case round=>
  obtain⟨m,l,hn,rfl,hkm,hm,hW,hO,hl,he⟩:=hrel;have Hd:=zh hW;have HB:=zh hW.b;have HZ:=zh hW.z;have Hb:=zaZ hW.z;have HO:=zh hO;have HE:=zh he;have HN:=zh hn;obtain⟨A0,cap0,hv⟩:=hO.slice;clear he hn hW hO;subst hv;have m0:(0:Int)<=(m:Int):=(by omega);have Hn:(m:Int)<=(s.size:Int):=(by omega);by_cases hlt:m<s.size
  ·have hi:(m:Int)<(s.size:Int):=(by omega);have HD:=zh (zkZ s m hlt);have H2:=ztpZ (s[m]'hlt) wr;by_cases h34:(s[m]'hlt).toNat=34
   ·have b34:=u8t _ 34 h34;have bsz:((m:Int)==(s.size:Int))=false:=(by simp;omega);have Hc:=zh h34;clear h34
    have HQ:Hid (Lx.quoted k (s.data.toList.drop (k+1)) [] 1=.ok ⟨k,5,l,0⟩ (m+1-k)):=HE.o.symm.trans (by
     rw[HD.o,zigZ Hc.o,show m-k+1=m+1-k from by omega])
    obtain⟨⟨p0,p1,p2,p3,p4,p5,p6⟩,⟨g0,g1,g2,g3,g4,g5,g6⟩,hl0⟩:=zfZ HZ.o;have Hp:(convert 98 9 (.slice A0 l.length cap0)).run Tryz.prog wr=.ok (.string ⟨l.toArray⟩) wr:=zdpZ HO.o;go_wp2_with fail;refine ylZ (v:=.agg #[.int .i64 (k:Int),.int .i64 5,.string ⟨l.toArray⟩,.int .i64 0,.int .i64 ((m:Int)+1),.int .i64 0,.int .i64 0]) (by simp[results, Tryz.results169,go_sem,p0,p1,p2,p3,p4,p5,p6,g0,g1,g2,g3,g4,g5,g6,hl0]) rfl ?_;rw[HQ.o];have H6:=HB.o;refine⟨?_,?_⟩
    ·simp only[cutV];rw[show k+(m+1-k)=m+1 by omega];rfl
    ·repeat (first | (with_reducible exact H6) | (with_reducible refine BSet ?_ (ybZ _)) | (with_reducible refine BSet ?_ H6.size) | (with_reducible refine BAlloc ?_))
   ·have b34:=u8f _ 34 h34;have Hc:=zh h34;clear h34
    cases hp:plainB (s[m]'hlt)with
    | true=>
     rw[hp]at H2;have HP:=zh (zmgZ hp);clear hp;have HQ:Hid (Lx.quoted k (s.data.toList.drop (m+1)) (l++[s[m]'hlt]) (m+1-k)=Lx.quoted k (s.data.toList.drop (k+1)) [] 1):=by have e:=HE.o;rw[HD.o,zfyZ HP.o.1 HP.o.2.1 HP.o.2.2,show m-k+1=m+1-k from by omega]at e;exact e
     go_wp2_with (first
      | (go_at_call 182;refine H2.mono ?_;clear H2;rintro e w' ⟨rfl,H1⟩;rw[<-H1];clear H1)
      | (at_builtin;refine zcnZ (w.heap.size+1) rfl (.tmp 25) (.tmp 29) rfl _ l (s[m]'hlt) rfl rfl HO.o (by omega) (by omega) ?_;intro v1 w1 hown H5;have hQ1:=Hd.o.row2 H5 (fun g hg=>OwnB.base HO.o g hg)))
     have Ha:=zh hown;have H7:=zh hQ1;clear hown H5 hQ1;go_roundg (s.size-(m+1))
     case measure=>have:=HN.o;omega
     case rel=>exact⟨m+1,_,rfl,rfl,by omega,by omega,H7.o,Ha.o,by simp;omega,HQ.o⟩
    | false=>
     rw[hp]at H2;by_cases h92:(s[m]'hlt).toNat=92
     ·have b92:=u8t _ 92 h92;have Hg:=zh h92;clear h92 hp;by_cases hend:m+1=s.size
      ·have bend:((m:Int)+1==(s.size:Int))=true:=(by simp;omega);have Hj:=zh hend;clear hend
       have HQ:Hid (Lx.quoted k (s.data.toList.drop (k+1)) [] 1=.bad 12 (m+1)):=HE.o.symm.trans (by
        rw[HD.o,yNZ (i:=m+1) (by rw[zhZ,Hj.o];exact ybZ _),zihZ Hg.o,show k+(m-k)+1=m+1 from by omega])
       have H4:=zbwZ 12 ((m:Int)+1) wr;have HX:=HZ.o
       go_wp2_with (first
        | (go_at_call 182;refine H2.mono ?_;clear H2;rintro e w' ⟨rfl,H1⟩;rw[<-H1];clear H1)
        | (go_at_call 170;refine H4.mono ?_;clear H4;rintro e W3 ⟨rfl,H3⟩;obtain⟨⟨a0,a1,a2,a3,a4,a5,a6⟩,⟨f0,f1,f2,f3,f4,f5,f6⟩,hl3⟩:=zfZ ((H3.block _ Hb).trans HX)))
       refine ylZ (v:=.agg #[.int .i64 0,.int .i64 0,.string ⟨#[]⟩,.int .i64 0,.int .i64 0,.int .i64 12,.int .i64 ((m:Int)+1)]) (by simp[results, Tryz.results169,go_sem,a0,a1,a2,a3,a4,a5,a6,f0,f1,f2,f3,f4,f5,f6,hl3]) rfl ?_;rw[HQ.o];have H6:=Below.chain HB.o H3;refine⟨rfl,?_⟩
       repeat (first | (with_reducible exact H6) | with_reducible refine BSet ?_ (ybZ _))
      ·have bend:((m:Int)+1==(s.size:Int))=false:=(by simp;omega);have H0:m+1<s.size:=(by omega);have Hr:(m:Int)+1<(s.size:Int):=(by omega);have Hi:(0:Int)<=(m:Int)+1:=(by omega);have Hl:=zh (zkZ s (m+1) H0);have Hf:Hid (Lx.quoted k (s.data.toList.drop (k+1)) [] 1=if(s[m+1]'H0).toNat==110 then Lx.quoted k (s.data.toList.drop (m+1+1)) (l++[10]) (m-k+2)else if(s[m+1]'H0).toNat==34||(s[m+1]'H0).toNat==92 then Lx.quoted k (s.data.toList.drop (m+1+1)) (l++[s[m+1]'H0]) (m-k+2)else .bad 12 (k+(m-k)+1)):=
        HE.o.symm.trans (by rw[HD.o,Hl.o];exact zbtZ Hg.o)
       clear hend;by_cases h110:(s[m+1]'H0).toNat=110
       ·have c110:=u8t _ 110 h110;have HQ:Hid (Lx.quoted k (s.data.toList.drop (m+2)) (l++[10]) (m+2-k)=Lx.quoted k (s.data.toList.drop (k+1)) [] 1):=(by have e:=Hf.o;rw[if_pos (by simp[h110]),show m-k+2=m+2-k from by omega]at e;exact e.symm);clear h110
        go_wp2_with (first
         | (go_at_call 182;refine H2.mono ?_;clear H2;rintro e w' ⟨rfl,H1⟩;rw[<-H1];clear H1)
         | (at_builtin;refine zcnZ (w.heap.size+1) rfl (.tmp 54) (.tmp 55) rfl _ l 10 rfl rfl HO.o (by omega) (by omega) ?_;intro v1 w1 hown H5;have hQ1:=Hd.o.row2 H5 (fun g hg=>OwnB.base HO.o g hg)))
        have Ha:=zh hown;have H7:=zh hQ1;clear hown H5 hQ1;go_roundg (s.size-(m+2))
        case measure=>have:=HN.o;omega
        case rel=>exact⟨m+2,_,rfl,rfl,by omega,by omega,H7.o,Ha.o,by simp;omega,HQ.o⟩
       ·have c110:=u8f _ 110 h110;by_cases hq:(s[m+1]'H0).toNat=34\/(s[m+1]'H0).toNat=92
        ·have HQ:Hid (Lx.quoted k (s.data.toList.drop (m+2)) (l++[s[m+1]'H0]) (m+2-k)=Lx.quoted k (s.data.toList.drop (k+1)) [] 1):=(by have e:=Hf.o;rw[if_neg (by simpa using h110),if_pos (by simpa using hq),show m-k+2=m+2-k from by omega]at e;exact e.symm);clear h110;by_cases h34b:(s[m+1]'H0).toNat=34
         ·have c34:=u8t _ 34 h34b;clear h34b hq
          go_wp2_with (first
           | (go_at_call 182;refine H2.mono ?_;clear H2;rintro e w' ⟨rfl,H1⟩;rw[<-H1];clear H1)
           | (at_builtin;refine zcnZ (w.heap.size+1) rfl (.tmp 60) (.tmp 64) rfl _ l (s[m+1]'H0) rfl rfl HO.o (by omega) (by omega) ?_;intro v1 w1 hown H5;have hQ1:=Hd.o.row2 H5 (fun g hg=>OwnB.base HO.o g hg)))
          have Ha:=zh hown;have H7:=zh hQ1;clear hown H5 hQ1;go_roundg (s.size-(m+2))
          case measure=>have:=HN.o;omega
          case rel=>exact⟨m+2,_,rfl,rfl,by omega,by omega,H7.o,Ha.o,by simp;omega,HQ.o⟩
         ·have c34:=u8f _ 34 h34b;have c92:=u8t _ 92 (by omega:(s[m+1]'H0).toNat=92);clear h34b hq
          go_wp2_with (first
           | (go_at_call 182;refine H2.mono ?_;clear H2;rintro e w' ⟨rfl,H1⟩;rw[<-H1];clear H1)
           | (at_builtin;refine zcnZ (w.heap.size+1) rfl (.tmp 60) (.tmp 64) rfl _ l (s[m+1]'H0) rfl rfl HO.o (by omega) (by omega) ?_;intro v1 w1 hown H5;have hQ1:=Hd.o.row2 H5 (fun g hg=>OwnB.base HO.o g hg)))
          have Ha:=zh hown;have H7:=zh hQ1;clear hown H5 hQ1;go_roundg (s.size-(m+2))
          case measure=>have:=HN.o;omega
          case rel=>exact⟨m+2,_,rfl,rfl,by omega,by omega,H7.o,Ha.o,by simp;omega,HQ.o⟩
        ·have HQ:Hid (Lx.quoted k (s.data.toList.drop (k+1)) [] 1=.bad 12 (m+1)):=(by have e:=Hf.o;rw[if_neg (by simpa using h110),if_neg (by simpa using hq),show k+(m-k)+1=m+1 from by omega]at e;exact e);have c34:=u8f _ 34 (by omega:¬(s[m+1]'H0).toNat=34);have c92:=u8f _ 92 (by omega:¬(s[m+1]'H0).toNat=92);clear h110 hq;have H4:=zbwZ 12 ((m:Int)+1) wr;have HX:=HZ.o
         go_wp2_with (first
          | (go_at_call 182;refine H2.mono ?_;clear H2;rintro e w' ⟨rfl,H1⟩;rw[<-H1];clear H1)
          | (go_at_call 170;refine H4.mono ?_;clear H4;rintro e W3 ⟨rfl,H3⟩;obtain⟨⟨a0,a1,a2,a3,a4,a5,a6⟩,⟨f0,f1,f2,f3,f4,f5,f6⟩,hl3⟩:=zfZ ((H3.block _ Hb).trans HX)))
         refine ylZ (v:=.agg #[.int .i64 0,.int .i64 0,.string ⟨#[]⟩,.int .i64 0,.int .i64 0,.int .i64 12,.int .i64 ((m:Int)+1)]) (by simp[results, Tryz.results169,go_sem,a0,a1,a2,a3,a4,a5,a6,f0,f1,f2,f3,f4,f5,f6,hl3]) rfl ?_;rw[HQ.o];have H6:=Below.chain HB.o H3;refine⟨rfl,?_⟩
         repeat (first | (with_reducible exact H6) | with_reducible refine BSet ?_ (ybZ _))
     ·have b92:=u8f _ 92 h92
      have HQ:Hid (Lx.quoted k (s.data.toList.drop (k+1)) [] 1=.bad 12 m):=HE.o.symm.trans (by
       rw[HD.o,zewZ Hc.o h92 (zkqZ hp Hc.o h92),show k+(m-k)=m from by omega])
      clear h92 hp;have H4:=zbwZ 12 (m:Int) wr;have HX:=HZ.o
      go_wp2_with (first
       | (go_at_call 182;refine H2.mono ?_;clear H2;rintro e w' ⟨rfl,H1⟩;rw[<-H1];clear H1)
       | (go_at_call 170;refine H4.mono ?_;clear H4;rintro e W3 ⟨rfl,H3⟩;obtain⟨⟨a0,a1,a2,a3,a4,a5,a6⟩,⟨f0,f1,f2,f3,f4,f5,f6⟩,hl3⟩:=zfZ ((H3.block _ Hb).trans HX)))
      refine ylZ (v:=.agg #[.int .i64 0,.int .i64 0,.string ⟨#[]⟩,.int .i64 0,.int .i64 0,.int .i64 12,.int .i64 (m:Int)]) (by simp[results, Tryz.results169,go_sem,a0,a1,a2,a3,a4,a5,a6,f0,f1,f2,f3,f4,f5,f6,hl3]) rfl ?_;rw[HQ.o];have H6:=Below.chain HB.o H3;refine⟨rfl,?_⟩
      repeat (first | (with_reducible exact H6) | with_reducible refine BSet ?_ (ybZ _))
  ·have hi:¬(m:Int)<(s.size:Int):=(by omega);have bsz:((m:Int)==(s.size:Int))=true:=(by simp;omega);have HM:=zh hlt
   have HQ:Hid (Lx.quoted k (s.data.toList.drop (k+1)) [] 1=.bad 12 m):=HE.o.symm.trans (by
    rw[yNZ (by rw[zhZ];have:=HM.o;omega),Lx.quoted,show k+(m-k)=m from by omega])
   have H4:=zbwZ 12 (m:Int) wr;have HX:=HZ.o
   go_wp2_with (first
    | (go_at_call 170;refine H4.mono ?_;clear H4;rintro e W3 ⟨rfl,H3⟩;obtain⟨⟨a0,a1,a2,a3,a4,a5,a6⟩,⟨f0,f1,f2,f3,f4,f5,f6⟩,hl3⟩:=zfZ ((H3.block _ Hb).trans HX)))
   refine ylZ (v:=.agg #[.int .i64 0,.int .i64 0,.string ⟨#[]⟩,.int .i64 0,.int .i64 0,.int .i64 12,.int .i64 (m:Int)]) (by simp[results, Tryz.results169,go_sem,a0,a1,a2,a3,a4,a5,a6,f0,f1,f2,f3,f4,f5,f6,hl3]) rfl ?_;rw[HQ.o];have H6:=Below.chain HB.o H3;refine⟨rfl,?_⟩
   repeat (first | (with_reducible exact H6) | with_reducible refine BSet ?_ (ybZ _))
def cutR (p:Nat) (l:Lx.Bytes):Lx.Res:=if(l.head?.map Lx.begins).getD false then Lx.cut p l else .bad 10 p
theorem zbzZ {p:Nat} {b:UInt8} {t:Lx.Bytes} (h:Lx.begins b=true):cutR p (b::t)=Lx.cut p (b::t):=by
 simp[cutR,h]
theorem zmhZ {p:Nat} {b:UInt8} {t:Lx.Bytes} (h:Lx.begins b=false):cutR p (b::t)=.bad 10 p:=by
 simp[cutR,h]
theorem zhzZ (m:Nat) (h0:m≠0) (h:m<14):sgs.getD m []=[firsts.getD m 0]:=by
 have H0:((List.range 14).all fun m=>m==0||sgs.getD m []==[firsts.getD m 0])=true:=by decide
 have:=yZZ.1 H0 m (List.mem_range.2 h);simpa[h0]using this
theorem zqxZ (b:UInt8) (h:firsts.contains b=true):∃m,m≠0/\m<14/\firsts.getD m 0=b:=by
 have H0:∀x∈firsts,((List.range 14).any fun m=>m != 0&&firsts.getD m 0==x)=true:=by decide
 have:=List.any_eq_true.1 (H0 b (ySZ.1 h));obtain⟨m,hm,he⟩:=this;simp only[ygZ,bne_iff_ne,ne_eq,ytZ]at he;exact⟨m,he.1,List.mem_range.1 hm,he.2⟩
theorem zqyZ (m:Nat) (h:m<14):firsts.contains (firsts.getD m 0)=true:=by
 have H0:((List.range 14).all fun m=>firsts.contains (firsts.getD m 0))=true:=by decide
 exact yZZ.1 H0 m (List.mem_range.2 h)
theorem znwZ (c b:UInt8) (t:Lx.Bytes):List.isPrefixOf [c] (b::t)=(c==b):=by simp[List.isPrefixOf]
theorem znxZ (b:UInt8) (t:Lx.Bytes):List.isPrefixOf [61,61] (b::t)=(b.toNat==61&&t.head? ==some 61):=by
 have hb:((61:UInt8)==b)=(b.toNat==61):=by rw[yEZ];simp only[ytZ];exact⟨fun h=>by rw[<-h];rfl,fun h=>(ybbZ.1 (by simpa using h)).symm⟩
 cases t with
 | nil=>simp[List.isPrefixOf]
 | cons d t=>have hd:((61:UInt8)==d)=(d==61):=(by rw[yEZ];simp only[ytZ];exact⟨Eq.symm,Eq.symm⟩);simp[List.isPrefixOf,hb,hd]
theorem ztsZ {p:Nat} {b:UInt8} {t:Lx.Bytes} {m:Nat} (hm:m<14) (hl:Lx.letter b=false) (hd:Lx.digit b=false) (h34:¬b.toNat=34)
  (hp:(sgs.getD m []).isPrefixOf (b::t)=true) (hn:∀j,j<m->(sgs.getD j []).isPrefixOf (b::t)=false) :
  cutR p (b::t)=.ok ⟨p,6,sgs.getD m [],0⟩ (sgs.getD m []).length:=by
 have H1:(b.toNat==34)=false:=by simpa using h34
 rcases yLZ m with rfl | hpos
 ·have e:sgs.getD 0 []=[61,61]:=rfl;rw[e,znxZ]at hp;have hb:b.toNat=61:=(by simp at hp;exact hp.1);have H0:Lx.begins b=true:=(by have:b=61:=ybbZ.1 hb;subst this;decide);rw[zbzZ H0,e];simp[Lx.cut,hl,hd,H1,hp]
 ·rw[zhzZ m (by omega) hm,znwZ]at hp;have H2:firsts.getD m 0=b:=(by simpa using hp);have H0:Lx.begins b=true:=(by have:=zqyZ m hm;rw[H2,zgqZ]at this;unfold Lx.begins;rw[this];simp);have h0:=hn 0 hpos;rw[show sgs.getD 0 []=[61,61]from rfl,znxZ]at h0;rw[zbzZ H0,zhzZ m (by omega) hm,H2];simp only[Lx.cut,hl,hd,H1,h0];simp
theorem zttZ {p:Nat} {b:UInt8} {t:Lx.Bytes} (hl:Lx.letter b=false) (hd:Lx.digit b=false) (h34:¬b.toNat=34)
  (hn:∀j,j<14->(sgs.getD j []).isPrefixOf (b::t)=false):cutR p (b::t)=.bad 10 p:=by
 have H0:(b.toNat==34)=false:=by simpa using h34
 apply zmhZ;unfold Lx.begins;rw[hl,hd,H0,<-zgqZ];simp only[Bool.false_or]
 cases hf:firsts.contains b with
 | false=>rfl
 | true=>exfalso;obtain⟨m,h0,hm,e⟩:=zqxZ b hf;have:=hn m hm;rw[zhzZ m h0 hm,znwZ,e]at this;simp at this
theorem zfkZ (p:Nat) (r:Lx.Res):∃(a b:Int) (c:ByteArray) (d e f h:Int),cutV p r=.agg #[.int .i64 a,.int .i64 b,.string c,.int .i64 d,.int .i64 e,.int .i64 f,.int .i64 h]:=by
 cases r with
 | ok t n=>exact⟨_,_,_,_,_,_,_,rfl⟩
 | bad y x=>exact⟨_,_,_,_,_,_,_,rfl⟩
theorem pre_take {x l:Lx.Bytes} (h:x.length<=l.length):x.isPrefixOf l=(l.take x.length==x):=by
 rw[yEZ,List.isPrefixOf_iff_prefix,ytZ,List.prefix_iff_eq_take];exact⟨Eq.symm,Eq.symm⟩
theorem zqzZ {x l:Lx.Bytes} (h:l.length<x.length):x.isPrefixOf l=false:=by
 rw[<-Bool.not_eq_true,List.isPrefixOf_iff_prefix];intro hp;have:=hp.length_le;omega
theorem BDrew {B:Nat} {w W:World} (h:Below B w W):Below B w W.drew:=⟨h.os,h.tape,h.output,h.size,h.block⟩
theorem zyaZ (s:ByteArray) (k:Nat) (w:World) (hk:k<s.size) (hs:s.size<=140737488351232) :
  Calls Tryz.prog 152 #[.string s,.int .i64 (k:Int)] w fun e w'=>e=.returned (cutV k (cutR k (s.data.toList.drop k)))/\Below w.heap.size w w':=by
 have Je:(s.size:Int)<=140737488351232:=by omega
 have Jb:(k:Int)<(s.size:Int):=by omega
 have Jf:(0:Int)<=(k:Int):=by omega
 have HD:=zh (zkZ s k hk);go_enter Tryz.func152, Tryz.ntmps152;go_upto_region 1 with fail
 have H4:=ydZ w (.cells #[.int .i64 0,.int .i64 0,.string ⟨#[]⟩,.int .i64 0,.int .i64 0,.int .i64 0,.int .i64 0] 193);have hb:=zeZ (yeZ w (.cells #[.int .i64 0,.int .i64 0,.string ⟨#[]⟩,.int .i64 0,.int .i64 0,.int .i64 0,.int .i64 0] 193) none);have Hd:(w.alloc (.cells #[.int .i64 0,.int .i64 0,.string ⟨#[]⟩,.int .i64 0,.int .i64 0,.int .i64 0,.int .i64 0] 193)).heap.size=w.heap.size+1:=by rw[World.size_alloc]
 obtain⟨W1,hW1⟩:=zE (w.alloc (.cells #[.int .i64 0,.int .i64 0,.string ⟨#[]⟩,.int .i64 0,.int .i64 0,.int .i64 0,.int .i64 0] 193));rw[hW1]at H4 hb Hd ⊢;have HZ:=zh H4;have HB:=zh hb;have Hc:=zaZ H4;clear H4 hW1 hb;by_cases hlet:Lx.letter (s[k]'hk)=true
 ·have HR:=zh (show cutR k (s.data.toList.drop k)=Lx.cutName k (s.data.toList.drop k)by
   rw[HD.o,zbzZ (by simp[Lx.begins,hlet])]
   simp only[Lx.cut,hlet,ycbZ])
  have h2:Lx.small (s[k]'hk)=true\/(Lx.small (s[k]'hk)=false/\Lx.great (s[k]'hk)=true):=by
   have h:=hlet;unfold Lx.letter at h
   cases hsm:Lx.small (s[k]'hk)with
   | true=>exact .inl rfl
   | false=>rw[hsm,Bool.false_or]at h;exact .inr ⟨rfl,h⟩
  rcases h2 with hsm | ⟨hsm,hgr⟩
  all_goals
   have H6:=fun X=>zwcZ s k X hk hs hlet;obtain⟨l0,l1,l2,l3,l4,l5,l6,hcv⟩:=zfkZ k (Lx.cutName k (s.data.toList.drop k));have Ha:=zh hcv
   go_wp2_with (first
    | (go_at_call 164;refine(zcfZ _ _).mono ?_;rw[hsm];rintro e w' ⟨rfl,H0⟩;rw[<-H0];clear H0)
    | (go_at_call 165;refine(zbpZ _ _).mono ?_;rw[hgr];rintro e w' ⟨rfl,H0⟩;rw[<-H0];clear H0)
    | (go_at_call 166;refine(zbvZ _ _).mono ?_;rw[H3];rintro e w' ⟨rfl,H0⟩;rw[<-H0];clear H0)
    | (go_at_call 167;refine(H6 _).mono ?_;rw[hcv];clear H6;rintro e W3 ⟨rfl,H2⟩;obtain⟨⟨a0,a1,a2,a3,a4,a5,a6⟩,⟨f0,f1,f2,f3,f4,f5,f6⟩,hl3⟩:=zfZ ((H2.block _ Hc).trans HZ.o)))
   refine ylZ (v:=.agg #[.int .i64 l0,.int .i64 l1,.string l2,.int .i64 l3,.int .i64 l4,.int .i64 l5,.int .i64 l6]) (by simp[results, Tryz.results152,go_sem,a0,a1,a2,a3,a4,a5,a6,f0,f1,f2,f3,f4,f5,f6,hl3]) rfl ?_;rw[HR.o,Ha.o];have H5:=Below.chain HB.o H2;refine⟨rfl,?_⟩
   repeat (first | (with_reducible exact H5) | with_reducible refine BSet ?_ (ybZ _))
 ·have Hb:Lx.letter (s[k]'hk)=false:=(by simpa using hlet);have J5:Lx.small (s[k]'hk)=false/\Lx.great (s[k]'hk)=false:=(by simpa[Lx.letter]using Hb);obtain⟨hsm,hgr⟩:=J5
  cases H3:Lx.digit (s[k]'hk)with
  | true=>
   have HR:=zh (show cutR k (s.data.toList.drop k)=Lx.cutNumber k (s.data.toList.drop k)by
    rw[HD.o,zbzZ (by simp[Lx.begins,H3])]
    simp only[Lx.cut,Hb,H3,ycbZ,Bool.false_eq_true,yXZ])
   have H6:=fun X=>zqvZ s k X hk hs H3;obtain⟨l0,l1,l2,l3,l4,l5,l6,hcv⟩:=zfkZ k (Lx.cutNumber k (s.data.toList.drop k));have Ha:=zh hcv
   go_wp2_with (first
    | (go_at_call 164;refine(zcfZ _ _).mono ?_;rw[hsm];rintro e w' ⟨rfl,H0⟩;rw[<-H0];clear H0)
    | (go_at_call 165;refine(zbpZ _ _).mono ?_;rw[hgr];rintro e w' ⟨rfl,H0⟩;rw[<-H0];clear H0)
    | (go_at_call 166;refine(zbvZ _ _).mono ?_;rw[H3];rintro e w' ⟨rfl,H0⟩;rw[<-H0];clear H0)
    | (go_at_call 168;refine(H6 _).mono ?_;rw[hcv];clear H6;rintro e W3 ⟨rfl,H2⟩;obtain⟨⟨a0,a1,a2,a3,a4,a5,a6⟩,⟨f0,f1,f2,f3,f4,f5,f6⟩,hl3⟩:=zfZ ((H2.block _ Hc).trans HZ.o)))
   refine ylZ (v:=.agg #[.int .i64 l0,.int .i64 l1,.string l2,.int .i64 l3,.int .i64 l4,.int .i64 l5,.int .i64 l6]) (by simp[results, Tryz.results152,go_sem,a0,a1,a2,a3,a4,a5,a6,f0,f1,f2,f3,f4,f5,f6,hl3]) rfl ?_;rw[HR.o,Ha.o];have H5:=Below.chain HB.o H2;refine⟨rfl,?_⟩
   repeat (first | (with_reducible exact H5) | with_reducible refine BSet ?_ (ybZ _))
  | false=>
   by_cases h34:(s[k]'hk).toNat=34
   ·have b34:=u8t _ 34 h34
    have HR:=zh (show cutR k (s.data.toList.drop k)=Lx.quoted k (s.data.toList.drop (k+1)) [] 1 by
     rw[HD.o,zbzZ (by simp[Lx.begins,h34])]
     simp only[Lx.cut,Hb,H3,h34,beq_self_eq_true,ycbZ,Bool.false_eq_true,yXZ])
    clear h34;have H6:=fun X=>zqwZ s k X hk hs;obtain⟨l0,l1,l2,l3,l4,l5,l6,hcv⟩:=zfkZ k (Lx.quoted k (s.data.toList.drop (k+1)) [] 1);have Ha:=zh hcv
    go_wp2_with (first
     | (go_at_call 164;refine(zcfZ _ _).mono ?_;rw[hsm];rintro e w' ⟨rfl,H0⟩;rw[<-H0];clear H0)
     | (go_at_call 165;refine(zbpZ _ _).mono ?_;rw[hgr];rintro e w' ⟨rfl,H0⟩;rw[<-H0];clear H0)
     | (go_at_call 166;refine(zbvZ _ _).mono ?_;rw[H3];rintro e w' ⟨rfl,H0⟩;rw[<-H0];clear H0)
     | (go_at_call 169;refine(H6 _).mono ?_;rw[hcv];clear H6;rintro e W3 ⟨rfl,H2⟩;obtain⟨⟨a0,a1,a2,a3,a4,a5,a6⟩,⟨f0,f1,f2,f3,f4,f5,f6⟩,hl3⟩:=zfZ ((H2.block _ Hc).trans HZ.o)))
    refine ylZ (v:=.agg #[.int .i64 l0,.int .i64 l1,.string l2,.int .i64 l3,.int .i64 l4,.int .i64 l5,.int .i64 l6]) (by simp[results, Tryz.results152,go_sem,a0,a1,a2,a3,a4,a5,a6,f0,f1,f2,f3,f4,f5,f6,hl3]) rfl ?_;rw[HR.o,Ha.o];have H5:=Below.chain HB.o H2;refine⟨rfl,?_⟩
    repeat (first | (with_reducible exact H5) | with_reducible refine BSet ?_ (ybZ _))
   ·have b34:=u8f _ 34 h34;have Hq:=zh h34;clear h34 hlet
    go_upto_region 9 with(first
 | (go_at_call 164;refine(zcfZ _ _).mono ?_;rw[hsm];rintro e w' ⟨rfl,H0⟩;rw[<-H0];clear H0)
 | (go_at_call 165;refine(zbpZ _ _).mono ?_;rw[hgr];rintro e w' ⟨rfl,H0⟩;rw[<-H0];clear H0)
 | (go_at_call 166;refine(zbvZ _ _).mono ?_;rw[H3];rintro e w' ⟨rfl,H0⟩;rw[<-H0];clear H0)
     | (go_at_call 139;refine(zhxZ _).mono ?_;rintro e W2 ⟨rfl,hWe⟩;rw[hWe];clear hWe))
    have H1:=ydZ W1 (.cells sgCells 9);have Hg:=heap_alloc HZ.o (.cells sgCells 9);have Hn:=HB.o.alloc HB.o.size (.cells sgCells 9);have Hm:(W1.alloc (.cells sgCells 9)).heap.size=w.heap.size+2:=(by rw[World.size_alloc,Hd]);rw[Hd]at H1;obtain⟨W2,hW2⟩:=zE (W1.alloc (.cells sgCells 9));rw[hW2]at H1 Hg Hn Hm ⊢;have J9:=zh H1;have J1:=zh Hg;have Ja:=zh Hn;have HL:=zh (And.intro Hb H3);have J3:=zaZ Hg;have J8:=zaZ H1;clear H1 Hg Hn hW2 HZ HB Hc Hd Hb hsm hgr H3 b34;go_wp2_with fail;go_loopg [7] 14 (fun n v wr=>∃(m:Nat),n=14-m/\v=.int .i64 (m:Int)/\m<=14/\wr.heap=W2.heap/\Below w.heap.size w wr/\∀j,j<m->(sgs.getD j []).isPrefixOf (s.data.toList.drop k)=false)
    case atStart=>exact⟨0,rfl,rfl,yxZ _,rfl,Ja.o,fun j h=>absurd h (Nat.not_lt_zero j)⟩
    case round=>
     obtain⟨m,hn,rfl,hm,hwq,hwb,hc⟩:=hrel;have HN:=zh hn;have HC:=zh hc;have Hr:=zh hwq;have Hh:Hid (wr.heap[w.heap.size+1]? =some (.cells sgCells 9 (0,0))):=zh (by rw[hwq];exact J9.o);have Hj:Hid (wr.heap[w.heap.size]? =some (.cells #[.int .i64 0,.int .i64 0,.string ⟨#[]⟩,.int .i64 0,.int .i64 0,.int .i64 0,.int .i64 0] 193 (0,0))):=zh (by rw[hwq];exact J1.o);have Hf:Hid (Below w.heap.size w wr):=zh hwb;have H9:=zaZ Hj.o;have Hl:=zaZ Hh.o;clear hn hc hwq hwb;by_cases hlt:m<14
     ·have J6:(m:Int)<14:=(by omega);have Jg:(0:Int)<=(m:Int):=(by omega);have t0:=(zdZ Hh.o m).trans (zfjZ m hlt);obtain⟨x,hx⟩:=zE (sgs.getD m []);have HX:=zh hx;rw[hx]at t0;have Hy:x.length<=2:=(by have Hv:((List.range 14).all fun m=>decide ((sgs.getD m []).length<=2))=true:=(by decide);have:=yZZ.1 Hv m (List.mem_range.2 hlt);rw[hx]at this;simpa using this);obtain⟨S,hS⟩:∃S:ByteArray,(⟨x.toArray⟩:ByteArray)=S:=⟨_,rfl⟩;have Hw:=zh (show S.data.toList=x by rw[<-hS]);have hSl:S.size=x.length:=(by rw[<-hS];rfl);have He:=zh hSl;rw[hS]at t0;have hS2:(S.size:Int)<=2:=(by omega);have hS0:(0:Int)<=(S.size:Int):=(by omega);have Jd:IntKind.i64.wrap ((k:Int)+(S.size:Int))=(k:Int)+(S.size:Int):=(by rw[yQZ];omega);have J7:=zh hS;clear hx hS hSl Hy;by_cases hfit:k+S.size<=s.size
      ·have J0:(k:Int)+(S.size:Int)<=(s.size:Int):=by omega
       have HP:=zh (show x.isPrefixOf (s.data.toList.drop k)=((s.data.toList.drop k).take S.size==x)by
        rw[pre_take (by rw[yhbZ,zhZ,<-He.o];omega),He.o])
       obtain⟨E,hE⟩:∃E:ByteArray,s.extract k (k+S.size)=E:=⟨_,rfl⟩;have H7:(E.toList==S.toList)=((s.data.toList.drop k).take S.size==x):=(by rw[yebZ,yebZ,<-hE,zbsZ,Hw.o,show k+S.size-k=S.size by omega]);clear hfit
       cases hq:((s.data.toList.drop k).take S.size==x)with
       | true=>
        rw[hq]at H7 HP
        have HR:=zh (show cutR k (s.data.toList.drop k)=.ok ⟨k,6,x,0⟩ x.length by
         rw[HD.o];have:=ztsZ (p:=k) hlt HL.o.1 HL.o.2 Hq.o (by rw[HX.o,<-HD.o];exact HP.o) (by rw[<-HD.o];exact HC.o);rw[HX.o]at this
         exact this)
        clear hq;go_wp2_with fail;go_quiet (fail);obtain⟨W4,hW4⟩:=zE (wr.drewN nq);have J2:Hid (W4.heap[w.heap.size+1]? =some (.cells sgCells 9 (0,0))):=zh (by rw[<-hW4];exact Hh.o);have Hu:Hid (W4.heap[w.heap.size]? =some (.cells #[.int .i64 0,.int .i64 0,.string ⟨#[]⟩,.int .i64 0,.int .i64 0,.int .i64 0,.int .i64 0] 193 (0,0))):=zh (by rw[<-hW4];exact Hj.o);have Ht:Hid (Below w.heap.size w W4):=zh (by rw[<-hW4];exact Below.drewN Hf.o _);have s0:W4.cell? ⟨w.heap.size+1,m,none⟩=some (.string S):=(by rw[<-hW4];exact t0);have Hp:=zaZ Hu.o;have Hi:=zaZ J2.o;rw[hW4];clear hW4 t0 H9 Hl;go_upto_region 15 with fail;have ht:=ydZ W4 (.cells #[.int .i64 (k:Int),.int .i64 6,.string S,.int .i64 0] 133);have Ho:=heap_alloc Hu.o (.cells #[.int .i64 (k:Int),.int .i64 6,.string S,.int .i64 0] 133);have Hk:=Ht.o.alloc Ht.o.size (.cells #[.int .i64 (k:Int),.int .i64 6,.string S,.int .i64 0] 133);have s5:(W4.alloc (.cells #[.int .i64 (k:Int),.int .i64 6,.string S,.int .i64 0] 133)).cell? ⟨w.heap.size+1,m,none⟩=some (.string S):=(World.cell?_of_block (Below.heap_alloc W4 _ _ Hi)).trans s0;have H8:=World.size_alloc W4 (.cells #[.int .i64 (k:Int),.int .i64 6,.string S,.int .i64 0] 133);obtain⟨L,hL⟩:=zE (W4.heap.size);obtain⟨W5,hW5⟩:=zE (W4.alloc (.cells #[.int .i64 (k:Int),.int .i64 6,.string S,.int .i64 0] 133));rw[hL]at ht Hp Hi;rw[hL,hW5]at H8;rw[hW5]at ht Ho Hk s5;rw[hL,hW5];obtain⟨t0,t1,t2,t3⟩:=zgZ ht;obtain⟨⟨p0,p1,p2,p3,p4,p5,p6⟩,⟨g0,g1,g2,g3,g4,g5,g6⟩,hl0⟩:=zfZ Ho;have J4:=zaZ ht;have Hx:w.heap.size+1<W5.heap.size:=(by omega);have Hz:=zh Hk;clear hL hW5 s0 Hk Ho ht H8 Hp Hi hE H7
        go_region
        go_wp2_with fail
        refine ylZ (v:=.agg #[.int .i64 (k:Int),.int .i64 6,.string S,.int .i64 0,.int .i64 ((k:Int)+(S.size:Int)),.int .i64 0,.int .i64 0]) (by simp[results, Tryz.results152,go_sem,p0,p1,p2,p3,p4,p5,p6,g0,g1,g2,g3,g4,g5,g6,hl0]) rfl ?_;rw[HR.o];have H5:=Hz.o;refine⟨?_,?_⟩
        ·simp only[cutV,J7.o];rw[<-He.o];rfl
        ·refine BDrew ?_
         repeat (first | (with_reducible exact H5) | with_reducible refine BSet ?_ (ybZ _))
       | false=>
        rw[hq]at H7 HP;clear hq;go_wp2_with fail;go_quiet (fail);go_wp2_with fail
        go_roundg (14-(m+1))
        case measure=>have:=HN.o;omega
        case rel=>exact⟨m+1,rfl,by simp,hlt,Hr.o,Below.drewN Hf.o _,fun j hj=>by
        rcases Nat.lt_or_ge j m with h | h
        ·exact HC.o j h
        ·rw[show j=m by omega,HX.o];exact HP.o⟩
      ·have J0:decide ((k:Int)+(S.size:Int)<=(s.size:Int))=false:=(by simp;omega);have HP:=zh (show x.isPrefixOf (s.data.toList.drop k)=false from zqzZ (by rw[yhbZ,zhZ,<-He.o];omega));clear hfit;go_wp2_with fail;go_quiet (fail);go_wp2_with fail
       go_roundg (14-(m+1))
       case measure=>have:=HN.o;omega
       case rel=>exact⟨m+1,rfl,by simp,hlt,Hr.o,Below.drewN Hf.o _,fun j hj=>by
        rcases Nat.lt_or_ge j m with h | h
        ·exact HC.o j h
        ·rw[show j=m by omega,HX.o];exact HP.o⟩
     ·have J6:¬(m:Int)<14:=by omega
      have HR:=zh (show cutR k (s.data.toList.drop k)=.bad 10 k by
       rw[HD.o];refine zttZ HL.o.1 HL.o.2 Hq.o ?_;rw[<-HD.o]
       exact fun j hj=>HC.o j (by omega))
      have Hs:=zbwZ 10 (k:Int) wr;go_wp2_with (go_at_call 170;refine Hs.mono ?_;clear Hs;rintro e W3 ⟨rfl,H2⟩;obtain⟨⟨a0,a1,a2,a3,a4,a5,a6⟩,⟨f0,f1,f2,f3,f4,f5,f6⟩,hl3⟩:=zfZ ((H2.block _ H9).trans Hj.o));refine ylZ (v:=.agg #[.int .i64 0,.int .i64 0,.string ⟨#[]⟩,.int .i64 0,.int .i64 0,.int .i64 10,.int .i64 (k:Int)]) (by simp[results, Tryz.results152,go_sem,a0,a1,a2,a3,a4,a5,a6,f0,f1,f2,f3,f4,f5,f6,hl3]) rfl ?_;rw[HR.o];have H5:=Below.chain Hf.o H2;refine⟨rfl,?_⟩
      repeat (first | (with_reducible exact H5) | with_reducible refine BSet ?_ (ybZ _))
end Go.Proofs.YtdncljdfmdgdaaaGreatDoor
