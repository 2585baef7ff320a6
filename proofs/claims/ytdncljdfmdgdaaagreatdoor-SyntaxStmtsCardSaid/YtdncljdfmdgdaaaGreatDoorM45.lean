/-
  The walk of coilkeep.SizeStmts.
-/
import Derived.Test.YtdncljdfmdgdaaaGreatDoorM44
set_option linter.unusedSimpArgs false
set_option linter.unusedVariables false
set_option maxRecDepth 100000
set_option maxHeartbeats 16000000
namespace Go.Proofs.YtdncljdfmdgdaaaGreatDoor
open Go.RowKit Go.Shelf
theorem zroZ:∀(n:Nat) (l:List Sx.St),Sx.sizeSs l<n->Sx.fitsSs l->l.length<=140737488351232->∀(most:Nat) (v:Value) (W:World),1<=most->most<=1000000->StRow W v l->
  Calls Tryz.prog 36 #[v,.int .i64 (most:Nat)] W (SizeIs most (Sx.sizeSs l) W):=by
 intro n
 induction n with
 | zero=>intro l h;omega
 | succ n ih=>
  intro l hn hf Hu most v W Jj Ji hv;obtain⟨A,c,rfl,hca,hra⟩:=hv;have HV:=zh (show StRow W (.slice A l.length c) l from⟨A,c,rfl,hca,hra⟩);clear hca hra;obtain⟨k,hk⟩:=zE (l.length);rw[hk]at HV Hu ⊢;have k0:(0:Int)<=(k:Int):=(by omega);have k1:(k:Int)<=140737488351232:=(by omega);have i5a:(1:Int)<=(most:Int):=(by omega);have i5b:(most:Int)<=1000000:=(by omega);obtain⟨L,hL⟩:=zE (W.heap.size);have Hw:=zh ih;have HN:=zh hn;have HF:=zh hf;have HK:=zh hk;have HL:=zh hL;clear ih hn hf hk Hu;go_enter Tryz.func36, Tryz.ntmps36;go_wp2_with fail;go_loopg [5,6,7,8] k (fun i v5 v6 v7 v8 wr=>∃(m r:Nat),i=k-m/\v5=.int .i64 (r:Nat)/\v6=.int .i64 (m:Nat)/\m<=k/\r<=most+500000000000000/\(r<most->r=Sx.sizeSs (l.take m))/\Below L W wr)
  case atStart=>exact⟨0,0,rfl,rfl,rfl,yxZ _,by omega,fun _=>by simp[Sx.sizeSs],by rw[<-hL];exact yqZ _ _⟩
  case round=>
   obtain⟨m,r,hi,rfl,rfl,hm,hr1,hr2,hb⟩:=hrel;have HI:=zh hi;have Hs:=zh hr2;have HB:=zh hb;have m0:(0:Int)<=(m:Int):=(by omega);have r0:(0:Int)<=(r:Int):=(by omega);have r1:(r:Int)<=500000001000000:=(by omega);clear hi hr2 hb;by_cases hlt:m<k
   ·have J0:(m:Int)<(k:Int):=(by omega);by_cases hrm:r<most
    ·have J1:(r:Int)<(most:Int):=(by omega);have Hg:m<l.length:=(by have:=HK.o;omega);obtain⟨g,off,A0,c0,A1,c1,A2,c2,A3,c3,rfl,hty,hc7⟩:=HV.o.spot m Hg;rw[HL.o]at hc7;have H5:=Sx.sizeS_take Hg;have H4:=Sx.fitsSs_mem HF.o (yfZ Hg);have Ho:=Sx.sizeS_mem (yfZ Hg);obtain⟨s,hse⟩:=zE (l[m]'Hg);rw[hse]at hty hc7 H5 H4 Ho;obtain⟨f1,f2,f3,f4,f5,⟨f6,f6'⟩,⟨f7,f7'⟩⟩:=Sx.fitsS_parts H4;obtain⟨A0',c0',A1',c1',A2',c2',A3',c3',hagg,htt,htx,htb,hte⟩:=hty.agg;injection hagg with hagg;simp only[ykbZ,ygbZ,Value.slice.injEq,ymbZ,true_and]at hagg;obtain⟨⟨rfl,rfl⟩,⟨rfl,rfl⟩,⟨rfl,rfl⟩,⟨rfl,rfl⟩⟩:=hagg;have Hp:=Sx.sizeS_parts s;obtain⟨nl,hnl⟩:=zE (s.name.length);obtain⟨tl,htl⟩:=zE (s.t.length);obtain⟨xl,hxl⟩:=zE (s.x.length);obtain⟨bl,hbl⟩:=zE (s.body.length);obtain⟨el,hel⟩:=zE (s.els.length);rw[htl]at hc7 htt f2;rw[hxl]at hc7 htx f4;rw[hbl]at hc7 htb f6;rw[hel]at hc7 hte f7;rw[hnl]at Hp f1;have J9:(⟨s.name.toArray⟩:ByteArray).size=nl:=(by simp[ByteArray.size,hnl]);have nl0:(0:Int)<=(nl:Int):=(by omega);have nl1:(nl:Int)<=140737488351232:=(by omega);have tl0:(0:Int)<=(tl:Int):=(by omega);have tl1:(tl:Int)<=140737488351232:=(by omega);have xl0:(0:Int)<=(xl:Int):=(by omega);have xl1:(xl:Int)<=140737488351232:=(by omega);have Jb:=zh htt;have Jh:=zh htx;have J7:=zh htb;have J4:=zh hte;have HC:=zh hc7;have J5:=zh f3;have J6:=zh f5;have Hy:=zh f6';have Je:=zh f7';have Hn:bl<=140737488351232:=f6;have Hj:el<=140737488351232:=f7;have Ja:=zh hbl;have Hz:=zh hel;have Hx:=zh htl;have Ht:=zh hxl;have J8:=zh H5;have Hq:=zh Hp;have Hv:=zh Ho;have Jg:=zh (Hs.o hrm);clear htt htx htb hte hc7 f1 f2 f3 f4 f5 f6 f7 f6' f7' hbl hel htl hxl H5 Hp Ho hse H4 hty hnl;obtain⟨hg,x0,x1,x2,x3,x4,x5,x6⟩:=HC.o wr HB.o
     go_upto_block 2 with(fail)
     go_cut [5,7,8]from 9 to 114 (fun v v7 v8 wx=>∃q:Nat,v=.int .i64 (q:Nat)/\q<=most+500000000000000/\(q<most->q=r+1+nl+Sx.sizeL s.t)/\Below L W wx)
     case first=>
      go_wp2_with fail
      clear hg x0 x1 x2 x3 x4 x5 x6;go_loopg [5,7] tl (fun i v u w9=>∃(j q:Nat),i=tl-j/\v=.int .i64 (q:Nat)/\u=.int .i64 (j:Nat)/\j<=tl/\q<=most+500000000000000/\(q<most->q=r+1+nl+Sx.sizeL (s.t.take j))/\Below L W w9)
      case atStart=>exact⟨0,r+1+nl,rfl,by simp,rfl,yxZ _,by omega,fun _=>by simp[Sx.sizeL],HB.o⟩
      case round=>
       obtain⟨j,q,hi2,rfl,rfl,hj,hq1,hq2,hwr⟩:=hrel;have HJ:=zh hi2;have H7:=zh hq2;have H1:=zh hwr;have j0:(0:Int)<=(j:Int):=(by omega);have q0:(0:Int)<=(q:Int):=(by omega);have q1:(q:Int)<=500000001000000:=(by omega);clear hi2 hq2 hwr;obtain⟨hg,x0,x1,x2,x3,x4,x5,x6⟩:=HC.o wr H1.o;have hLs:L<=wr.heap.size:=(by have:=H1.o.size;have:=HL.o;omega);by_cases hlt2:j<tl
       ·have Hr:(j:Int)<(tl:Int):=(by omega);by_cases hqm:q<most
        ·have Hd:(q:Int)<(most:Int):=(by omega);have H6:j<s.t.length:=(by have:=Hx.o;omega);obtain⟨g2,off2,An1,cn1,Ae1,ce1,Aq,cq,rfl,hty,hc5⟩:=Jb.o.spot j H6;rw[HL.o]at hc5;obtain⟨hg2,y0,y1,y2,y3,y4⟩:=hc5 wr H1.o;have H5:=Sx.size_take H6;have H4:=J5.o _ (yfZ H6);obtain⟨p,hpe⟩:=zE (s.t[j]'H6);rw[hpe]at y0 y1 y2 y3 y4 hty H5 H4;obtain⟨d,hd⟩:∃d:Int,(most:Int)-(q:Int)=d:=⟨_,rfl⟩;have d0:1<=d:=(by omega);have d1:d<=1000000:=(by omega);have H2:=zljZ _ p (ybZ _) H4 (most-q) _ wr (by omega) (by omega) (IsTy.below (by rw[HL.o];exact H1.o) _ _ hty);rw[show((most-q:Nat):Int)=d by omega]at H2;have Hb:=zh H2;have Hc:=zh H5;have Ha:=zh (H7.o hqm);clear H2 H5 H4 hpe hty hc5;go_wp2_with fail;refine Hb.o.mono ?_;rintro e w5 ⟨z,rfl,Hk,H3,H9⟩;have z0:(0:Int)<=(z:Int):=(by omega);have Hl:z+q<=most+500000000000000:=(by omega);have z1:(z:Int)<=500000001000000:=(by omega);have z2:(q:Int)+(z:Int)<=500000001000000:=(by omega);have H8:=zh H3;clear H3;go_wp2_with fail;go_roundg (tl-(j+1))
         case measure=>have:=HJ.o;omega
         case rel=>refine⟨j+1,q+z,rfl,by simp,by simp,hlt2,by omega,fun hlz=>?_,H1.o.trans (H9.mono hLs)⟩;rw[Hc.o,H8.o (by omega),Ha.o];omega
        ·have Hd:decide ((q:Int)<(most:Int))=false:=(by rw[yvZ];omega);have He:¬(q:Int)<(most:Int):=(by omega);go_wp2_with fail
         go_meet
         exact⟨q,rfl,hq1,fun h=>absurd h hqm,H1.o⟩
       ·have Hr:decide ((j:Int)<(tl:Int))=false:=(by rw[yvZ];omega);have Hm:¬(j:Int)<(tl:Int):=(by omega);have H0:=yjZ (show s.t.length<=j by have:=Hx.o;omega);have Hi:=zh H0;clear H0;go_wp2_with fail
        go_meet
        exact⟨q,rfl,hq1,fun h=>by rw[H7.o h,Hi.o],H1.o⟩
     case rest=>
      obtain⟨q1,rfl,hq1,hq2,hbq⟩:=hcut;have H7:=zh hq2;have J3:=zh hbq;have qa0:(0:Int)<=(q1:Int):=(by omega);have qa1:(q1:Int)<=500000001000000:=(by omega);clear hq2 hbq hg x0 x1 x2 x3 x4 x5 x6
      go_upto_block 4 with(fail)
      go_cut [5,7,8]from 9 to 114 (fun v v7 v8 wx=>∃q:Nat,v=.int .i64 (q:Nat)/\q<=most+500000000000000/\(q<most->q=r+1+nl+Sx.sizeL s.t+Sx.sizeXs s.x)/\Below L W wx)
      case first=>
       go_wp2_with fail
       go_loopg [5,8] xl (fun i v u w9=>∃(j q:Nat),i=xl-j/\v=.int .i64 (q:Nat)/\u=.int .i64 (j:Nat)/\j<=xl/\q<=most+500000000000000/\(q<most->q=r+1+nl+Sx.sizeL s.t+Sx.sizeXs (s.x.take j))/\Below L W w9)
       case atStart=>exact⟨0,q1,rfl,rfl,rfl,yxZ _,by omega,fun h=>by have:=H7.o h;simpa[Sx.sizeXs]using this,J3.o⟩
       case round=>
        obtain⟨j,q,hi2,rfl,rfl,hj,hq1,hq2,hwr⟩:=hrel;have HJ:=zh hi2;have H7:=zh hq2;have H1:=zh hwr;have j0:(0:Int)<=(j:Int):=(by omega);have q0:(0:Int)<=(q:Int):=(by omega);have q1:(q:Int)<=500000001000000:=(by omega);clear hi2 hq2 hwr;obtain⟨hg,x0,x1,x2,x3,x4,x5,x6⟩:=HC.o wr H1.o;have hLs:L<=wr.heap.size:=(by have:=H1.o.size;have:=HL.o;omega);by_cases hlt2:j<xl
        ·have Hr:(j:Int)<(xl:Int):=(by omega);by_cases hqm:q<most
         ·have Hd:(q:Int)<(most:Int):=(by omega);have H6:j<s.x.length:=(by have:=Ht.o;omega);obtain⟨g2,off2,A9,c9,A8,c8,Aq,cq,rfl,hty,hc5⟩:=Jh.o.spot j H6;rw[HL.o]at hc5;obtain⟨hg2,y0,y1,y2,y3,y4,y5,y6⟩:=hc5 wr H1.o;have H5:=Sx.sizeX_take H6;have H4:=J6.o _ (yfZ H6);obtain⟨p,hpe⟩:=zE (s.x[j]'H6);rw[hpe]at y0 y1 y2 y3 y4 y5 y6 hty H5 H4;obtain⟨d,hd⟩:∃d:Int,(most:Int)-(q:Int)=d:=⟨_,rfl⟩;have d0:1<=d:=(by omega);have d1:d<=1000000:=(by omega);have H2:=zrnZ _ p (ybZ _) H4 (most-q) _ wr (by omega) (by omega) (IsEx.below (by rw[HL.o];exact H1.o) _ _ hty);rw[show((most-q:Nat):Int)=d by omega]at H2;have Hb:=zh H2;have Hc:=zh H5;have Ha:=zh (H7.o hqm);clear H2 H5 H4 hpe hty hc5;go_wp2_with fail;refine Hb.o.mono ?_;rintro e w5 ⟨z,rfl,Hk,H3,H9⟩;have z0:(0:Int)<=(z:Int):=(by omega);have Hl:z+q<=most+500000000000000:=(by omega);have z1:(z:Int)<=500000001000000:=(by omega);have z2:(q:Int)+(z:Int)<=500000001000000:=(by omega);have H8:=zh H3;clear H3;go_wp2_with fail;go_roundg (xl-(j+1))
          case measure=>have:=HJ.o;omega
          case rel=>refine⟨j+1,q+z,rfl,by simp,by simp,hlt2,by omega,fun hlz=>?_,H1.o.trans (H9.mono hLs)⟩;rw[Hc.o,H8.o (by omega),Ha.o];omega
         ·have Hd:decide ((q:Int)<(most:Int))=false:=(by rw[yvZ];omega);have He:¬(q:Int)<(most:Int):=(by omega);go_wp2_with fail
          go_meet
          exact⟨q,rfl,hq1,fun h=>absurd h hqm,H1.o⟩
        ·have Hr:decide ((j:Int)<(xl:Int))=false:=(by rw[yvZ];omega);have Hm:¬(j:Int)<(xl:Int):=(by omega);have H0:=yjZ (show s.x.length<=j by have:=Ht.o;omega);have Hi:=zh H0;clear H0;go_wp2_with fail
         go_meet
         exact⟨q,rfl,hq1,fun h=>by rw[H7.o h,Hi.o],H1.o⟩
      case rest=>
       rename_i we;obtain⟨q3,rfl,hq3,hq4,hbq⟩:=hcut;have Jc:=zh hq4;have Hf:=zh hbq;have qc0:(0:Int)<=(q3:Int):=(by omega);have qc1:(q3:Int)<=500000001000000:=(by omega);clear hq4 hbq;obtain⟨hg,x0,x1,x2,x3,x4,x5,x6⟩:=HC.o wc Hf.o
       go_upto_if 89 with(fail)
       go_cut [5,7,8]from 9 to 114 (fun v v7 v8 wx=>∃q:Nat,v=.int .i64 (q:Nat)/\q<=most+500000000000000/\(q<most->q=r+1+nl+Sx.sizeL s.t+Sx.sizeXs s.x+Sx.sizeSs s.body)/\Below L W wx)
       case first=>
        have hLs:L<=wc.heap.size:=(by have:=Hf.o.size;have:=HL.o;omega);by_cases hqm:q3<most
        ·have Hd:(q3:Int)<(most:Int):=(by omega);obtain⟨d,hd⟩:∃d:Int,(most:Int)-(q3:Int)=d:=⟨_,rfl⟩;have d0:1<=d:=(by omega);have d1:d<=1000000:=(by omega);have H2:=Hw.o s.body (by have:=Hq.o;have:=Hv.o;have:=HN.o;omega) Hy.o (by rw[Ja.o];exact Hn) (most-q3) _ wc (by omega) (by omega) (J7.o.below (by rw[HL.o];exact Hf.o));rw[show((most-q3:Nat):Int)=d by omega]at H2;have Hb:=zh H2;have Ha:=zh (Jc.o hqm);clear H2;go_wp2_with fail;refine Hb.o.mono ?_;rintro e w5 ⟨z,rfl,Hk,H3,H9⟩;have z0:(0:Int)<=(z:Int):=(by omega);have Hl:z+q3<=most+500000000000000:=(by omega);have z1:(z:Int)<=500000001000000:=(by omega);have z2:(q3:Int)+(z:Int)<=500000001000000:=(by omega);have H8:=zh H3;clear H3;go_wp2_with fail
         go_meet
         exact⟨q3+z,by simp,by omega,fun h=>by rw[H8.o (by omega),Ha.o],Hf.o.trans (H9.mono hLs)⟩
        ·have Hd:decide ((q3:Int)<(most:Int))=false:=(by rw[yvZ];omega);have He:¬(q3:Int)<(most:Int):=(by omega);go_wp2_with fail
         go_meet
         exact⟨q3,rfl,hq3,fun h=>absurd h hqm,Hf.o⟩
       case rest=>
        obtain⟨q5,rfl,hq5,hq6,hbq⟩:=hcut;have Jd:=zh hq6;have Hh:=zh hbq;have qe0:(0:Int)<=(q5:Int):=(by omega);have qe1:(q5:Int)<=500000001000000:=(by omega);clear hq6 hbq hg x0 x1 x2 x3 x4 x5 x6;obtain⟨hg,x0,x1,x2,x3,x4,x5,x6⟩:=HC.o wc Hh.o;have hLs:L<=wc.heap.size:=(by have:=Hh.o.size;have:=HL.o;omega);by_cases hqm:q5<most
        ·have Hd:(q5:Int)<(most:Int):=(by omega);obtain⟨d,hd⟩:∃d:Int,(most:Int)-(q5:Int)=d:=⟨_,rfl⟩;have d0:1<=d:=(by omega);have d1:d<=1000000:=(by omega);have H2:=Hw.o s.els (by have:=Hq.o;have:=Hv.o;have:=HN.o;omega) Je.o (by rw[Hz.o];exact Hj) (most-q5) _ wc (by omega) (by omega) (J4.o.below (by rw[HL.o];exact Hh.o));rw[show((most-q5:Nat):Int)=d by omega]at H2;have Hb:=zh H2;have Ha:=zh (Jd.o hqm);clear H2;go_wp2_with fail;refine Hb.o.mono ?_;rintro e w5 ⟨z,rfl,Hk,H3,H9⟩;have z0:(0:Int)<=(z:Int):=(by omega);have Hl:z+q5<=most+500000000000000:=(by omega);have z1:(z:Int)<=500000001000000:=(by omega);have z2:(q5:Int)+(z:Int)<=500000001000000:=(by omega);have H8:=zh H3;clear H3;go_wp2_with fail;go_roundg (k-(m+1))
         case measure=>have:=HI.o;omega
         case rel=>refine⟨m+1,q5+z,rfl,by simp,by simp,hlt,by omega,fun h=>?_,Hh.o.trans (H9.mono hLs)⟩;rw[H8.o (by omega),Ha.o,J8.o,<-Jg.o,Hq.o];omega
        ·have Hd:decide ((q5:Int)<(most:Int))=false:=(by rw[yvZ];omega);have He:¬(q5:Int)<(most:Int):=(by omega);go_wp2_with fail;go_roundg (k-(m+1))
         case measure=>have:=HI.o;omega
         case rel=>exact⟨m+1,q5,rfl,rfl,by simp,hlt,hq5,fun h=>absurd h hqm,Hh.o⟩
    ·have J1:decide ((r:Int)<(most:Int))=false:=(by rw[yvZ];omega);have J2:¬(r:Int)<(most:Int):=(by omega);go_wp2_with fail;go_ret;exact⟨r,rfl,hr1,fun h=>absurd h hrm,by rw[HL.o];exact HB.o⟩
   ·have J0:decide ((m:Int)<(k:Int))=false:=(by rw[yvZ];omega);have Jf:¬(m:Int)<(k:Int):=(by omega);have H0:=yjZ (show l.length<=m by have:=HK.o;omega);have Hi:=zh H0;clear H0;go_wp2_with fail;go_ret;refine⟨r,rfl,hr1,fun h=>?_,by rw[HL.o];exact HB.o⟩;rw[Hs.o h,Hi.o]
end Go.Proofs.YtdncljdfmdgdaaaGreatDoor
namespace Go.Proofs.YtdncljdfmdgdaaaGreatDoor
open Go.Proofs.YtdncljdfmdgdaaaGreatDoor.Lx (Bytes)
namespace Sx
theorem zrpZ {n:Int} (h0:0<=n) (h1:n<=9223372036854775807):Lk (SY.digits n):=by
 show(Lib.decDigits n.toNat).length<=100000;rw[Lib.decDigits_length];have:=nD_le 19 n.toNat (by omega);omega
theorem zudZ {s:Bytes} (h:s.length<=20000):Lk (SY.quote s):=by
 have:=Lx.quote_len s;show(Lx.quote s).length<=100000;omega
theorem zmjZ {l:List Ty} {d:Nat} (h:rightTs NM d l=true):Lks (typL l):=by
 cases l with
 | nil=>rw[typL];exact Lks.nil
 | cons t l=>rw[rightTs,ygZ]at h;rw[typL];exact znoZ h.1
theorem zwiZ (k:Int):Lk (sign k):=by
 unfold sign;split
 ·exact zqlZ
 split
 ·exact zxgZ
 split
 ·exact znnZ
 split
 ·exact lkEq
 split
 ·exact zxfZ
 split
 ·exact lkAnd
 ·exact lkOr
theorem zcqZ {l:List Ex} (n:Nat) (h:∀x∈l,Lks (expr SY x)):Lks (first SY n l):=by
 cases l with
 | nil=>rw[first];exact Lks.nil
 | cons x l=>rw[first];exact Lks.ite (fun _=>((Lks.cons zesZ Lks.nil).app (h x ysZ)).app (Lks.cons lkEnd Lks.nil)) (fun _=>h x ysZ)
theorem zpbZ {l:List Ex} (n:Nat) (h:∀x∈l,Lks (expr SY x)):Lks (second SY n l):=by
 cases l with
 | nil=>rw[second];exact Lks.nil
 | cons x l=>rw[second];exact zcqZ n fun y hy=>h y (ywZ _ hy)
theorem znbZ {l:List Ex} (h:∀x∈l,Lks (expr SY x)):Lks (applied SY l):=by
 cases l with
 | nil=>rw[applied];exact Lks.nil
 | cons x l=>rw[applied];exact Lks.ite (fun _=>((Lks.cons zesZ Lks.nil).app (h x ysZ)).app (Lks.cons lkEnd Lks.nil)) (fun _=>h x ysZ)
theorem zkbZ:∀ {l:List Ex} {i:Nat},(∀x∈l,Lks (expr SY x))->Lks (list SY i l)
 | [],i,h=>by rw[list];exact Lks.nil
 | x::l,i,h=>by rw[list];exact((Lks.ite (fun _=>Lks.cons zjgZ Lks.nil) (fun _=>Lks.nil)).app (h x ysZ)).app (zkbZ fun y hy=>h y (ywZ _ hy))
theorem zmkZ {l:List Ex} (h:∀x∈l,Lks (expr SY x)):Lks (args SY l):=by
 cases l with
 | nil=>rw[args];exact Lks.nil
 | cons x l=>rw[args];exact((Lks.cons zesZ Lks.nil).app (zkbZ fun y hy=>h y (ywZ _ hy))).app (Lks.cons lkEnd Lks.nil)
theorem zixZ:∀ {ns:List Bytes} {l:List Ex} {i:Nat},(∀n∈ns,Lk n)->(∀x∈l,Lks (expr SY x))->Lks (record SY i ns l)
 | [],l,i,hn,h=>by rw[record];exact Lks.nil;simp
 | n::ns,[],i,hn,h=>by rw[record];exact Lks.nil;simp
 | n::ns,x::l,i,hn,h=>by
  rw[record];exact(((Lks.ite (fun _=>Lks.cons zjgZ Lks.nil) (fun _=>Lks.nil)).app (Lks.cons (hn n ysZ) (Lks.cons zvqZ Lks.nil))).app (h x ysZ)).app
   (zixZ (fun m hm=>hn m (ywZ _ hm)) (fun y hy=>h y (ywZ _ hy)))
theorem zueZ:∀(n:Nat) (x:Ex),sizeX x<=n->sizeX x<=20000->okX x->numX x->Lks (expr SY x):=by
 intro n
 induction n with
 | zero=>intro x h;have:=sizeX_pos x;omega
 | succ n ih=>
  intro x hn H4 H2 H1;obtain⟨hs,hp⟩:=H2.shape;obtain⟨hxn,hnp⟩:=numX_parts H1;have H0:∀p∈x.parts,Lks (expr SY p):=fun p hm=>ih p (by have:=sizeX_mem hm;have:=sizeX_parts x;omega) (by have:=sizeX_mem hm;have:=sizeX_parts x;omega) (hp p hm) (hnp p hm);unfold shapeX at hs;simp only[ygZ]at hs;obtain⟨h1,h2,h3,h4,h5⟩:=hs;have H3:1<=x.kind/\x.kind<=21:=(by simpa using h1);rw[expr_eq];refine Lks.ite (fun e=>?_) fun e1=>Lks.ite (fun e=>?_) fun e2=>Lks.ite (fun e=>?_) fun e3=>Lks.ite (fun e=>?_) fun e4=>Lks.ite (fun e=>Lks.cons zxiZ Lks.nil) fun e5=>Lks.ite (fun e=>?_) fun e6=>
   Lks.ite (fun e=>?_) fun e7=>Lks.ite (fun e=>?_) fun e9=>Lks.ite (fun e=>?_) fun e10=>Lks.ite (fun e=>?_) fun e11=>Lks.ite (fun e=>?_) fun e12=>Lks.ite (fun e=>?_) fun e13=>?_
  ·have h0:0<=x.n:=(by simp only[yKZ,yCZ]at h3;omega);exact Lks.cons (zrpZ h0 hxn) Lks.nil
  ·rw[if_pos e]at h2;exact Lks.cons (zudZ (by have:=textX_len x;omega)) Lks.nil
  ·refine Lks.cons ?_ Lks.nil;split
   ·exact zxhZ
   ·exact zvtZ
  ·rw[if_neg e2,if_pos (.inl e)]at h2;exact Lks.cons (zcdZ h2) Lks.nil
  ·rw[if_pos (.inl e),ygZ]at h4;exact Lks.cons lkNil (zmjZ h4.2)
  ·rw[if_neg e2,if_neg (by omega),if_pos e]at h2;rw[if_pos e,ygZ]at h5;exact(((Lks.ite (fun _=>Lks.cons lkNew Lks.nil) (fun _=>Lks.nil)).app (Lks.cons (zlwZ h2) (Lks.cons zipZ Lks.nil))).app (zixZ (fun m hm=>zcdZ (apart_small h5.2 m hm)) H0)).app (Lks.cons ziqZ Lks.nil)
  ·rw[if_neg e2,if_pos (by omega)]at h2;exact(zcqZ 7 H0).app (Lks.cons lkDot (Lks.cons (zcdZ h2) Lks.nil))
  ·rw[if_neg e2,if_pos (by omega)]at h2;exact((zcqZ 7 H0).app (Lks.cons lkDot (Lks.cons (zcdZ h2) Lks.nil))).app (zmkZ H0)
  ·exact(znbZ H0).app (zmkZ H0)
  ·rw[if_pos (.inr e),ygZ]at h4;exact((zcqZ 7 H0).app (Lks.cons lkTo Lks.nil)).app (zmjZ h4.2)
  ·refine Lks.cons ?_ (zcqZ 6 H0);split
   ·exact znnZ
   ·exact lkNot
  ·exact((zcqZ _ H0).app (Lks.cons (zwiZ _) Lks.nil)).app (zpbZ _ H0)
theorem zyfZ {x:Ex} (hz:sizeX x<=20000) (h:okX x) (hn:numX x):Lks (expr SY x):=zueZ _ x (ybZ _) hz h hn
end Sx
end Go.Proofs.YtdncljdfmdgdaaaGreatDoor
