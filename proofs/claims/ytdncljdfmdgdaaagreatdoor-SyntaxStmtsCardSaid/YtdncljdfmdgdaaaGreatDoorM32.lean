/-
  The walk of coilkeep.SizeExpr.
-/
import Derived.Test.YtdncljdfmdgdaaaGreatDoorM1
import Derived.Test.YtdncljdfmdgdaaaGreatDoorM18
import Derived.Test.YtdncljdfmdgdaaaGreatDoorM16
import Derived.Test.YtdncljdfmdgdaaaGreatDoorM11
import Derived.Test.YtdncljdfmdgdaaaGreatDoorM13
import Derived.Test.YtdncljdfmdgdaaaGreatDoorM4
set_option linter.unusedSimpArgs false
set_option linter.unusedVariables false
set_option maxRecDepth 100000
set_option maxHeartbeats 16000000
namespace Go.Proofs.YtdncljdfmdgdaaaGreatDoor
open Go.RowKit Go.Shelf
theorem zrnZ:∀(n:Nat) (t:Sx.Ex),Sx.sizeX t<=n->Sx.fitsX t->∀(most:Nat) (v:Value) (W:World),1<=most->most<=1000000->IsEx W v t->
  Calls Tryz.prog 31 #[v,.int .i64 (most:Nat)] W (SizeIs most (Sx.sizeX t) W):=by
 intro n
 induction n with
 | zero=>intro t h;have:=Sx.sizeX_pos t;omega
 | succ n ih=>
  intro t hn hf most v W J8 Jb ht;obtain⟨f1,f2,f3,f4,f5,f6,f7⟩:=Sx.fitsX_parts hf;obtain⟨At,ct,An,cn,Ap,cp,rfl,htt,hnm,hp,-⟩:=ht.agg;have Ho:=Sx.sizeX_parts t;obtain⟨nl,hnl⟩:=zE (t.names.length);obtain⟨tl,htl⟩:=zE (t.t.length);obtain⟨k,hk⟩:=zE (t.parts.length);obtain⟨ll,hll⟩:=zE (t.s.length);rw[hnl,hll]at Ho;rw[hnl]at f2 hnm;rw[htl]at f4 htt;rw[hk]at f6 hp;rw[hll]at f1;rw[hnl,htl,hk];have i1a:(0:Int)<=(ll:Int):=(by omega);have i1b:(ll:Int)<=140737488351232:=(by omega);have i2a:(0:Int)<=(nl:Int):=(by omega);have i2b:(nl:Int)<=140737488351232:=(by omega);have i3a:(0:Int)<=(tl:Int):=(by omega);have i3b:(tl:Int)<=140737488351232:=(by omega);have i4a:(0:Int)<=(k:Int):=(by omega);have i4b:(k:Int)<=140737488351232:=(by omega);have i5a:(1:Int)<=(most:Int):=(by omega);have i5b:(most:Int)<=1000000:=(by omega);have J2:(⟨t.s.toArray⟩:ByteArray).size=ll:=(by simp[ByteArray.size,hll]);have Hx:=zh ih;have Hr:=zh Ho;have HN:=zh hn;have Hy:=zh hnm;have HP:=zh hp;have J0:=zh htt;have J5:=zh f3;have J7:=zh f5;have J6:=zh f7;have Hu:=zh hnl;have Ht:=zh htl;have HK:=zh hk;obtain⟨L,hL⟩:=zE (W.heap.size);obtain⟨w2,hw2⟩:=zE (W.alloc (.cells #[.int .i64 t.pos,.int .i64 t.kind,.int .i64 t.n,.string ⟨t.s.toArray⟩,.slice At tl ct,.slice An nl cn,.slice Ap k cp] 39));have H4:w2.heap[L]? =some (.cells #[.int .i64 t.pos,.int .i64 t.kind,.int .i64 t.n,.string ⟨t.s.toArray⟩,.slice At tl ct,.slice An nl cn,.slice Ap k cp] 39 (0,0)):=(by rw[<-hw2,<-hL];exact ydZ W _);have Hs:Below L W w2:=(by rw[<-hw2,<-hL];exact zeZ (yeZ W _ none));obtain⟨x0,x1,x2,x3,x4,x5,x6⟩:=zbZ H4;have J9:=zaZ H4;have H5:=zh H4;have Hk:=zh Hs;have HL:=zh hL;clear ih Ho hn hnm htt hp f3 f5 f7 hnl htl hk hll ht hf H4 Hs;go_enter Tryz.func31, Tryz.ntmps31
  go_upto_block 0 with(fail)
  obtain⟨bs,hbs⟩:∃b:Int,1+(ll:Int)+(nl:Int)=b:=⟨_,rfl⟩;have J1:=zh hbs;rw[hbs];clear hbs
  go_cut [5] (fun v wx=>wx=w2/\∃r:Nat,v=.int .i64 (r:Nat)/\r<=most+500000000000000/\(r<most->r=1+ll+nl+(t.names.map List.length).sum))
  case first=>
   go_wp2_with fail
   go_loopg [5,6] nl (fun i v u wr=>∃(m r:Nat),i=nl-m/\v=.int .i64 (r:Nat)/\u=.int .i64 (m:Nat)/\m<=nl/\r<=most+500000000000000/\(r<most->r=1+ll+nl+((t.names.take m).map List.length).sum)/\wr=w2)
   case atStart=>exact⟨0,1+ll+nl,rfl,by have:=J1.o;congr 1;omega,rfl,yxZ _,by omega,by simp,rfl⟩
   case round=>
    obtain⟨m,r,hi,rfl,rfl,hm,hr1,hr2,rfl⟩:=hrel;have HI:=zh hi;have H8:=zh hr2;have m0:(0:Int)<=(m:Int):=(by omega);have r0:(0:Int)<=(r:Int):=(by omega);have r1:(r:Int)<=500000001000000:=(by omega);clear hi hr2;by_cases hlt:m<nl
    ·have Hi:(m:Int)<(nl:Int):=(by omega);by_cases hrm:r<most
     ·have Hh:(r:Int)<(most:Int):=(by omega);have Hl:m<t.names.length:=(by have:=Hu.o;omega);obtain⟨g1,off1,rfl,hsp1⟩:=Hy.o.spot m Hl;obtain⟨hg1,q1⟩:=hsp1 wr (by rw[HL.o];exact Hk.o);have H1:=Sx.sum_take Hl;have Hv:=J5.o _ (yfZ Hl);obtain⟨s,hse⟩:=zE (t.names[m]'Hl);rw[hse]at q1 H1 Hv;obtain⟨sl,hsl⟩:=zE (s.length);have Ja:(⟨s.toArray⟩:ByteArray).size=sl:=(by simp[ByteArray.size,hsl]);rw[hsl]at H1 Hv;have s0:(0:Int)<=(sl:Int):=(by omega);have s1:(sl:Int)<=140737488351232:=(by omega);have Hg:=zh H1;have J3:=zh (H8.o hrm);clear H1 hse hsl hsp1;go_wp2_with fail;go_roundg (nl-(m+1))
      case measure=>have:=HI.o;omega
      case rel=>exact⟨m+1,r+sl,rfl,by simp,by simp,hlt,by omega,fun _=>by rw[Hg.o,J3.o];omega,rfl⟩
     ·have Hh:decide ((r:Int)<(most:Int))=false:=(by rw[yvZ];omega);have Hd:¬(r:Int)<(most:Int):=(by omega);go_wp2_with fail
      go_meet
      exact⟨rfl,r,rfl,hr1,fun h=>absurd h hrm⟩
    ·have Hi:decide ((m:Int)<(nl:Int))=false:=(by rw[yvZ];omega);have Hj:¬(m:Int)<(nl:Int):=(by omega);have H0:=yjZ (show t.names.length<=m by have:=Hu.o;omega);have Hc:=zh H0;clear H0;go_wp2_with fail
     go_meet
     exact⟨rfl,r,rfl,hr1,fun h=>by rw[H8.o h,Hc.o]⟩
  case rest=>
   obtain⟨rfl,r,rfl,hr1,hr2⟩:=hcut;have H8:=zh hr2;have r0:(0:Int)<=(r:Int):=(by omega);have r1:(r:Int)<=500000001000000:=(by omega);clear hr2
   go_upto_block 2 with(fail)
   go_cut [5] (fun v wx=>∃r:Nat,v=.int .i64 (r:Nat)/\r<=most+500000000000000/\(r<most->r=1+ll+nl+(t.names.map List.length).sum+Sx.sizeL t.t)/\Below L W wx/\wx.heap[L]? =wc.heap[L]?)
   case first=>
    go_wp2_with fail
    clear x0 x1 x2 x3 x4 x5 x6;go_loopg [5,7] tl (fun i v u wr=>∃(m r:Nat),i=tl-m/\v=.int .i64 (r:Nat)/\u=.int .i64 (m:Nat)/\m<=tl/\r<=most+500000000000000/\(r<most->r=1+ll+nl+(t.names.map List.length).sum+Sx.sizeL (t.t.take m))/\Below L W wr/\wr.heap[L]? =wc.heap[L]?)
    case atStart=>exact⟨0,r,rfl,rfl,rfl,yxZ _,hr1,by have:=H8.o;simpa[Sx.sizeL]using this,Hk.o,rfl⟩
    case round=>
     obtain⟨m,q,hi,rfl,rfl,hm,hq1,hq2,hwr,hbr⟩:=hrel;rw[H5.o]at hbr;obtain⟨x0,x1,x2,x3,x4,x5,x6⟩:=zbZ hbr;have Hm:=zaZ hbr;have hLs:L<=wr.heap.size:=(by omega);have HI:=zh hi;have Hf:=zh hq2;have H3:=zh hwr;have Hb:=zh hbr;have m0:(0:Int)<=(m:Int):=(by omega);have q0:(0:Int)<=(q:Int):=(by omega);have q1:(q:Int)<=500000001000000:=(by omega);clear hi hq2 hwr hbr;by_cases hlt:m<tl
     ·have Hi:(m:Int)<(tl:Int):=(by omega);by_cases hrm:q<most
      ·have Hh:(q:Int)<(most:Int):=(by omega);have H2:m<t.t.length:=(by have:=Ht.o;omega);obtain⟨g,off,An1,cn1,Ae1,ce1,Aq,cq,rfl,hty,hc5⟩:=J0.o.spot m H2;rw[HL.o]at hc5;obtain⟨hg,c0,c1,c2,c3,c4⟩:=hc5 wr H3.o;have H1:=Sx.size_take H2;have H6:=J7.o _ (yfZ H2);have H9:=Sx.size_mem (yfZ H2);obtain⟨p,hpe⟩:=zE (t.t[m]'H2);rw[hpe]at c0 c1 c2 c3 c4 hty H1 H6 H9;obtain⟨d,hd⟩:∃d:Int,(most:Int)-(q:Int)=d:=⟨_,rfl⟩;have d0:1<=d:=(by omega);have d1:d<=1000000:=(by omega);have H7:=zljZ _ p (ybZ _) H6 (most-q) _ wr (by omega) (by omega) (IsTy.below (by rw[HL.o];exact H3.o) _ _ hty);rw[show((most-q:Nat):Int)=d by omega]at H7;have Hp:=zh H7;have Hg:=zh H1;have Hn:=zh (Hf.o hrm);clear H7 H1 H6 H9 hpe hty hc5;go_wp2_with fail;refine Hp.o.mono ?_;rintro e w5 ⟨z,rfl,Hz,Ha,He⟩;have z0:(0:Int)<=(z:Int):=(by omega);have J4:z+q<=most+500000000000000:=(by omega);have z1:(z:Int)<=500000001000000:=(by omega);have z2:(q:Int)+(z:Int)<=500000001000000:=(by omega);have Hq:=zh Ha;clear Ha;go_wp2_with fail;go_roundg (tl-(m+1))
       case measure=>have:=HI.o;omega
       case rel=>
        refine⟨m+1,q+z,rfl,by simp,by simp,hlt,by omega,fun hlz=>?_,H3.o.trans (He.mono hLs),?_⟩
        ·rw[Hg.o,Hq.o (by omega),Hn.o];omega
        ·rw[H5.o,He.block L Hm,Hb.o]
      ·have Hh:decide ((q:Int)<(most:Int))=false:=(by rw[yvZ];omega);have Hd:¬(q:Int)<(most:Int):=(by omega);go_wp2_with fail
       go_meet
       exact⟨q,rfl,hq1,fun h=>absurd h hrm,H3.o,by rw[H5.o,Hb.o]⟩
     ·have Hi:decide ((m:Int)<(tl:Int))=false:=(by rw[yvZ];omega);have Hj:¬(m:Int)<(tl:Int):=(by omega);have H0:=yjZ (show t.t.length<=m by have:=Ht.o;omega);have Hc:=zh H0;clear H0;go_wp2_with fail
      go_meet
      exact⟨q,rfl,hq1,fun h=>by rw[Hf.o h,Hc.o],H3.o,by rw[H5.o,Hb.o]⟩
   case rest=>
    rename_i wd;obtain⟨r,rfl,hr1,hr2,hwr,hbr⟩:=hcut;rw[H5.o]at hbr;have H8:=zh hr2;have r0:(0:Int)<=(r:Int):=(by omega);have r1:(r:Int)<=500000001000000:=(by omega);have H5:=zh hbr;have Hk:=zh hwr;clear hr2 x0 x1 x2 x3 x4 x5 x6;go_wp2_with fail;go_loopg [5,8] k (fun i v u wr=>∃(m r:Nat),i=k-m/\v=.int .i64 (r:Nat)/\u=.int .i64 (m:Nat)/\m<=k/\r<=most+500000000000000/\(r<most->r=1+ll+nl+(t.names.map List.length).sum+Sx.sizeL t.t+Sx.sizeXs (t.parts.take m))/\Below L W wr/\wr.heap[L]? =wc.heap[L]?)
    case atStart=>exact⟨0,r,rfl,rfl,rfl,yxZ _,hr1,by have:=H8.o;simpa[Sx.sizeXs]using this,Hk.o,rfl⟩
    case round=>
     obtain⟨m,q,hi,rfl,rfl,hm,hq1,hq2,hwr,hbr⟩:=hrel;rw[H5.o]at hbr;obtain⟨x0,x1,x2,x3,x4,x5,x6⟩:=zbZ hbr;have Hm:=zaZ hbr;have hLs:L<=wr.heap.size:=(by omega);have HI:=zh hi;have Hf:=zh hq2;have H3:=zh hwr;have Hb:=zh hbr;have m0:(0:Int)<=(m:Int):=(by omega);have q0:(0:Int)<=(q:Int):=(by omega);have q1:(q:Int)<=500000001000000:=(by omega);clear hi hq2 hwr hbr;by_cases hlt:m<k
     ·have Hi:(m:Int)<(k:Int):=(by omega);by_cases hrm:q<most
      ·have Hh:(q:Int)<(most:Int):=(by omega);have H2:m<t.parts.length:=(by have:=HK.o;omega);obtain⟨g,off,A9,c9,A8,c8,Aq,cq,rfl,hty,hc5⟩:=HP.o.spot m H2;rw[HL.o]at hc5;obtain⟨hg,c0,c1,c2,c3,c4,c5,c6⟩:=hc5 wr H3.o;have H1:=Sx.sizeX_take H2;have H6:=J6.o _ (yfZ H2);have H9:=Sx.sizeX_mem (yfZ H2);obtain⟨p,hpe⟩:=zE (t.parts[m]'H2);rw[hpe]at c0 c1 c2 c3 c4 c5 c6 hty H1 H6 H9;obtain⟨d,hd⟩:∃d:Int,(most:Int)-(q:Int)=d:=⟨_,rfl⟩;have d0:1<=d:=(by omega);have d1:d<=1000000:=(by omega);have H7:=Hx.o p (by have:=HN.o;have:=Hr.o;omega) H6 (most-q) _ wr (by omega) (by omega) (IsEx.below (by rw[HL.o];exact H3.o) _ _ hty);rw[show((most-q:Nat):Int)=d by omega]at H7;have Hp:=zh H7;have Hg:=zh H1;have Hn:=zh (Hf.o hrm);clear H7 H1 H6 H9 hpe hty hc5;go_wp2_with fail;refine Hp.o.mono ?_;rintro e w5 ⟨z,rfl,Hz,Ha,He⟩;have z0:(0:Int)<=(z:Int):=(by omega);have J4:z+q<=most+500000000000000:=(by omega);have z1:(z:Int)<=500000001000000:=(by omega);have z2:(q:Int)+(z:Int)<=500000001000000:=(by omega);have Hq:=zh Ha;clear Ha;go_wp2_with fail;go_roundg (k-(m+1))
       case measure=>have:=HI.o;omega
       case rel=>
        refine⟨m+1,q+z,rfl,by simp,by simp,hlt,by omega,fun hlz=>?_,H3.o.trans (He.mono hLs),?_⟩
        ·rw[Hg.o,Hq.o (by omega),Hn.o];omega
        ·rw[H5.o,He.block L Hm,Hb.o]
      ·have Hh:decide ((q:Int)<(most:Int))=false:=(by rw[yvZ];omega);have Hd:¬(q:Int)<(most:Int):=(by omega);go_wp2_with fail;go_ret;exact⟨q,rfl,hq1,fun h=>absurd h hrm,by rw[HL.o];exact H3.o⟩
     ·have Hi:decide ((m:Int)<(k:Int))=false:=(by rw[yvZ];omega);have Hj:¬(m:Int)<(k:Int):=(by omega);have H0:=yjZ (show t.parts.length<=m by have:=HK.o;omega);have Hc:=zh H0;clear H0;go_wp2_with fail;go_ret;refine⟨q,rfl,hq1,fun h=>?_,by rw[HL.o];exact H3.o⟩;have:=Hf.o h;rw[Hc.o]at this;rw[this,Hr.o]
theorem zroZ:∀(n:Nat) (l:List Sx.St),Sx.sizeSs l<n->Sx.fitsSs l->l.length<=140737488351232->∀(most:Nat) (v:Value) (W:World),1<=most->most<=1000000->StRow W v l->
  Calls Tryz.prog 36 #[v,.int .i64 (most:Nat)] W (SizeIs most (Sx.sizeSs l) W):=by
 intro n
 induction n with
 | zero=>intro l h;omega
 | succ n ih=>
  intro l hn hf Hs most v W Ji Jj hv;obtain⟨A,c,rfl,hca,hra⟩:=hv;have HV:=zh (show StRow W (.slice A l.length c) l from⟨A,c,rfl,hca,hra⟩);clear hca hra;obtain⟨k,hk⟩:=zE (l.length);rw[hk]at HV Hs ⊢;have k0:(0:Int)<=(k:Int):=(by omega);have k1:(k:Int)<=140737488351232:=(by omega);have i5a:(1:Int)<=(most:Int):=(by omega);have i5b:(most:Int)<=1000000:=(by omega);obtain⟨L,hL⟩:=zE (W.heap.size);have Hu:=zh ih;have HN:=zh hn;have HF:=zh hf;have HK:=zh hk;have HL:=zh hL;clear ih hn hf hk Hs;go_enter Tryz.func36, Tryz.ntmps36;go_wp2_with fail;go_loopg [5,6,7,8] k (fun i v5 v6 v7 v8 wr=>∃(m r:Nat),i=k-m/\v5=.int .i64 (r:Nat)/\v6=.int .i64 (m:Nat)/\m<=k/\r<=most+500000000000000/\(r<most->r=Sx.sizeSs (l.take m))/\Below L W wr)
  case atStart=>exact⟨0,0,rfl,rfl,rfl,yxZ _,by omega,fun _=>by simp[Sx.sizeSs],by rw[<-hL];exact yqZ _ _⟩
  case round=>
   obtain⟨m,r,hi,rfl,rfl,hm,hr1,hr2,hb⟩:=hrel;have HI:=zh hi;have Hw:=zh hr2;have HB:=zh hb;have m0:(0:Int)<=(m:Int):=(by omega);have r0:(0:Int)<=(r:Int):=(by omega);have r1:(r:Int)<=500000001000000:=(by omega);clear hi hr2 hb;by_cases hlt:m<k
   ·have J2:(m:Int)<(k:Int):=(by omega);by_cases hrm:r<most
    ·have J9:(r:Int)<(most:Int):=(by omega);have Hh:m<l.length:=(by have:=HK.o;omega);obtain⟨g,off,A0,c0,A1,c1,A2,c2,A3,c3,rfl,hty,hc7⟩:=HV.o.spot m Hh;rw[HL.o]at hc7;have H4:=Sx.sizeS_take Hh;have H5:=Sx.fitsSs_mem HF.o (yfZ Hh);have Hj:=Sx.sizeS_mem (yfZ Hh);obtain⟨s,hse⟩:=zE (l[m]'Hh);rw[hse]at hty hc7 H4 H5 Hj;obtain⟨f1,f2,f3,f4,f5,⟨f6,f6'⟩,⟨f7,f7'⟩⟩:=Sx.fitsS_parts H5;obtain⟨A0',c0',A1',c1',A2',c2',A3',c3',hagg,htt,htx,htb,hte⟩:=hty.agg;injection hagg with hagg;simp only[ykbZ,ygbZ,Value.slice.injEq,ymbZ,true_and]at hagg;obtain⟨⟨rfl,rfl⟩,⟨rfl,rfl⟩,⟨rfl,rfl⟩,⟨rfl,rfl⟩⟩:=hagg;have Hn:=Sx.sizeS_parts s;obtain⟨nl,hnl⟩:=zE (s.name.length);obtain⟨tl,htl⟩:=zE (s.t.length);obtain⟨xl,hxl⟩:=zE (s.x.length);obtain⟨bl,hbl⟩:=zE (s.body.length);obtain⟨el,hel⟩:=zE (s.els.length);rw[htl]at hc7 htt f2;rw[hxl]at hc7 htx f4;rw[hbl]at hc7 htb f6;rw[hel]at hc7 hte f7;rw[hnl]at Hn f1;have J1:(⟨s.name.toArray⟩:ByteArray).size=nl:=(by simp[ByteArray.size,hnl]);have nl0:(0:Int)<=(nl:Int):=(by omega);have nl1:(nl:Int)<=140737488351232:=(by omega);have tl0:(0:Int)<=(tl:Int):=(by omega);have tl1:(tl:Int)<=140737488351232:=(by omega);have xl0:(0:Int)<=(xl:Int):=(by omega);have xl1:(xl:Int)<=140737488351232:=(by omega);have Hy:=zh htt;have J0:=zh htx;have Ja:=zh htb;have J3:=zh hte;have HC:=zh hc7;have Jc:=zh f3;have Jf:=zh f5;have J5:=zh f6';have Je:=zh f7';have Hm:bl<=140737488351232:=f6;have Hr:el<=140737488351232:=f7;have Hz:=zh hbl;have Jh:=zh hel;have Hx:=zh htl;have Hv:=zh hxl;have J8:=zh H4;have Hk:=zh Hn;have Ht:=zh Hj;have J6:=zh (Hw.o hrm);clear htt htx htb hte hc7 f1 f2 f3 f4 f5 f6 f7 f6' f7' hbl hel htl hxl H4 Hn Hj hse H5 hty hnl;obtain⟨hg,x0,x1,x2,x3,x4,x5,x6⟩:=HC.o wr HB.o
     go_upto_block 2 with(fail)
     go_cut [5,7,8]from 9 to 114 (fun v v7 v8 wx=>∃q:Nat,v=.int .i64 (q:Nat)/\q<=most+500000000000000/\(q<most->q=r+1+nl+Sx.sizeL s.t)/\Below L W wx)
     case first=>
      go_wp2_with fail
      clear hg x0 x1 x2 x3 x4 x5 x6;go_loopg [5,7] tl (fun i v u w9=>∃(j q:Nat),i=tl-j/\v=.int .i64 (q:Nat)/\u=.int .i64 (j:Nat)/\j<=tl/\q<=most+500000000000000/\(q<most->q=r+1+nl+Sx.sizeL (s.t.take j))/\Below L W w9)
      case atStart=>exact⟨0,r+1+nl,rfl,by simp,rfl,yxZ _,by omega,fun _=>by simp[Sx.sizeL],HB.o⟩
      case round=>
       obtain⟨j,q,hi2,rfl,rfl,hj,hq1,hq2,hwr⟩:=hrel;have HJ:=zh hi2;have He:=zh hq2;have H1:=zh hwr;have j0:(0:Int)<=(j:Int):=(by omega);have q0:(0:Int)<=(q:Int):=(by omega);have q1:(q:Int)<=500000001000000:=(by omega);clear hi2 hq2 hwr;obtain⟨hg,x0,x1,x2,x3,x4,x5,x6⟩:=HC.o wr H1.o;have hLs:L<=wr.heap.size:=(by have:=H1.o.size;have:=HL.o;omega);by_cases hlt2:j<tl
       ·have Ho:(j:Int)<(tl:Int):=(by omega);by_cases hqm:q<most
        ·have Hc:(q:Int)<(most:Int):=(by omega);have H6:j<s.t.length:=(by have:=Hx.o;omega);obtain⟨g2,off2,An1,cn1,Ae1,ce1,Aq,cq,rfl,hty,hc5⟩:=Hy.o.spot j H6;rw[HL.o]at hc5;obtain⟨hg2,y0,y1,y2,y3,y4⟩:=hc5 wr H1.o;have H4:=Sx.size_take H6;have H5:=Jc.o _ (yfZ H6);obtain⟨p,hpe⟩:=zE (s.t[j]'H6);rw[hpe]at y0 y1 y2 y3 y4 hty H4 H5;obtain⟨d,hd⟩:∃d:Int,(most:Int)-(q:Int)=d:=⟨_,rfl⟩;have d0:1<=d:=(by omega);have d1:d<=1000000:=(by omega);have H2:=zljZ _ p (ybZ _) H5 (most-q) _ wr (by omega) (by omega) (IsTy.below (by rw[HL.o];exact H1.o) _ _ hty);rw[show((most-q:Nat):Int)=d by omega]at H2;have H9:=zh H2;have H7:=zh H4;have H8:=zh (He.o hqm);clear H2 H4 H5 hpe hty hc5;go_wp2_with fail;refine H9.o.mono ?_;rintro e w5 ⟨z,rfl,Hl,H3,Hb⟩;have z0:(0:Int)<=(z:Int):=(by omega);have Hq:z+q<=most+500000000000000:=(by omega);have z1:(z:Int)<=500000001000000:=(by omega);have z2:(q:Int)+(z:Int)<=500000001000000:=(by omega);have Ha:=zh H3;clear H3;go_wp2_with fail;go_roundg (tl-(j+1))
         case measure=>have:=HJ.o;omega
         case rel=>refine⟨j+1,q+z,rfl,by simp,by simp,hlt2,by omega,fun hlz=>?_,H1.o.trans (Hb.mono hLs)⟩;rw[H7.o,Ha.o (by omega),H8.o];omega
        ·have Hc:decide ((q:Int)<(most:Int))=false:=(by rw[yvZ];omega);have Hd:¬(q:Int)<(most:Int):=(by omega);go_wp2_with fail
         go_meet
         exact⟨q,rfl,hq1,fun h=>absurd h hqm,H1.o⟩
       ·have Ho:decide ((j:Int)<(tl:Int))=false:=(by rw[yvZ];omega);have Hp:¬(j:Int)<(tl:Int):=(by omega);have H0:=yjZ (show s.t.length<=j by have:=Hx.o;omega);have Hf:=zh H0;clear H0;go_wp2_with fail
        go_meet
        exact⟨q,rfl,hq1,fun h=>by rw[He.o h,Hf.o],H1.o⟩
     case rest=>
      obtain⟨q1,rfl,hq1,hq2,hbq⟩:=hcut;have He:=zh hq2;have J7:=zh hbq;have qa0:(0:Int)<=(q1:Int):=(by omega);have qa1:(q1:Int)<=500000001000000:=(by omega);clear hq2 hbq hg x0 x1 x2 x3 x4 x5 x6
      go_upto_block 4 with(fail)
      go_cut [5,7,8]from 9 to 114 (fun v v7 v8 wx=>∃q:Nat,v=.int .i64 (q:Nat)/\q<=most+500000000000000/\(q<most->q=r+1+nl+Sx.sizeL s.t+Sx.sizeXs s.x)/\Below L W wx)
      case first=>
       go_wp2_with fail
       go_loopg [5,8] xl (fun i v u w9=>∃(j q:Nat),i=xl-j/\v=.int .i64 (q:Nat)/\u=.int .i64 (j:Nat)/\j<=xl/\q<=most+500000000000000/\(q<most->q=r+1+nl+Sx.sizeL s.t+Sx.sizeXs (s.x.take j))/\Below L W w9)
       case atStart=>exact⟨0,q1,rfl,rfl,rfl,yxZ _,by omega,fun h=>by have:=He.o h;simpa[Sx.sizeXs]using this,J7.o⟩
       case round=>
        obtain⟨j,q,hi2,rfl,rfl,hj,hq1,hq2,hwr⟩:=hrel;have HJ:=zh hi2;have He:=zh hq2;have H1:=zh hwr;have j0:(0:Int)<=(j:Int):=(by omega);have q0:(0:Int)<=(q:Int):=(by omega);have q1:(q:Int)<=500000001000000:=(by omega);clear hi2 hq2 hwr;obtain⟨hg,x0,x1,x2,x3,x4,x5,x6⟩:=HC.o wr H1.o;have hLs:L<=wr.heap.size:=(by have:=H1.o.size;have:=HL.o;omega);by_cases hlt2:j<xl
        ·have Ho:(j:Int)<(xl:Int):=(by omega);by_cases hqm:q<most
         ·have Hc:(q:Int)<(most:Int):=(by omega);have H6:j<s.x.length:=(by have:=Hv.o;omega);obtain⟨g2,off2,A9,c9,A8,c8,Aq,cq,rfl,hty,hc5⟩:=J0.o.spot j H6;rw[HL.o]at hc5;obtain⟨hg2,y0,y1,y2,y3,y4,y5,y6⟩:=hc5 wr H1.o;have H4:=Sx.sizeX_take H6;have H5:=Jf.o _ (yfZ H6);obtain⟨p,hpe⟩:=zE (s.x[j]'H6);rw[hpe]at y0 y1 y2 y3 y4 y5 y6 hty H4 H5;obtain⟨d,hd⟩:∃d:Int,(most:Int)-(q:Int)=d:=⟨_,rfl⟩;have d0:1<=d:=(by omega);have d1:d<=1000000:=(by omega);have H2:=zrnZ _ p (ybZ _) H5 (most-q) _ wr (by omega) (by omega) (IsEx.below (by rw[HL.o];exact H1.o) _ _ hty);rw[show((most-q:Nat):Int)=d by omega]at H2;have H9:=zh H2;have H7:=zh H4;have H8:=zh (He.o hqm);clear H2 H4 H5 hpe hty hc5;go_wp2_with fail;refine H9.o.mono ?_;rintro e w5 ⟨z,rfl,Hl,H3,Hb⟩;have z0:(0:Int)<=(z:Int):=(by omega);have Hq:z+q<=most+500000000000000:=(by omega);have z1:(z:Int)<=500000001000000:=(by omega);have z2:(q:Int)+(z:Int)<=500000001000000:=(by omega);have Ha:=zh H3;clear H3;go_wp2_with fail;go_roundg (xl-(j+1))
          case measure=>have:=HJ.o;omega
          case rel=>refine⟨j+1,q+z,rfl,by simp,by simp,hlt2,by omega,fun hlz=>?_,H1.o.trans (Hb.mono hLs)⟩;rw[H7.o,Ha.o (by omega),H8.o];omega
         ·have Hc:decide ((q:Int)<(most:Int))=false:=(by rw[yvZ];omega);have Hd:¬(q:Int)<(most:Int):=(by omega);go_wp2_with fail
          go_meet
          exact⟨q,rfl,hq1,fun h=>absurd h hqm,H1.o⟩
        ·have Ho:decide ((j:Int)<(xl:Int))=false:=(by rw[yvZ];omega);have Hp:¬(j:Int)<(xl:Int):=(by omega);have H0:=yjZ (show s.x.length<=j by have:=Hv.o;omega);have Hf:=zh H0;clear H0;go_wp2_with fail
         go_meet
         exact⟨q,rfl,hq1,fun h=>by rw[He.o h,Hf.o],H1.o⟩
      case rest=>
       rename_i we;obtain⟨q3,rfl,hq3,hq4,hbq⟩:=hcut;have Jd:=zh hq4;have Hi:=zh hbq;have qc0:(0:Int)<=(q3:Int):=(by omega);have qc1:(q3:Int)<=500000001000000:=(by omega);clear hq4 hbq;obtain⟨hg,x0,x1,x2,x3,x4,x5,x6⟩:=HC.o wc Hi.o
       go_upto_if 89 with(fail)
       go_cut [5,7,8]from 9 to 114 (fun v v7 v8 wx=>∃q:Nat,v=.int .i64 (q:Nat)/\q<=most+500000000000000/\(q<most->q=r+1+nl+Sx.sizeL s.t+Sx.sizeXs s.x+Sx.sizeSs s.body)/\Below L W wx)
       case first=>
        have hLs:L<=wc.heap.size:=(by have:=Hi.o.size;have:=HL.o;omega);by_cases hqm:q3<most
        ·have Hc:(q3:Int)<(most:Int):=(by omega);obtain⟨d,hd⟩:∃d:Int,(most:Int)-(q3:Int)=d:=⟨_,rfl⟩;have d0:1<=d:=(by omega);have d1:d<=1000000:=(by omega);have H2:=Hu.o s.body (by have:=Hk.o;have:=Ht.o;have:=HN.o;omega) J5.o (by rw[Hz.o];exact Hm) (most-q3) _ wc (by omega) (by omega) (Ja.o.below (by rw[HL.o];exact Hi.o));rw[show((most-q3:Nat):Int)=d by omega]at H2;have H9:=zh H2;have H8:=zh (Jd.o hqm);clear H2;go_wp2_with fail;refine H9.o.mono ?_;rintro e w5 ⟨z,rfl,Hl,H3,Hb⟩;have z0:(0:Int)<=(z:Int):=(by omega);have Hq:z+q3<=most+500000000000000:=(by omega);have z1:(z:Int)<=500000001000000:=(by omega);have z2:(q3:Int)+(z:Int)<=500000001000000:=(by omega);have Ha:=zh H3;clear H3;go_wp2_with fail
         go_meet
         exact⟨q3+z,by simp,by omega,fun h=>by rw[Ha.o (by omega),H8.o],Hi.o.trans (Hb.mono hLs)⟩
        ·have Hc:decide ((q3:Int)<(most:Int))=false:=(by rw[yvZ];omega);have Hd:¬(q3:Int)<(most:Int):=(by omega);go_wp2_with fail
         go_meet
         exact⟨q3,rfl,hq3,fun h=>absurd h hqm,Hi.o⟩
       case rest=>
        obtain⟨q5,rfl,hq5,hq6,hbq⟩:=hcut;have Jb:=zh hq6;have Hg:=zh hbq;have qe0:(0:Int)<=(q5:Int):=(by omega);have qe1:(q5:Int)<=500000001000000:=(by omega);clear hq6 hbq hg x0 x1 x2 x3 x4 x5 x6;obtain⟨hg,x0,x1,x2,x3,x4,x5,x6⟩:=HC.o wc Hg.o;have hLs:L<=wc.heap.size:=(by have:=Hg.o.size;have:=HL.o;omega);by_cases hqm:q5<most
        ·have Hc:(q5:Int)<(most:Int):=(by omega);obtain⟨d,hd⟩:∃d:Int,(most:Int)-(q5:Int)=d:=⟨_,rfl⟩;have d0:1<=d:=(by omega);have d1:d<=1000000:=(by omega);have H2:=Hu.o s.els (by have:=Hk.o;have:=Ht.o;have:=HN.o;omega) Je.o (by rw[Jh.o];exact Hr) (most-q5) _ wc (by omega) (by omega) (J3.o.below (by rw[HL.o];exact Hg.o));rw[show((most-q5:Nat):Int)=d by omega]at H2;have H9:=zh H2;have H8:=zh (Jb.o hqm);clear H2;go_wp2_with fail;refine H9.o.mono ?_;rintro e w5 ⟨z,rfl,Hl,H3,Hb⟩;have z0:(0:Int)<=(z:Int):=(by omega);have Hq:z+q5<=most+500000000000000:=(by omega);have z1:(z:Int)<=500000001000000:=(by omega);have z2:(q5:Int)+(z:Int)<=500000001000000:=(by omega);have Ha:=zh H3;clear H3;go_wp2_with fail;go_roundg (k-(m+1))
         case measure=>have:=HI.o;omega
         case rel=>refine⟨m+1,q5+z,rfl,by simp,by simp,hlt,by omega,fun h=>?_,Hg.o.trans (Hb.mono hLs)⟩;rw[Ha.o (by omega),H8.o,J8.o,<-J6.o,Hk.o];omega
        ·have Hc:decide ((q5:Int)<(most:Int))=false:=(by rw[yvZ];omega);have Hd:¬(q5:Int)<(most:Int):=(by omega);go_wp2_with fail;go_roundg (k-(m+1))
         case measure=>have:=HI.o;omega
         case rel=>exact⟨m+1,q5,rfl,rfl,by simp,hlt,hq5,fun h=>absurd h hqm,Hg.o⟩
    ·have J9:decide ((r:Int)<(most:Int))=false:=(by rw[yvZ];omega);have J4:¬(r:Int)<(most:Int):=(by omega);go_wp2_with fail;go_ret;exact⟨r,rfl,hr1,fun h=>absurd h hrm,by rw[HL.o];exact HB.o⟩
   ·have J2:decide ((m:Int)<(k:Int))=false:=(by rw[yvZ];omega);have Jg:¬(m:Int)<(k:Int):=(by omega);have H0:=yjZ (show l.length<=m by have:=HK.o;omega);have Hf:=zh H0;clear H0;go_wp2_with fail;go_ret;refine⟨r,rfl,hr1,fun h=>?_,by rw[HL.o];exact HB.o⟩;rw[Hw.o h,Hf.o]
end Go.Proofs.YtdncljdfmdgdaaaGreatDoor
namespace Go.Proofs.YtdncljdfmdgdaaaGreatDoor
open Go.Proofs.YtdncljdfmdgdaaaGreatDoor.Lx (Bytes)
namespace Sx
theorem zrpZ {n:Int} (h0:0<=n) (h1:n<=9223372036854775807):Lk (SY.digits n):=by
 show(Lib.decDigits n.toNat).length<=100000;rw[Lib.decDigits_length];have:=nD_le 19 n.toNat (by omega);omega
theorem zudZ {s:Bytes} (h:s.length<=20000):Lk (SY.quote s):=by
 have:=Lx.quote_len s;show(Lx.quote s).length<=100000;omega
theorem zmjZ {l:List Ty} {d:Nat} (h:rightTs NM d l=true):Lks (typL l):=by
 cases l with
 | nil=>rw[typL];exact Lks.nil
 | cons t l=>rw[rightTs,ygZ]at h;rw[typL];exact znoZ h.1
theorem zwiZ (k:Int):Lk (sign k):=by
 unfold sign;split
 ·exact zqlZ
 split
 ·exact zxgZ
 split
 ·exact znnZ
 split
 ·exact lkEq
 split
 ·exact zxfZ
 split
 ·exact lkAnd
 ·exact lkOr
theorem zcqZ {l:List Ex} (n:Nat) (h:∀x∈l,Lks (expr SY x)):Lks (first SY n l):=by
 cases l with
 | nil=>rw[first];exact Lks.nil
 | cons x l=>rw[first];exact Lks.ite (fun _=>((Lks.cons zesZ Lks.nil).app (h x ysZ)).app (Lks.cons lkEnd Lks.nil)) (fun _=>h x ysZ)
theorem zpbZ {l:List Ex} (n:Nat) (h:∀x∈l,Lks (expr SY x)):Lks (second SY n l):=by
 cases l with
 | nil=>rw[second];exact Lks.nil
 | cons x l=>rw[second];exact zcqZ n fun y hy=>h y (ywZ _ hy)
theorem znbZ {l:List Ex} (h:∀x∈l,Lks (expr SY x)):Lks (applied SY l):=by
 cases l with
 | nil=>rw[applied];exact Lks.nil
 | cons x l=>rw[applied];exact Lks.ite (fun _=>((Lks.cons zesZ Lks.nil).app (h x ysZ)).app (Lks.cons lkEnd Lks.nil)) (fun _=>h x ysZ)
theorem zkbZ:∀ {l:List Ex} {i:Nat},(∀x∈l,Lks (expr SY x))->Lks (list SY i l)
 | [],i,h=>by rw[list];exact Lks.nil
 | x::l,i,h=>by rw[list];exact((Lks.ite (fun _=>Lks.cons zjgZ Lks.nil) (fun _=>Lks.nil)).app (h x ysZ)).app (zkbZ fun y hy=>h y (ywZ _ hy))
theorem zmkZ {l:List Ex} (h:∀x∈l,Lks (expr SY x)):Lks (args SY l):=by
 cases l with
 | nil=>rw[args];exact Lks.nil
 | cons x l=>rw[args];exact((Lks.cons zesZ Lks.nil).app (zkbZ fun y hy=>h y (ywZ _ hy))).app (Lks.cons lkEnd Lks.nil)
theorem zixZ:∀ {ns:List Bytes} {l:List Ex} {i:Nat},(∀n∈ns,Lk n)->(∀x∈l,Lks (expr SY x))->Lks (record SY i ns l)
 | [],l,i,hn,h=>by rw[record];exact Lks.nil;simp
 | n::ns,[],i,hn,h=>by rw[record];exact Lks.nil;simp
 | n::ns,x::l,i,hn,h=>by
  rw[record];exact(((Lks.ite (fun _=>Lks.cons zjgZ Lks.nil) (fun _=>Lks.nil)).app (Lks.cons (hn n ysZ) (Lks.cons zvqZ Lks.nil))).app (h x ysZ)).app
   (zixZ (fun m hm=>hn m (ywZ _ hm)) (fun y hy=>h y (ywZ _ hy)))
theorem zueZ:∀(n:Nat) (x:Ex),sizeX x<=n->sizeX x<=20000->okX x->numX x->Lks (expr SY x):=by
 intro n
 induction n with
 | zero=>intro x h;have:=sizeX_pos x;omega
 | succ n ih=>
  intro x hn H4 H2 H1;obtain⟨hs,hp⟩:=H2.shape;obtain⟨hxn,hnp⟩:=numX_parts H1;have H0:∀p∈x.parts,Lks (expr SY p):=fun p hm=>ih p (by have:=sizeX_mem hm;have:=sizeX_parts x;omega) (by have:=sizeX_mem hm;have:=sizeX_parts x;omega) (hp p hm) (hnp p hm);unfold shapeX at hs;simp only[ygZ]at hs;obtain⟨h1,h2,h3,h4,h5⟩:=hs;have H3:1<=x.kind/\x.kind<=21:=(by simpa using h1);rw[expr_eq];refine Lks.ite (fun e=>?_) fun e1=>Lks.ite (fun e=>?_) fun e2=>Lks.ite (fun e=>?_) fun e3=>Lks.ite (fun e=>?_) fun e4=>Lks.ite (fun e=>Lks.cons zxiZ Lks.nil) fun e5=>Lks.ite (fun e=>?_) fun e6=>
   Lks.ite (fun e=>?_) fun e7=>Lks.ite (fun e=>?_) fun e9=>Lks.ite (fun e=>?_) fun e10=>Lks.ite (fun e=>?_) fun e11=>Lks.ite (fun e=>?_) fun e12=>Lks.ite (fun e=>?_) fun e13=>?_
  ·have h0:0<=x.n:=(by simp only[yKZ,yCZ]at h3;omega);exact Lks.cons (zrpZ h0 hxn) Lks.nil
  ·rw[if_pos e]at h2;exact Lks.cons (zudZ (by have:=textX_len x;omega)) Lks.nil
  ·refine Lks.cons ?_ Lks.nil;split
   ·exact zxhZ
   ·exact zvtZ
  ·rw[if_neg e2,if_pos (.inl e)]at h2;exact Lks.cons (zcdZ h2) Lks.nil
  ·rw[if_pos (.inl e),ygZ]at h4;exact Lks.cons lkNil (zmjZ h4.2)
  ·rw[if_neg e2,if_neg (by omega),if_pos e]at h2;rw[if_pos e,ygZ]at h5;exact(((Lks.ite (fun _=>Lks.cons lkNew Lks.nil) (fun _=>Lks.nil)).app (Lks.cons (zlwZ h2) (Lks.cons zipZ Lks.nil))).app (zixZ (fun m hm=>zcdZ (apart_small h5.2 m hm)) H0)).app (Lks.cons ziqZ Lks.nil)
  ·rw[if_neg e2,if_pos (by omega)]at h2;exact(zcqZ 7 H0).app (Lks.cons lkDot (Lks.cons (zcdZ h2) Lks.nil))
  ·rw[if_neg e2,if_pos (by omega)]at h2;exact((zcqZ 7 H0).app (Lks.cons lkDot (Lks.cons (zcdZ h2) Lks.nil))).app (zmkZ H0)
  ·exact(znbZ H0).app (zmkZ H0)
  ·rw[if_pos (.inr e),ygZ]at h4;exact((zcqZ 7 H0).app (Lks.cons lkTo Lks.nil)).app (zmjZ h4.2)
  ·refine Lks.cons ?_ (zcqZ 6 H0);split
   ·exact znnZ
   ·exact lkNot
  ·exact((zcqZ _ H0).app (Lks.cons (zwiZ _) Lks.nil)).app (zpbZ _ H0)
theorem zyfZ {x:Ex} (hz:sizeX x<=20000) (h:okX x) (hn:numX x):Lks (expr SY x):=zueZ _ x (ybZ _) hz h hn
end Sx
end Go.Proofs.YtdncljdfmdgdaaaGreatDoor
