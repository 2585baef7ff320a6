/-
  The walks of block, stmts.
-/
import Derived.Test.YtdncljdfmdgdaaaGreatDoorM31
set_option linter.unusedSimpArgs false
set_option linter.unusedVariables false
set_option maxRecDepth 100000
set_option maxHeartbeats 32000000
namespace Go.Proofs.YtdncljdfmdgdaaaGreatDoor
open Go.RowKit Go.Shelf Go.WideMaps
theorem oSt:Other 69 :=⟨by decide,by decide⟩
def Sx.okS (s:Sx.St):Prop:=∃d,Sx.rightS NM d s=true
theorem Sx.rightSs_mem {d:Nat} : ∀ {l:List Sx.St},Sx.rightSs NM d l=true->∀p∈l,Sx.rightS NM d p=true
 | x::l,h,p,hp=>by
  rw[Sx.rightSs,ygZ]at h;rcases yTZ.1 hp with rfl | hp
  ·exact h.1
  ·exact Sx.rightSs_mem h.2 p hp
structure Sx.Good (s:Sx.St):Prop where
 k:1<=s.kind/\s.kind<=7
 x:s.x.length=1/\∀h:0<s.x.length,Sx.rightX NM 64 (s.x[0]'h)=true
 nm:(s.kind=1\/s.kind=2)->NM.small s.name=true
 t:s.t.length=0\/(s.kind=1/\s.t.length=1/\Sx.right0 s.t=true)
 b:s.kind=4\/s.kind=5\/s.body=[]
 e:s.kind=4\/s.els=[]
 bs:∀p∈s.body,Sx.okS p
 es:∀p∈s.els,Sx.okS p
theorem Sx.okS.good {s:Sx.St} (h:Sx.okS s):Sx.Good s:=by
 obtain⟨d,h⟩:=h;rw[Sx.rightS_eq]at h;unfold Sx.restS at h;simp only[ygZ,yKZ,yCZ]at h;obtain⟨h0,h1,h2,h3,h4,h5,h6,h7,h8,h9⟩:=h;refine⟨h3,⟨h1,?_⟩,fun hk=>by rw[if_pos hk]at h4;exact h4,?_,?_,?_,fun p hp=>⟨_,Sx.rightSs_mem h8 p hp⟩,fun p hp=>⟨_,Sx.rightSs_mem h9 p hp⟩⟩
 ·intro h;rw[Sx.head0_at];exact h2
 ·rcases h5 with h | h
  ·exact .inl h
  ·exact .inr h
 ·rcases h6 with(h | h) | h
  ·exact .inl h
  ·exact .inr (.inl h)
  ·exact .inr (.inr (yabZ.1 h))
 ·rcases h7 with h | h
  ·exact .inl h
  ·exact .inr (yabZ.1 h)
def Sx.braced (l:List Sx.St):List Lx.Bytes:=[[123]]++Sx.stmts SY l++[[125]]
theorem Sx.stmts_append (S:Sx.Says):∀(l m:List Sx.St),Sx.stmts S (l++m)=Sx.stmts S l++Sx.stmts S m
 | [],m=>by simp[Sx.stmts]
 | x::l,m=>by rw[yHZ,Sx.stmts,Sx.stmts,Sx.stmts_append S l m,yiZ]
theorem Sx.stmts_take {l:List Sx.St} {m:Nat} (h:m<l.length):Sx.stmts SY (l.take (m+1))=Sx.stmts SY (l.take m)++Sx.stmt SY l[m]:=by
 rw[ykZ h,Sx.stmts_append];simp[Sx.stmts]
theorem Sx.stmts_le (l:List Sx.St) (m:Nat):(Sx.stmts SY (l.take m)).length<=(Sx.stmts SY l).length:=by
 conv=>rhs;rw[<-ydbZ m l,Sx.stmts_append,ycZ]
 omega
theorem Sx.first0:∀ {x:List Sx.Ex} (h:0<x.length),Sx.first SY 0 x=Sx.expr SY (x[0]'h)
 | a::l,h=>by rw[Sx.first_head 0 h];unfold Sx.part;rw[if_neg (by omega)]
theorem Sx.stmt_eq (s:Sx.St) (h:0<s.x.length):Sx.stmt SY s=
  (if s.kind=1 then [[108,101,116],s.name]++Sx.typL s.t++[[61]]else if s.kind=2 then [s.name,[61]]else if s.kind=3 then [[112,114,105,110,116]]else if s.kind=4 then [[105,102]]
   else if s.kind=5 then [[119,104,105,108,101]]else if s.kind=6 then [[114,101,116,117,114,110]]else [])++
  Sx.expr SY (s.x[0]'h)++
  (if s.kind≠4/\s.kind≠5 then [[59]]else if s.els.isEmpty then Sx.braced s.body
   else Sx.braced s.body++[[101,108,115,101]]++Sx.braced s.els):=by
 rw[<-Sx.first0 h];cases s;rw[Sx.stmt];simp only[Sx.braced,yiZ];rfl
theorem Sx.nameS_len (s:Sx.St):s.name.length<=Sx.sizeS s:=by
 have h1:=Sx.sizeS_parts s;omega
def StmtsOk (W0:World) (b:Nat) (xs:List Sx.St):Prop:=∀(v:Value) (l:List Lx.Bytes) (w:World),(∀s∈xs,Sx.okS s)->StRow W0 v xs->Sx.sizeSs xs<=1000000->Wrote W0 b l.length l w->l.length+(Sx.stmts SY xs).length<=900000000->
 Calls Tryz.prog 66 #[.pointer (some ⟨b,0,none⟩),v] w fun e w'=>e=.returned (.tuple #[])/\Wrote W0 b (l++Sx.stmts SY xs).length (l++Sx.stmts SY xs) w'/\KeepW w w'
def BlockOk (W0:World) (b:Nat) (xs:List Sx.St):Prop:=∀(v:Value) (l:List Lx.Bytes) (w:World),(∀s∈xs,Sx.okS s)->StRow W0 v xs->Sx.sizeSs xs<=1000000->Wrote W0 b l.length l w->l.length+(Sx.braced xs).length<=900000000->
 Calls Tryz.prog 121 #[.pointer (some ⟨b,0,none⟩),v] w fun e w'=>e=.returned (.tuple #[])/\Wrote W0 b (l++Sx.braced xs).length (l++Sx.braced xs) w'/\KeepW w w'
theorem zmcZ {W0:World} {b:Nat} {xs:List Sx.St} (ih:StmtsOk W0 b xs):BlockOk W0 b xs:=by
 intro v l w hr ht hz h hc;have H0:(Sx.braced xs).length=(Sx.stmts SY xs).length+2:=by simp[Sx.braced]
 obtain⟨m,hm⟩:=zE (Sx.stmts SY xs);have H6:Sx.braced xs=[[123]]++m++[[125]]:=by unfold Sx.braced;rw[hm]
 rw[hm]at H0;have Hb:l.length+1<=1000000000:=by omega
 have Hd:(l++[[123]]).length+m.length<=900000000:=by simp;omega
 have H7:(l++[[123]]++m).length+1<=1000000000:=by simp;omega
 have hE:∀w,Wrote W0 b (l++[[123]]).length (l++[[123]]) w->Calls Tryz.prog 66 #[.pointer (some ⟨b,0,none⟩),v] w fun e w'=>e=.returned (.tuple #[])/\Wrote W0 b (l++[[123]]++m).length (l++[[123]]++m) w'/\KeepW w w':=fun w hw=>by
  have:=ih v (l++[[123]]) w hr ht hz hw (by rw[hm];exact Hd)
  rwa [hm]at this
 obtain⟨A,c,rfl,-,-⟩:=ht;have HE:=zh hE;have He:=zh H6;have HX:=zh h;have H9:=h.lt;clear hE H6 ih hr hm hc H0 hz h;go_enter Tryz.func121, Tryz.ntmps121;go_upto_region 1 with(go_at_call 100;refine(put1 (s:=[123]) HX.o ⟨by simp,by simp⟩ Hb).mono ?_;rintro e w3 ⟨rfl,hW3,H5⟩);have H3:=zh hW3.tight;have Ha:=zh H5;have H1:=hW3.lt;clear hW3 H5 H9;go_upto_region 2 with(go_at_call 66;refine(HE.o w3 H3.o).mono ?_;rintro e w4 ⟨rfl,hW4,H2⟩)
 have H4:=zh hW4;have Hf:=zh (Ha.o.trans H2);have H8:=hW4.lt;clear hW4 H2 H1;go_wp2_with (go_at_call 100;refine(put1 (s:=[125]) H4.o ⟨by simp,by simp⟩ H7).mono ?_;rintro e w5 ⟨rfl,hW5,Hc⟩);go_end0;refine⟨rfl,?_,Hf.o.trans Hc⟩;rw[He.o];simpa[yiZ]using hW5.tight
theorem zmdZ {W0:World} {b:Nat} {xs:List Sx.St} (hG:GS W0) (hN:NG<=W0.heap.size) (ihb:∀s∈xs,BlockOk W0 b s.body) (ihe:∀s∈xs,BlockOk W0 b s.els):StmtsOk W0 b xs:=by
 intro v l w hr ht hz h hc;have U6:=Sx.length_sizeSs xs;obtain⟨A,c,rfl,hcap,hrow⟩:=ht;have ht:StRow W0 (.slice A xs.length c) xs:=⟨A,c,rfl,hcap,hrow⟩;obtain⟨k,hk⟩:=zE (xs.length);rw[hk]at ht ⊢;have U8:(k:Int)<=1000000:=by omega
 have Ua:(0:Int)<=(k:Int):=by omega
 obtain⟨lf,hlf⟩:=zE ((Sx.stmts SY xs).length);have Ub:l.length+lf<=900000000:=by omega
 have Jz:=h.lt;have HK:=zh hk;have HP:=zh ht;have HR:=zh hr;have HZ:=zh hz;have Jo:=zh ihb;have Ju:=zh ihe;have HG:=zh hG;have HN:=zh hN;have Js:=zh hlf;have HS:=zh (show Wrote W0 b (l++Sx.stmts SY (xs.take 0)).length (l++Sx.stmts SY (xs.take 0)) w by simpa[Sx.stmts]using h);clear h hr ht hz hc hk ihb ihe hG hN U6 hcap hrow hlf;go_enter Tryz.func66, Tryz.ntmps66;go_wp2_with fail;go_loopg [10] k (fun i v wr=>∃(m:Nat),i=k-m/\v=.int .i64 (m:Int)/\m<=k/\Wrote W0 b (l++Sx.stmts SY (xs.take m)).length (l++Sx.stmts SY (xs.take m)) wr/\KeepW w wr)
 case atStart=>exact⟨0,rfl,rfl,yxZ _,HS.o,KeepW.refl _⟩
 case round=>
  obtain⟨m,hi,rfl,hm,hW,hkw⟩:=hrel;have HI:=zh hi;have m0:(0:Int)<=(m:Int):=(by omega);have U5:=hW.lt;have Hv:=zh hkw;have Jh:=zh hW;clear hi hW hkw;by_cases hlt:m<k
  ·have Jp:(m:Int)<(k:Int):=(by omega);have Jf:m<xs.length:=(by have:=HK.o;omega);have H0:=Sx.stmts_le xs (m+1);obtain⟨g,off,At,ct,Ax,cx,Ab,cb,Ae,ce,rfl,hty,hc7⟩:=HP.o.spot m Jf;obtain⟨s,hse⟩:=zE (xs[m]'Jf);have Ht:s∈xs:=(by rw[<-hse];exact yfZ Jf);have Ha:=Sx.stmts_take Jf;rw[hse]at hc7 hty Ha;have Jv:=(HR.o s Ht).good;obtain⟨hk17,⟨hx1,hxr⟩,hnm,Hd,hbg,heg,hbs,hes⟩:=Jv;obtain⟨hg,c0,c1,c2,c3,c4,c5,c6⟩:=hc7 wr Jh.o.below;have U7:=Sx.sizeS_mem Ht;have Jj:=Sx.sizeS_parts s;have Hh:Sx.sizeS s<=1000000:=(by have:=HZ.o;omega);have Hx:=Sx.nameS_len s;obtain⟨At',ct',Ax',cx',Ab',cb',Ae',ce',hagg,htt,hxx,hbb,hee⟩:=hty.agg;injection hagg with hagg;simp only[ykbZ,ygbZ,ymbZ,true_and]at hagg;obtain⟨ea,eb,ec,ed⟩:=hagg;injection ea with ea1 _ ea2;injection eb with eb1 _ eb2;injection ec with ec1 _ ec2;injection ed with ed1 _ ed2;subst ea1 ea2 eb1 eb2 ec1 ec2 ed1 ed2;have J7:0<s.x.length:=(by omega);obtain⟨gX,offX,AtX,ctX,AnX,cnX,AqX,cqX,rfl,htyX,hcX⟩:=hxx.spot 0 J7;have H1:=Sx.stmt_eq s J7;have Hq:=yfZ J7;have J6:=hxr J7;obtain⟨x0e,hx0e⟩:=zE (s.x[0]'J7);rw[hx0e]at hcX htyX H1 Hq J6;have Jl:Sx.sizeX x0e<=1000000:=(by have:=Sx.sizeX_mem Hq;omega);have hEXP:=zimZ (b:=b) HG.o HN.o _ x0e (ybZ _);obtain⟨qx,hqx⟩:=zE (Sx.expr SY x0e);obtain⟨qb,hqb⟩:=zE (Sx.braced s.body);obtain⟨qe,hqe⟩:=zE (Sx.braced s.els);rw[hqx,hqb,hqe]at H1;rw[Ha]at H0;obtain⟨lm,hlm⟩:=zE (Sx.stmts SY (xs.take m));rw[hlm,Js.o]at H0;rw[hlm]at Ha;simp only[ycZ]at H0;have J0:=zh (show Wrote W0 b (l++lm).length (l++lm) wr by rw[<-hlm];exact Jh.o);obtain⟨L,hL⟩:=zE (wr.heap.size);obtain⟨tl,htl⟩:=zE (s.t.length);obtain⟨bl,hbl⟩:=zE (s.body.length);obtain⟨el,hel⟩:=zE (s.els.length);rw[hx1]at c4;rw[htl]at c3 htt;rw[hbl]at c5 hbb;rw[hel]at c6 hee;rw[htl]at Hd;rw[yrZ,ypZ]at hcX;have H2:=zh hcX;have Hg:=zh htyX
   have Jk:=zh (fun l w (hw:Wrote W0 b l.length l w) (hc:l.length+qb.length<=900000000)=>by
    have:=Jo.o s Ht _ l w hbs hbb (by omega) hw (by rw[hqb];exact hc)
    rwa [hqb]at this)
   have Jr:=zh (fun l w (hw:Wrote W0 b l.length l w) (hc:l.length+qe.length<=900000000)=>by
    have:=Ju.o s Ht _ l w hes hee (by omega) hw (by rw[hqe];exact hc)
    rwa [hqe]at this)
   have Hz:=zh (fun u l w (hu:IsEx W0 u x0e) (hw:Wrote W0 b l.length l w) (hc:l.length+qx.length<=900000000)=>by
    have:=hEXP u l w ⟨64,J6⟩ hu Jl hw (by rw[hqx];exact hc)
    rwa [hqx]at this)
   have J9:=zh hbl;clear hcX htyX hEXP hty hc7 hlm Ht hbs hes hxx hbb hee hxr hx0e hqx hqb hqe J6 Hq Jl U7 Jj hbl hse hx1 J7;by_cases hkd1:s.kind=1
   ·rw[hkd1]at c1 H1;rcases Hd with Hd | ⟨-,Hd,htr⟩
    ·skip
     subst Hd;have He:bl=0:=by
      rcases hbg with h | h | h
      ·omega
      ·omega
      ·rw[<-J9.o,h];rfl
     have Hn:el=0:=by
      rcases heg with h | h
      ·omega
      ·rw[<-hel,h];rfl
     subst He Hn;obtain⟨w4,hw4⟩:=zE (wr.alloc (.cells #[.int .i64 s.pos,.int .i64 1,.string ⟨s.name.toArray⟩,.slice At 0 ct,.slice (some ⟨gX,offX,none⟩) 1 cx,.slice Ab 0 cb,.slice Ae 0 ce] 69));have H3:=Live.first J0.o #[.int .i64 s.pos,.int .i64 1,.string ⟨s.name.toArray⟩,.slice At 0 ct,.slice (some ⟨gX,offX,none⟩) 1 cx,.slice Ab 0 cb,.slice Ae 0 ce] 69 hw4;rw[hL]at H3;have H4:=zh H3;clear H3;have Jc:Sx.typL s.t=[]:=(by rw[yabZ.1 htl];rfl);have Hc:Sx.stmt SY s=[[108,101,116],s.name]++[[61]]++qx++[[59]]:=(by rw[H1];simp[Jc]);rw[Hc]at Ha H0;simp only[ycZ,yhZ,ynZ]at H0;have Hk:=zh Ha;have Hl:s.name≠[]/\s.name.length<=1000000000:=⟨NM.ok.small _ (hnm (.inl hkd1)),by omega⟩;have Hp:=zh Hl;have J5:(l++lm).length+2<=1000000000:=(by simp;omega);have Ji:(l++lm++[[108,101,116],s.name]).length+1<=1000000000:=(by simp;omega);have Hj:(l++lm++[[108,101,116],s.name]++[[61]]).length+qx.length<=900000000:=(by simp;omega);have Hm:(l++lm++[[108,101,116],s.name]++[[61]]++qx).length+1<=1000000000:=(by simp;omega);clear Hl Ha Hc H1 hnm hbg heg hkd1 hk17 H0 Hx Hh hel Jc;obtain⟨x0,x1,x2,x3,x4,x5,x6,hl1,hl2,hbl⟩:=H4.o.c7;obtain⟨dg,d0,d1,d2,d3,d4,d5,d6⟩:=H2.o w4 H4.o.wr.below;go_upto_region 5 with fail
     have J2:=zh H4.o.drew
     go_region_with (go_at_call 100;refine(J2.o.lput2 [108,101,116] s.name ⟨by simp,by simp⟩ Hp.o J5).mono ?_;rintro e w5 ⟨rfl,hW5,Hb⟩)
     have H5:=zh (J2.o.go oSt oSt hW5 Hb);clear hW5 Hb;clear x0 x1 x2 x3 x4 x5 x6 hl1 hl2 hbl d0 d1 d2 d3 d4 d5 d6 dg;obtain⟨x0,x1,x2,x3,x4,x5,x6,hl1,hl2,hbl⟩:=H5.o.c7;obtain⟨dg,d0,d1,d2,d3,d4,d5,d6⟩:=H2.o w5 H5.o.wr.below;go_wp2_with fail;clear x0 x1 x2 x3 x4 x5 x6 hl1 hl2 hbl d0 d1 d2 d3 d4 d5 d6 dg;have Jd:=zh (show Live W0 b (l++lm++[[108,101,116],s.name]++Sx.typL (s.t.take 0)) wr w5 L #[.int .i64 s.pos,.int .i64 1,.string ⟨s.name.toArray⟩,.slice At 0 ct,.slice (some ⟨gX,offX,none⟩) 1 cx,.slice Ab 0 cb,.slice Ae 0 ce] 69 L #[.int .i64 s.pos,.int .i64 1,.string ⟨s.name.toArray⟩,.slice At 0 ct,.slice (some ⟨gX,offX,none⟩) 1 cx,.slice Ab 0 cb,.slice Ae 0 ce] 69 by simpa[Sx.typL]using H5.o);obtain⟨wo,hwo⟩:∃wo:World,wo=wr:=⟨_,rfl⟩;rw[<-hwo]at Jd;have Hw:=zh hwo;clear hwo;go_loopg [28] 0 (fun i v wx=>∃(j:Nat),i=0-j/\v=.int .i64 (j:Int)/\j<=0/\Live W0 b (l++lm++[[108,101,116],s.name]++Sx.typL (s.t.take j)) wo wx L #[.int .i64 s.pos,.int .i64 1,.string ⟨s.name.toArray⟩,.slice At 0 ct,.slice (some ⟨gX,offX,none⟩) 1 cx,.slice Ab 0 cb,.slice Ae 0 ce] 69 L #[.int .i64 s.pos,.int .i64 1,.string ⟨s.name.toArray⟩,.slice At 0 ct,.slice (some ⟨gX,offX,none⟩) 1 cx,.slice Ab 0 cb,.slice Ae 0 ce] 69)
     case atStart=>exact⟨0,rfl,rfl,yxZ _,Jd.o⟩
     case round=>
      obtain⟨j,hij,rfl,hj,hlive⟩:=hrel;have Jn:=zh hij;have J8:=zh hlive;clear hij hlive;obtain rfl:j=0:=(by omega);have H7:=zh (show Live W0 b (l++lm++[[108,101,116],s.name]) wo wr L #[.int .i64 s.pos,.int .i64 1,.string ⟨s.name.toArray⟩,.slice At 0 ct,.slice (some ⟨gX,offX,none⟩) 1 cx,.slice Ab 0 cb,.slice Ae 0 ce] 69 L #[.int .i64 s.pos,.int .i64 1,.string ⟨s.name.toArray⟩,.slice At 0 ct,.slice (some ⟨gX,offX,none⟩) 1 cx,.slice Ab 0 cb,.slice Ae 0 ce] 69 by simpa[Sx.typL]using J8.o);clear J8;obtain⟨w7,hw7⟩:=zE (wr);rw[hw7]at H7 ⊢;clear hw7;obtain⟨x0,x1,x2,x3,x4,x5,x6,hl1,hl2,hbl⟩:=H7.o.c7;obtain⟨dg,d0,d1,d2,d3,d4,d5,d6⟩:=H2.o w7 H7.o.wr.below;go_upto_region 22 with(go_at_call 100;refine(H7.o.lput1 [61] ⟨by simp,by simp⟩ Ji).mono ?_;rintro e w8 ⟨rfl,hW8,J4⟩);have H8:=zh (H7.o.go oSt oSt hW8 J4);clear hW8 J4;clear x0 x1 x2 x3 x4 x5 x6 hl1 hl2 hbl d0 d1 d2 d3 d4 d5 d6 dg;obtain⟨x0,x1,x2,x3,x4,x5,x6,hl1,hl2,hbl⟩:=H8.o.c7;obtain⟨dg,d0,d1,d2,d3,d4,d5,d6⟩:=H2.o w8 H8.o.wr.below;go_upto_region 24 with(go_at_call 64;refine(Hz.o _ _ w8 Hg.o H8.o.wr Hj).mono ?_;rintro e w9 ⟨rfl,hW9,Hr⟩);have H9:=zh (H8.o.go oSt oSt hW9 Hr);clear hW9 Hr;clear x0 x1 x2 x3 x4 x5 x6 hl1 hl2 hbl d0 d1 d2 d3 d4 d5 d6 dg;obtain⟨x0,x1,x2,x3,x4,x5,x6,hl1,hl2,hbl⟩:=H9.o.c7;obtain⟨dg,d0,d1,d2,d3,d4,d5,d6⟩:=H2.o w9 H9.o.wr.below;go_wp2_with (go_at_call 100;refine(H9.o.lput1 [59] ⟨by simp,by simp⟩ Hm).mono ?_;rintro e w10 ⟨rfl,hW10,Hs⟩);have Ja:=zh (H9.o.go oSt oSt hW10 Hs);clear hW10 Hs;clear x0 x1 x2 x3 x4 x5 x6 hl1 hl2 hbl d0 d1 d2 d3 d4 d5 d6 dg;go_roundg (k-(m+1))
      case measure=>have:=HI.o;omega
      case rel=>refine⟨m+1,rfl,by simp,hlt,?_,Hv.o.trans (by have h:=Ja.o.kp;first | exact h | (rw[Hw.o]at h;exact h))⟩;rw[Hk.o];simpa[yiZ]using Ja.o.wr
    ·skip
     have Ho:0<s.t.length:=(by omega);obtain⟨gT,offT,AnT,cnT,AeT,ceT,AqT,cqT,rfl,htyT,hcT⟩:=htt.spot 0 Ho;have Je:=Sx.right0_head s.t Ho;rw[htr]at Je;have Jb:=Sx.typL_head Ho;obtain⟨tT,hpeT⟩:=zE (s.t[0]'Ho);have J1:tT∈s.t:=(by rw[<-hpeT];exact yfZ Ho);rw[hpeT]at hcT htyT Je Jb;have Jq:Sx.size tT<=1000000:=(by have:=Sx.size_mem J1;have:=Sx.sizeS_parts s;omega);have Hy:=(zeeZ NM NM.ok W0 b _ tT (ybZ _)).1 64;obtain⟨qt,hqt⟩:=zE (Sx.typ tT);unfold TypOk at Hy;rw[hqt]at Jb Hy;have Jg:=zh htyT;have U3:=zh hcT
     have U2:=zh (fun u l w (hu:IsTy W0 u tT) (hw:Wrote W0 b l.length l w) (hc:l.length+10 * Sx.size tT<=1000000000)=>by
      exact(Hy u l.length l w Je hu hw hc).mono fun e w' ⟨h1,h2,h3⟩=>(⟨h1,h2.tight,h3⟩:e=Ending.returned (.tuple #[])/\Wrote W0 b (l++qt).length (l++qt) w'/\KeepW w w'))
     clear htyT hcT Hy hqt hpeT J1 Je htt;subst Hd;have He:bl=0:=by
      rcases hbg with h | h | h
      ·omega
      ·omega
      ·rw[<-J9.o,h];rfl
     have Hn:el=0:=by
      rcases heg with h | h
      ·omega
      ·rw[<-hel,h];rfl
     subst He Hn;obtain⟨w4,hw4⟩:=zE (wr.alloc (.cells #[.int .i64 s.pos,.int .i64 1,.string ⟨s.name.toArray⟩,.slice (some ⟨gT,offT,none⟩) 1 ct,.slice (some ⟨gX,offX,none⟩) 1 cx,.slice Ab 0 cb,.slice Ae 0 ce] 69));have H3:=Live.first J0.o #[.int .i64 s.pos,.int .i64 1,.string ⟨s.name.toArray⟩,.slice (some ⟨gT,offT,none⟩) 1 ct,.slice (some ⟨gX,offX,none⟩) 1 cx,.slice Ab 0 cb,.slice Ae 0 ce] 69 hw4;rw[hL]at H3;have H4:=zh H3;clear H3;have Hc:Sx.stmt SY s=[[108,101,116],s.name]++qt++[[61]]++qx++[[59]]:=(by rw[H1];simp[Jb]);rw[Hc]at Ha H0;simp only[ycZ,yhZ,ynZ]at H0;have Hk:=zh Ha;have Hl:s.name≠[]/\s.name.length<=1000000000:=⟨NM.ok.small _ (hnm (.inl hkd1)),by omega⟩;have Hp:=zh Hl;have J5:(l++lm).length+2<=1000000000:=(by simp;omega);have Ji:(l++lm++[[108,101,116],s.name]++qt).length+1<=1000000000:=(by simp;omega);have Hj:(l++lm++[[108,101,116],s.name]++qt++[[61]]).length+qx.length<=900000000:=(by simp;omega);have Hm:(l++lm++[[108,101,116],s.name]++qt++[[61]]++qx).length+1<=1000000000:=(by simp;omega);have Jm:=zh (show Sx.typL (s.t.take 1)=qt by rw[yjZ (by omega)];exact Jb);have Jx:(l++lm++[[108,101,116],s.name]).length+10 * Sx.size tT<=1000000000:=(by simp;omega);clear Hl Ha Hc H1 hnm hbg heg hkd1 hk17 H0 Hx Hh hel Jb Jq Ho htr;obtain⟨x0,x1,x2,x3,x4,x5,x6,hl1,hl2,hbl⟩:=H4.o.c7;obtain⟨dg,d0,d1,d2,d3,d4,d5,d6⟩:=H2.o w4 H4.o.wr.below;go_upto_region 5 with fail
     have J2:=zh H4.o.drew
     go_region_with (go_at_call 100;refine(J2.o.lput2 [108,101,116] s.name ⟨by simp,by simp⟩ Hp.o J5).mono ?_;rintro e w5 ⟨rfl,hW5,Hb⟩)
     have H5:=zh (J2.o.go oSt oSt hW5 Hb);clear hW5 Hb;clear x0 x1 x2 x3 x4 x5 x6 hl1 hl2 hbl d0 d1 d2 d3 d4 d5 d6 dg;obtain⟨x0,x1,x2,x3,x4,x5,x6,hl1,hl2,hbl⟩:=H5.o.c7;obtain⟨dg,d0,d1,d2,d3,d4,d5,d6⟩:=H2.o w5 H5.o.wr.below;go_wp2_with fail;clear x0 x1 x2 x3 x4 x5 x6 hl1 hl2 hbl d0 d1 d2 d3 d4 d5 d6 dg;have Jd:=zh (show Live W0 b (l++lm++[[108,101,116],s.name]++Sx.typL (s.t.take 0)) wr w5 L #[.int .i64 s.pos,.int .i64 1,.string ⟨s.name.toArray⟩,.slice (some ⟨gT,offT,none⟩) 1 ct,.slice (some ⟨gX,offX,none⟩) 1 cx,.slice Ab 0 cb,.slice Ae 0 ce] 69 L #[.int .i64 s.pos,.int .i64 1,.string ⟨s.name.toArray⟩,.slice (some ⟨gT,offT,none⟩) 1 ct,.slice (some ⟨gX,offX,none⟩) 1 cx,.slice Ab 0 cb,.slice Ae 0 ce] 69 by simpa[Sx.typL]using H5.o);obtain⟨wo,hwo⟩:∃wo:World,wo=wr:=⟨_,rfl⟩;rw[<-hwo]at Jd;have Hw:=zh hwo;clear hwo;go_loopg [28] 1 (fun i v wx=>∃(j:Nat),i=1-j/\v=.int .i64 (j:Int)/\j<=1/\Live W0 b (l++lm++[[108,101,116],s.name]++Sx.typL (s.t.take j)) wo wx L #[.int .i64 s.pos,.int .i64 1,.string ⟨s.name.toArray⟩,.slice (some ⟨gT,offT,none⟩) 1 ct,.slice (some ⟨gX,offX,none⟩) 1 cx,.slice Ab 0 cb,.slice Ae 0 ce] 69 L #[.int .i64 s.pos,.int .i64 1,.string ⟨s.name.toArray⟩,.slice (some ⟨gT,offT,none⟩) 1 ct,.slice (some ⟨gX,offX,none⟩) 1 cx,.slice Ab 0 cb,.slice Ae 0 ce] 69)
     case atStart=>exact⟨0,rfl,rfl,yxZ _,Jd.o⟩
     case round=>
      obtain⟨j,hij,rfl,hj,hlive⟩:=hrel;have Jn:=zh hij;have J8:=zh hlive;clear hij hlive;by_cases hj0:j=0
      ·subst hj0;have H7:=zh (show Live W0 b (l++lm++[[108,101,116],s.name]) wo wr L #[.int .i64 s.pos,.int .i64 1,.string ⟨s.name.toArray⟩,.slice (some ⟨gT,offT,none⟩) 1 ct,.slice (some ⟨gX,offX,none⟩) 1 cx,.slice Ab 0 cb,.slice Ae 0 ce] 69 L #[.int .i64 s.pos,.int .i64 1,.string ⟨s.name.toArray⟩,.slice (some ⟨gT,offT,none⟩) 1 ct,.slice (some ⟨gX,offX,none⟩) 1 cx,.slice Ab 0 cb,.slice Ae 0 ce] 69 by simpa[Sx.typL]using J8.o);obtain⟨tg,t0,t1,t2,t3,t4⟩:=U3.o wr H7.o.wr.below;rw[yrZ,ypZ]at t0 t1 t2 t3 t4;have Jt:=H7.o.lt;obtain⟨w8,hw8⟩:=zE (wr.alloc (.cells #[.int .i64 tT.kind,.string ⟨tT.name.toArray⟩,.slice AnT tT.names.length cnT,.slice AeT tT.embeds.length ceT,.slice AqT tT.parts.length cqT] 26));have H8:=zh (show Live W0 b (l++lm++[[108,101,116],s.name]) wo w8 L #[.int .i64 s.pos,.int .i64 1,.string ⟨s.name.toArray⟩,.slice (some ⟨gT,offT,none⟩) 1 ct,.slice (some ⟨gX,offX,none⟩) 1 cx,.slice Ab 0 cb,.slice Ae 0 ce] 69 L #[.int .i64 s.pos,.int .i64 1,.string ⟨s.name.toArray⟩,.slice (some ⟨gT,offT,none⟩) 1 ct,.slice (some ⟨gX,offX,none⟩) 1 cx,.slice Ab 0 cb,.slice Ae 0 ce] 69 by rw[<-hw8];exact H7.o.grow (yeZ wr _ none));have Hu:w8.heap[wr.heap.size]? =some (.cells #[.int .i64 tT.kind,.string ⟨tT.name.toArray⟩,.slice AnT tT.names.length cnT,.slice AeT tT.embeds.length ceT,.slice AqT tT.parts.length cqT] 26 (0,0)):=(by rw[<-hw8];exact ydZ wr _);obtain⟨z0,z1,z2,z3,z4⟩:=zcZ Hu;have U4:=H8.o.lt;have Jy:=zaZ Hu;clear Hu;go_wp2_with (go_at_call 59;refine(U2.o _ _ w8 Jg.o H8.o.wr Jx).mono ?_;rintro e w9 ⟨rfl,hW9,Hr⟩);have H9:=zh (H8.o.go oSt oSt hW9 Hr);clear hW9 Hr t0 t1 t2 t3 t4 tg z0 z1 z2 z3 z4 U4 Jy Jt;go_roundg (1-1)
       case measure=>have:=Jn.o;omega
       case rel=>exact⟨1,rfl,rfl,ybZ _,by rw[Jm.o];exact H9.o⟩
      ·obtain rfl:j=1:=(by omega);have H7:=zh (show Live W0 b (l++lm++[[108,101,116],s.name]++qt) wo wr L #[.int .i64 s.pos,.int .i64 1,.string ⟨s.name.toArray⟩,.slice (some ⟨gT,offT,none⟩) 1 ct,.slice (some ⟨gX,offX,none⟩) 1 cx,.slice Ab 0 cb,.slice Ae 0 ce] 69 L #[.int .i64 s.pos,.int .i64 1,.string ⟨s.name.toArray⟩,.slice (some ⟨gT,offT,none⟩) 1 ct,.slice (some ⟨gX,offX,none⟩) 1 cx,.slice Ab 0 cb,.slice Ae 0 ce] 69 by have h:=J8.o;rwa [Jm.o]at h);clear J8;obtain⟨w7,hw7⟩:=zE (wr);rw[hw7]at H7 ⊢;clear hw7;obtain⟨x0,x1,x2,x3,x4,x5,x6,hl1,hl2,hbl⟩:=H7.o.c7;obtain⟨dg,d0,d1,d2,d3,d4,d5,d6⟩:=H2.o w7 H7.o.wr.below;go_upto_region 22 with(go_at_call 100;refine(H7.o.lput1 [61] ⟨by simp,by simp⟩ Ji).mono ?_;rintro e w8 ⟨rfl,hW8,J4⟩);have H8:=zh (H7.o.go oSt oSt hW8 J4);clear hW8 J4;clear x0 x1 x2 x3 x4 x5 x6 hl1 hl2 hbl d0 d1 d2 d3 d4 d5 d6 dg;obtain⟨x0,x1,x2,x3,x4,x5,x6,hl1,hl2,hbl⟩:=H8.o.c7;obtain⟨dg,d0,d1,d2,d3,d4,d5,d6⟩:=H2.o w8 H8.o.wr.below;go_upto_region 24 with(go_at_call 64;refine(Hz.o _ _ w8 Hg.o H8.o.wr Hj).mono ?_;rintro e w9 ⟨rfl,hW9,Hr⟩);have H9:=zh (H8.o.go oSt oSt hW9 Hr);clear hW9 Hr;clear x0 x1 x2 x3 x4 x5 x6 hl1 hl2 hbl d0 d1 d2 d3 d4 d5 d6 dg;obtain⟨x0,x1,x2,x3,x4,x5,x6,hl1,hl2,hbl⟩:=H9.o.c7;obtain⟨dg,d0,d1,d2,d3,d4,d5,d6⟩:=H2.o w9 H9.o.wr.below;go_wp2_with (go_at_call 100;refine(H9.o.lput1 [59] ⟨by simp,by simp⟩ Hm).mono ?_;rintro e w10 ⟨rfl,hW10,Hs⟩);have Ja:=zh (H9.o.go oSt oSt hW10 Hs);clear hW10 Hs;clear x0 x1 x2 x3 x4 x5 x6 hl1 hl2 hbl d0 d1 d2 d3 d4 d5 d6 dg;go_roundg (k-(m+1))
       case measure=>have:=HI.o;omega
       case rel=>refine⟨m+1,rfl,by simp,hlt,?_,Hv.o.trans (by have h:=Ja.o.kp;first | exact h | (rw[Hw.o]at h;exact h))⟩;rw[Hk.o];simpa[yiZ]using Ja.o.wr
   by_cases hkd2:s.kind=2
   ·rw[hkd2]at c1 H1;have Hd:tl=0:=by
     rcases Hd with h | ⟨h,-⟩
     ·exact h
     ·omega
    subst Hd;have He:bl=0:=by
     rcases hbg with h | h | h
     ·omega
     ·omega
     ·rw[<-J9.o,h];rfl
    have Hn:el=0:=by
     rcases heg with h | h
     ·omega
     ·rw[<-hel,h];rfl
    subst He Hn;obtain⟨w4,hw4⟩:=zE (wr.alloc (.cells #[.int .i64 s.pos,.int .i64 2,.string ⟨s.name.toArray⟩,.slice At 0 ct,.slice (some ⟨gX,offX,none⟩) 1 cx,.slice Ab 0 cb,.slice Ae 0 ce] 69));have H3:=Live.first J0.o #[.int .i64 s.pos,.int .i64 2,.string ⟨s.name.toArray⟩,.slice At 0 ct,.slice (some ⟨gX,offX,none⟩) 1 cx,.slice Ab 0 cb,.slice Ae 0 ce] 69 hw4;rw[hL]at H3;have H4:=zh H3;clear H3;have Hc:Sx.stmt SY s=[s.name,[61]]++qx++[[59]]:=(by rw[H1];simp);rw[Hc]at Ha H0;simp only[ycZ,yhZ,ynZ]at H0;have Hk:=zh Ha;have Hl:s.name≠[]/\s.name.length<=1000000000:=⟨NM.ok.small _ (hnm (.inr hkd2)),by omega⟩;have Hp:=zh Hl;have J5:(l++lm).length+2<=1000000000:=(by simp;omega);have He:(l++lm).length+1<=1000000000:=(by simp;omega);have Hj:(l++lm++[s.name,[61]]).length+qx.length<=900000000:=(by simp;omega);have Hm:(l++lm++[s.name,[61]]++qx).length+1<=1000000000:=(by simp;omega);clear Ha Hc H1 hnm hbg heg hkd2 hk17 H0 Hx Hh hel htt Hl;obtain⟨x0,x1,x2,x3,x4,x5,x6,hl1,hl2,hbl⟩:=H4.o.c7;obtain⟨dg,d0,d1,d2,d3,d4,d5,d6⟩:=H2.o w4 H4.o.wr.below;go_upto_region 13 with fail
    have J2:=zh H4.o.drew
    go_region_with (go_at_call 100;refine(J2.o.lput2 s.name [61] Hp.o ⟨by simp,by simp⟩ J5).mono ?_;rintro e w5 ⟨rfl,hW5,Hb⟩)
    have H5:=zh (J2.o.go oSt oSt hW5 Hb);clear hW5 Hb;clear x0 x1 x2 x3 x4 x5 x6 hl1 hl2 hbl d0 d1 d2 d3 d4 d5 d6 dg;obtain⟨x0,x1,x2,x3,x4,x5,x6,hl1,hl2,hbl⟩:=H5.o.c7;obtain⟨dg,d0,d1,d2,d3,d4,d5,d6⟩:=H2.o w5 H5.o.wr.below;go_upto_region 24 with(go_at_call 64;refine(Hz.o _ _ w5 Hg.o H5.o.wr Hj).mono ?_;rintro e w6 ⟨rfl,hW6,Hf⟩)
    have H6:=zh (H5.o.go oSt oSt hW6 Hf);clear hW6 Hf;clear x0 x1 x2 x3 x4 x5 x6 hl1 hl2 hbl d0 d1 d2 d3 d4 d5 d6 dg;obtain⟨x0,x1,x2,x3,x4,x5,x6,hl1,hl2,hbl⟩:=H6.o.c7;obtain⟨dg,d0,d1,d2,d3,d4,d5,d6⟩:=H2.o w6 H6.o.wr.below;go_wp2_with (go_at_call 100;refine(H6.o.lput1 [59] ⟨by simp,by simp⟩ Hm).mono ?_;rintro e w7 ⟨rfl,hW7,Hi⟩);have H7:=zh (H6.o.go oSt oSt hW7 Hi);clear hW7 Hi;clear x0 x1 x2 x3 x4 x5 x6 hl1 hl2 hbl d0 d1 d2 d3 d4 d5 d6 dg;go_roundg (k-(m+1))
    case measure=>have:=HI.o;omega
    case rel=>refine⟨m+1,rfl,by simp,hlt,?_,Hv.o.trans (by have h:=H7.o.kp;first | exact h | (rw[Hw.o]at h;exact h))⟩;rw[Hk.o];simpa[yiZ]using H7.o.wr
   by_cases hkd3:s.kind=3
   ·rw[hkd3]at c1 H1;have Hd:tl=0:=by
     rcases Hd with h | ⟨h,-⟩
     ·exact h
     ·omega
    subst Hd;have He:bl=0:=by
     rcases hbg with h | h | h
     ·omega
     ·omega
     ·rw[<-J9.o,h];rfl
    have Hn:el=0:=by
     rcases heg with h | h
     ·omega
     ·rw[<-hel,h];rfl
    subst He Hn;obtain⟨w4,hw4⟩:=zE (wr.alloc (.cells #[.int .i64 s.pos,.int .i64 3,.string ⟨s.name.toArray⟩,.slice At 0 ct,.slice (some ⟨gX,offX,none⟩) 1 cx,.slice Ab 0 cb,.slice Ae 0 ce] 69));have H3:=Live.first J0.o #[.int .i64 s.pos,.int .i64 3,.string ⟨s.name.toArray⟩,.slice At 0 ct,.slice (some ⟨gX,offX,none⟩) 1 cx,.slice Ab 0 cb,.slice Ae 0 ce] 69 hw4;rw[hL]at H3;have H4:=zh H3;clear H3;have Hc:Sx.stmt SY s=[[112,114,105,110,116]]++qx++[[59]]:=(by rw[H1];simp);rw[Hc]at Ha H0;simp only[ycZ,yhZ,ynZ]at H0;have Hk:=zh Ha;have J5:(l++lm).length+2<=1000000000:=(by simp;omega);have He:(l++lm).length+1<=1000000000:=(by simp;omega);have Hj:(l++lm++[[112,114,105,110,116]]).length+qx.length<=900000000:=(by simp;omega);have Hm:(l++lm++[[112,114,105,110,116]]++qx).length+1<=1000000000:=(by simp;omega);clear Ha Hc H1 hnm hbg heg hkd3 hk17 H0 Hx Hh hel htt;obtain⟨x0,x1,x2,x3,x4,x5,x6,hl1,hl2,hbl⟩:=H4.o.c7;obtain⟨dg,d0,d1,d2,d3,d4,d5,d6⟩:=H2.o w4 H4.o.wr.below;go_upto_region 22 with(go_at_call 100;refine(H4.o.lput1 [112,114,105,110,116] ⟨by simp,by simp⟩ He).mono ?_;rintro e w5 ⟨rfl,hW5,Hb⟩)
    have H5:=zh (H4.o.go oSt oSt hW5 Hb);clear hW5 Hb;clear x0 x1 x2 x3 x4 x5 x6 hl1 hl2 hbl d0 d1 d2 d3 d4 d5 d6 dg;obtain⟨x0,x1,x2,x3,x4,x5,x6,hl1,hl2,hbl⟩:=H5.o.c7;obtain⟨dg,d0,d1,d2,d3,d4,d5,d6⟩:=H2.o w5 H5.o.wr.below;go_upto_region 24 with(go_at_call 64;refine(Hz.o _ _ w5 Hg.o H5.o.wr Hj).mono ?_;rintro e w6 ⟨rfl,hW6,Hf⟩)
    have H6:=zh (H5.o.go oSt oSt hW6 Hf);clear hW6 Hf;clear x0 x1 x2 x3 x4 x5 x6 hl1 hl2 hbl d0 d1 d2 d3 d4 d5 d6 dg;obtain⟨x0,x1,x2,x3,x4,x5,x6,hl1,hl2,hbl⟩:=H6.o.c7;obtain⟨dg,d0,d1,d2,d3,d4,d5,d6⟩:=H2.o w6 H6.o.wr.below;go_wp2_with (go_at_call 100;refine(H6.o.lput1 [59] ⟨by simp,by simp⟩ Hm).mono ?_;rintro e w7 ⟨rfl,hW7,Hi⟩);have H7:=zh (H6.o.go oSt oSt hW7 Hi);clear hW7 Hi;clear x0 x1 x2 x3 x4 x5 x6 hl1 hl2 hbl d0 d1 d2 d3 d4 d5 d6 dg;go_roundg (k-(m+1))
    case measure=>have:=HI.o;omega
    case rel=>refine⟨m+1,rfl,by simp,hlt,?_,Hv.o.trans (by have h:=H7.o.kp;first | exact h | (rw[Hw.o]at h;exact h))⟩;rw[Hk.o];simpa[yiZ]using H7.o.wr
   by_cases hkd4:s.kind=4
   ·rw[hkd4]at c1 H1;have Hd:tl=0:=by
     rcases Hd with h | ⟨h,-⟩
     ·exact h
     ·omega
    subst Hd;obtain⟨w4,hw4⟩:=zE (wr.alloc (.cells #[.int .i64 s.pos,.int .i64 4,.string ⟨s.name.toArray⟩,.slice At 0 ct,.slice (some ⟨gX,offX,none⟩) 1 cx,.slice Ab bl cb,.slice Ae el ce] 69));have H3:=Live.first J0.o #[.int .i64 s.pos,.int .i64 4,.string ⟨s.name.toArray⟩,.slice At 0 ct,.slice (some ⟨gX,offX,none⟩) 1 cx,.slice Ab bl cb,.slice Ae el ce] 69 hw4;rw[hL]at H3;have H4:=zh H3;clear H3;rcases yLZ el with hze | hze
    ·skip
     have J3:s.els.isEmpty=true:=(by rw[List.isEmpty_iff];exact yabZ.1 (hel.trans hze));subst hze;have Hc:Sx.stmt SY s=[[105,102]]++qx++qb:=(by rw[H1];simp[J3]);rw[Hc]at Ha H0;simp only[ycZ,yhZ,ynZ]at H0;have Hk:=zh Ha;have He:(l++lm).length+1<=1000000000:=(by simp;omega);have Hj:(l++lm++[[105,102]]).length+qx.length<=900000000:=(by simp;omega);have Hm:(l++lm++[[105,102]]++qx).length+qb.length<=900000000:=(by simp;omega);clear Ha Hc H1 hnm hbg heg hkd4 hk17 H0 Hx Hh hel htt J3;obtain⟨x0,x1,x2,x3,x4,x5,x6,hl1,hl2,hbl⟩:=H4.o.c7;obtain⟨dg,d0,d1,d2,d3,d4,d5,d6⟩:=H2.o w4 H4.o.wr.below;go_upto_region 22 with(go_at_call 100;refine(H4.o.lput1 [105,102] ⟨by simp,by simp⟩ He).mono ?_;rintro e w5 ⟨rfl,hW5,Hb⟩)
     have H5:=zh (H4.o.go oSt oSt hW5 Hb);clear hW5 Hb;clear x0 x1 x2 x3 x4 x5 x6 hl1 hl2 hbl d0 d1 d2 d3 d4 d5 d6 dg;obtain⟨x0,x1,x2,x3,x4,x5,x6,hl1,hl2,hbl⟩:=H5.o.c7;obtain⟨dg,d0,d1,d2,d3,d4,d5,d6⟩:=H2.o w5 H5.o.wr.below;go_upto_region 24 with(go_at_call 64;refine(Hz.o _ _ w5 Hg.o H5.o.wr Hj).mono ?_;rintro e w6 ⟨rfl,hW6,Hf⟩)
     have H6:=zh (H5.o.go oSt oSt hW6 Hf);clear hW6 Hf;clear x0 x1 x2 x3 x4 x5 x6 hl1 hl2 hbl d0 d1 d2 d3 d4 d5 d6 dg;obtain⟨x0,x1,x2,x3,x4,x5,x6,hl1,hl2,hbl⟩:=H6.o.c7;obtain⟨dg,d0,d1,d2,d3,d4,d5,d6⟩:=H2.o w6 H6.o.wr.below;go_wp2_with (go_at_call 121;refine(Jk.o _ w6 H6.o.wr Hm).mono ?_;rintro e w7 ⟨rfl,hW7,Hi⟩);have H7:=zh (H6.o.go oSt oSt hW7 Hi);clear hW7 Hi;clear x0 x1 x2 x3 x4 x5 x6 hl1 hl2 hbl d0 d1 d2 d3 d4 d5 d6 dg;go_roundg (k-(m+1))
     case measure=>have:=HI.o;omega
     case rel=>refine⟨m+1,rfl,by simp,hlt,?_,Hv.o.trans (by have h:=H7.o.kp;first | exact h | (rw[Hw.o]at h;exact h))⟩;rw[Hk.o];simpa[yiZ]using H7.o.wr
    ·skip
     have U9:(0:Int)<(el:Int):=by omega
     have J3:s.els.isEmpty=false:=by cases hx:s.els with
      | nil=>rw[hx]at hel;simp at hel;omega
      | cons a l=>rfl
     have Hc:Sx.stmt SY s=[[105,102]]++qx++qb++[[101,108,115,101]]++qe:=(by rw[H1];simp[J3]);rw[Hc]at Ha H0;simp only[ycZ,yhZ,ynZ]at H0;have Hk:=zh Ha;have He:(l++lm).length+1<=1000000000:=(by simp;omega);have Hj:(l++lm++[[105,102]]).length+qx.length<=900000000:=(by simp;omega);have Hm:(l++lm++[[105,102]]++qx).length+qb.length<=900000000:=(by simp;omega);have Jw:(l++lm++[[105,102]]++qx++qb).length+1<=1000000000:=(by simp;omega);have U0:(l++lm++[[105,102]]++qx++qb++[[101,108,115,101]]).length+qe.length<=900000000:=(by simp;omega);clear Ha Hc H1 hnm hbg heg hkd4 hk17 H0 Hx Hh hel htt J3;obtain⟨x0,x1,x2,x3,x4,x5,x6,hl1,hl2,hbl⟩:=H4.o.c7;obtain⟨dg,d0,d1,d2,d3,d4,d5,d6⟩:=H2.o w4 H4.o.wr.below;go_upto_region 22 with(go_at_call 100;refine(H4.o.lput1 [105,102] ⟨by simp,by simp⟩ He).mono ?_;rintro e w5 ⟨rfl,hW5,Hb⟩)
     have H5:=zh (H4.o.go oSt oSt hW5 Hb);clear hW5 Hb;clear x0 x1 x2 x3 x4 x5 x6 hl1 hl2 hbl d0 d1 d2 d3 d4 d5 d6 dg;obtain⟨x0,x1,x2,x3,x4,x5,x6,hl1,hl2,hbl⟩:=H5.o.c7;obtain⟨dg,d0,d1,d2,d3,d4,d5,d6⟩:=H2.o w5 H5.o.wr.below;go_upto_region 24 with(go_at_call 64;refine(Hz.o _ _ w5 Hg.o H5.o.wr Hj).mono ?_;rintro e w6 ⟨rfl,hW6,Hf⟩)
     have H6:=zh (H5.o.go oSt oSt hW6 Hf);clear hW6 Hf;clear x0 x1 x2 x3 x4 x5 x6 hl1 hl2 hbl d0 d1 d2 d3 d4 d5 d6 dg;obtain⟨x0,x1,x2,x3,x4,x5,x6,hl1,hl2,hbl⟩:=H6.o.c7;obtain⟨dg,d0,d1,d2,d3,d4,d5,d6⟩:=H2.o w6 H6.o.wr.below;go_upto_region 28 with(go_at_call 121;refine(Jk.o _ w6 H6.o.wr Hm).mono ?_;rintro e w7 ⟨rfl,hW7,Hi⟩)
     have H7:=zh (H6.o.go oSt oSt hW7 Hi);clear hW7 Hi;clear x0 x1 x2 x3 x4 x5 x6 hl1 hl2 hbl d0 d1 d2 d3 d4 d5 d6 dg;obtain⟨x0,x1,x2,x3,x4,x5,x6,hl1,hl2,hbl⟩:=H7.o.c7;obtain⟨dg,d0,d1,d2,d3,d4,d5,d6⟩:=H2.o w7 H7.o.wr.below;go_upto_region 29 with(go_at_call 100;refine(H7.o.lput1 [101,108,115,101] ⟨by simp,by simp⟩ Jw).mono ?_;rintro e w8 ⟨rfl,hW8,J4⟩)
     have H8:=zh (H7.o.go oSt oSt hW8 J4);clear hW8 J4;clear x0 x1 x2 x3 x4 x5 x6 hl1 hl2 hbl d0 d1 d2 d3 d4 d5 d6 dg;obtain⟨x0,x1,x2,x3,x4,x5,x6,hl1,hl2,hbl⟩:=H8.o.c7;obtain⟨dg,d0,d1,d2,d3,d4,d5,d6⟩:=H2.o w8 H8.o.wr.below;go_wp2_with (go_at_call 121;refine(Jr.o _ w8 H8.o.wr U0).mono ?_;rintro e w9 ⟨rfl,hW9,Hr⟩);have H9:=zh (H8.o.go oSt oSt hW9 Hr);clear hW9 Hr;clear x0 x1 x2 x3 x4 x5 x6 hl1 hl2 hbl d0 d1 d2 d3 d4 d5 d6 dg;go_roundg (k-(m+1))
     case measure=>have:=HI.o;omega
     case rel=>refine⟨m+1,rfl,by simp,hlt,?_,Hv.o.trans (by have h:=H9.o.kp;first | exact h | (rw[Hw.o]at h;exact h))⟩;rw[Hk.o];simpa[yiZ]using H9.o.wr
   by_cases hkd5:s.kind=5
   ·rw[hkd5]at c1 H1;have Hd:tl=0:=by
     rcases Hd with h | ⟨h,-⟩
     ·exact h
     ·omega
    subst Hd;have Hn:el=0:=by
     rcases heg with h | h
     ·omega
     ·rw[<-hel,h];rfl
    have J3:s.els.isEmpty=true:=(by rw[List.isEmpty_iff];exact yabZ.1 (hel.trans Hn));subst Hn;obtain⟨w4,hw4⟩:=zE (wr.alloc (.cells #[.int .i64 s.pos,.int .i64 5,.string ⟨s.name.toArray⟩,.slice At 0 ct,.slice (some ⟨gX,offX,none⟩) 1 cx,.slice Ab bl cb,.slice Ae 0 ce] 69));have H3:=Live.first J0.o #[.int .i64 s.pos,.int .i64 5,.string ⟨s.name.toArray⟩,.slice At 0 ct,.slice (some ⟨gX,offX,none⟩) 1 cx,.slice Ab bl cb,.slice Ae 0 ce] 69 hw4;rw[hL]at H3;have H4:=zh H3;clear H3;have Hc:Sx.stmt SY s=[[119,104,105,108,101]]++qx++qb:=(by rw[H1];simp[J3]);rw[Hc]at Ha H0;simp only[ycZ,yhZ,ynZ]at H0;have Hk:=zh Ha;have He:(l++lm).length+1<=1000000000:=(by simp;omega);have Hj:(l++lm++[[119,104,105,108,101]]).length+qx.length<=900000000:=(by simp;omega);have Hm:(l++lm++[[119,104,105,108,101]]++qx).length+qb.length<=900000000:=(by simp;omega);clear Ha Hc H1 hnm hbg heg hkd5 hk17 H0 Hx Hh hel htt J3;obtain⟨x0,x1,x2,x3,x4,x5,x6,hl1,hl2,hbl⟩:=H4.o.c7;obtain⟨dg,d0,d1,d2,d3,d4,d5,d6⟩:=H2.o w4 H4.o.wr.below;go_upto_region 22 with(go_at_call 100;refine(H4.o.lput1 [119,104,105,108,101] ⟨by simp,by simp⟩ He).mono ?_;rintro e w5 ⟨rfl,hW5,Hb⟩)
    have H5:=zh (H4.o.go oSt oSt hW5 Hb);clear hW5 Hb;clear x0 x1 x2 x3 x4 x5 x6 hl1 hl2 hbl d0 d1 d2 d3 d4 d5 d6 dg;obtain⟨x0,x1,x2,x3,x4,x5,x6,hl1,hl2,hbl⟩:=H5.o.c7;obtain⟨dg,d0,d1,d2,d3,d4,d5,d6⟩:=H2.o w5 H5.o.wr.below;go_upto_region 24 with(go_at_call 64;refine(Hz.o _ _ w5 Hg.o H5.o.wr Hj).mono ?_;rintro e w6 ⟨rfl,hW6,Hf⟩)
    have H6:=zh (H5.o.go oSt oSt hW6 Hf);clear hW6 Hf;clear x0 x1 x2 x3 x4 x5 x6 hl1 hl2 hbl d0 d1 d2 d3 d4 d5 d6 dg;obtain⟨x0,x1,x2,x3,x4,x5,x6,hl1,hl2,hbl⟩:=H6.o.c7;obtain⟨dg,d0,d1,d2,d3,d4,d5,d6⟩:=H2.o w6 H6.o.wr.below;go_wp2_with (go_at_call 121;refine(Jk.o _ w6 H6.o.wr Hm).mono ?_;rintro e w7 ⟨rfl,hW7,Hi⟩);have H7:=zh (H6.o.go oSt oSt hW7 Hi);clear hW7 Hi;clear x0 x1 x2 x3 x4 x5 x6 hl1 hl2 hbl d0 d1 d2 d3 d4 d5 d6 dg;go_roundg (k-(m+1))
    case measure=>have:=HI.o;omega
    case rel=>refine⟨m+1,rfl,by simp,hlt,?_,Hv.o.trans (by have h:=H7.o.kp;first | exact h | (rw[Hw.o]at h;exact h))⟩;rw[Hk.o];simpa[yiZ]using H7.o.wr
   by_cases hkd6:s.kind=6
   ·rw[hkd6]at c1 H1;have Hd:tl=0:=by
     rcases Hd with h | ⟨h,-⟩
     ·exact h
     ·omega
    subst Hd;have He:bl=0:=by
     rcases hbg with h | h | h
     ·omega
     ·omega
     ·rw[<-J9.o,h];rfl
    have Hn:el=0:=by
     rcases heg with h | h
     ·omega
     ·rw[<-hel,h];rfl
    subst He Hn;obtain⟨w4,hw4⟩:=zE (wr.alloc (.cells #[.int .i64 s.pos,.int .i64 6,.string ⟨s.name.toArray⟩,.slice At 0 ct,.slice (some ⟨gX,offX,none⟩) 1 cx,.slice Ab 0 cb,.slice Ae 0 ce] 69));have H3:=Live.first J0.o #[.int .i64 s.pos,.int .i64 6,.string ⟨s.name.toArray⟩,.slice At 0 ct,.slice (some ⟨gX,offX,none⟩) 1 cx,.slice Ab 0 cb,.slice Ae 0 ce] 69 hw4;rw[hL]at H3;have H4:=zh H3;clear H3;have Hc:Sx.stmt SY s=[[114,101,116,117,114,110]]++qx++[[59]]:=(by rw[H1];simp);rw[Hc]at Ha H0;simp only[ycZ,yhZ,ynZ]at H0;have Hk:=zh Ha;have J5:(l++lm).length+2<=1000000000:=(by simp;omega);have He:(l++lm).length+1<=1000000000:=(by simp;omega);have Hj:(l++lm++[[114,101,116,117,114,110]]).length+qx.length<=900000000:=(by simp;omega);have Hm:(l++lm++[[114,101,116,117,114,110]]++qx).length+1<=1000000000:=(by simp;omega);clear Ha Hc H1 hnm hbg heg hkd6 hk17 H0 Hx Hh hel htt;obtain⟨x0,x1,x2,x3,x4,x5,x6,hl1,hl2,hbl⟩:=H4.o.c7;obtain⟨dg,d0,d1,d2,d3,d4,d5,d6⟩:=H2.o w4 H4.o.wr.below;go_upto_region 22 with(go_at_call 100;refine(H4.o.lput1 [114,101,116,117,114,110] ⟨by simp,by simp⟩ He).mono ?_;rintro e w5 ⟨rfl,hW5,Hb⟩)
    have H5:=zh (H4.o.go oSt oSt hW5 Hb);clear hW5 Hb;clear x0 x1 x2 x3 x4 x5 x6 hl1 hl2 hbl d0 d1 d2 d3 d4 d5 d6 dg;obtain⟨x0,x1,x2,x3,x4,x5,x6,hl1,hl2,hbl⟩:=H5.o.c7;obtain⟨dg,d0,d1,d2,d3,d4,d5,d6⟩:=H2.o w5 H5.o.wr.below;go_upto_region 24 with(go_at_call 64;refine(Hz.o _ _ w5 Hg.o H5.o.wr Hj).mono ?_;rintro e w6 ⟨rfl,hW6,Hf⟩)
    have H6:=zh (H5.o.go oSt oSt hW6 Hf);clear hW6 Hf;clear x0 x1 x2 x3 x4 x5 x6 hl1 hl2 hbl d0 d1 d2 d3 d4 d5 d6 dg;obtain⟨x0,x1,x2,x3,x4,x5,x6,hl1,hl2,hbl⟩:=H6.o.c7;obtain⟨dg,d0,d1,d2,d3,d4,d5,d6⟩:=H2.o w6 H6.o.wr.below;go_wp2_with (go_at_call 100;refine(H6.o.lput1 [59] ⟨by simp,by simp⟩ Hm).mono ?_;rintro e w7 ⟨rfl,hW7,Hi⟩);have H7:=zh (H6.o.go oSt oSt hW7 Hi);clear hW7 Hi;clear x0 x1 x2 x3 x4 x5 x6 hl1 hl2 hbl d0 d1 d2 d3 d4 d5 d6 dg;go_roundg (k-(m+1))
    case measure=>have:=HI.o;omega
    case rel=>refine⟨m+1,rfl,by simp,hlt,?_,Hv.o.trans (by have h:=H7.o.kp;first | exact h | (rw[Hw.o]at h;exact h))⟩;rw[Hk.o];simpa[yiZ]using H7.o.wr
   by_cases hkd7:s.kind=7
   ·rw[hkd7]at c1 H1;have Hd:tl=0:=by
     rcases Hd with h | ⟨h,-⟩
     ·exact h
     ·omega
    subst Hd;have He:bl=0:=by
     rcases hbg with h | h | h
     ·omega
     ·omega
     ·rw[<-J9.o,h];rfl
    have Hn:el=0:=by
     rcases heg with h | h
     ·omega
     ·rw[<-hel,h];rfl
    subst He Hn;obtain⟨w4,hw4⟩:=zE (wr.alloc (.cells #[.int .i64 s.pos,.int .i64 7,.string ⟨s.name.toArray⟩,.slice At 0 ct,.slice (some ⟨gX,offX,none⟩) 1 cx,.slice Ab 0 cb,.slice Ae 0 ce] 69));have H3:=Live.first J0.o #[.int .i64 s.pos,.int .i64 7,.string ⟨s.name.toArray⟩,.slice At 0 ct,.slice (some ⟨gX,offX,none⟩) 1 cx,.slice Ab 0 cb,.slice Ae 0 ce] 69 hw4;rw[hL]at H3;have H4:=zh H3;clear H3;have Hc:Sx.stmt SY s=[]++qx++[[59]]:=(by rw[H1];simp);rw[Hc]at Ha H0;simp only[ycZ,yhZ,ynZ]at H0;have Hk:=zh Ha;have He:(l++lm).length+1<=1000000000:=(by simp;omega);have Hj:(l++lm).length+qx.length<=900000000:=(by simp;omega);have Hm:(l++lm++qx).length+1<=1000000000:=(by simp;omega);clear Ha Hc H1 hnm hbg heg hkd7 hk17 H0 Hx Hh hel htt;obtain⟨x0,x1,x2,x3,x4,x5,x6,hl1,hl2,hbl⟩:=H4.o.c7;obtain⟨dg,d0,d1,d2,d3,d4,d5,d6⟩:=H2.o w4 H4.o.wr.below;go_upto_region 24 with(go_at_call 64;refine(Hz.o _ _ w4 Hg.o H4.o.wr Hj).mono ?_;rintro e w5 ⟨rfl,hW5,Hb⟩)
    have H5:=zh (H4.o.go oSt oSt hW5 Hb);clear hW5 Hb;clear x0 x1 x2 x3 x4 x5 x6 hl1 hl2 hbl d0 d1 d2 d3 d4 d5 d6 dg;obtain⟨x0,x1,x2,x3,x4,x5,x6,hl1,hl2,hbl⟩:=H5.o.c7;obtain⟨dg,d0,d1,d2,d3,d4,d5,d6⟩:=H2.o w5 H5.o.wr.below;go_wp2_with (go_at_call 100;refine(H5.o.lput1 [59] ⟨by simp,by simp⟩ Hm).mono ?_;rintro e w6 ⟨rfl,hW6,Hf⟩);have H6:=zh (H5.o.go oSt oSt hW6 Hf);clear hW6 Hf;clear x0 x1 x2 x3 x4 x5 x6 hl1 hl2 hbl d0 d1 d2 d3 d4 d5 d6 dg;go_roundg (k-(m+1))
    case measure=>have:=HI.o;omega
    case rel=>refine⟨m+1,rfl,by simp,hlt,?_,Hv.o.trans (by have h:=H6.o.kp;first | exact h | (rw[Hw.o]at h;exact h))⟩;rw[Hk.o];simpa[yiZ]using H6.o.wr
   exact absurd hk17 (by omega)
  ·have Jp:¬(m:Int)<(k:Int):=(by omega);have U1:=zh (yjZ (show xs.length<=m by have:=HK.o;omega));go_wp2_with fail;go_end0;refine⟨rfl,?_,Hv.o⟩;have h8:=Jh.o;rw[U1.o]at h8;simpa using h8
theorem zmxZ {W0:World} {b:Nat} (hG:GS W0) (hN:NG<=W0.heap.size):∀(n:Nat) (xs:List Sx.St),Sx.sizeSs xs<=n->StmtsOk W0 b xs:=by
 intro n
 induction n with
 | zero=>
  intro xs h;refine zmdZ hG hN (fun s hs=>?_) (fun s hs=>?_)
  ·have:=Sx.sizeS_mem hs;have:=Sx.sizeS_pos s;omega
  ·have:=Sx.sizeS_mem hs;have:=Sx.sizeS_pos s;omega
 | succ n ih=>
  intro xs h;refine zmdZ hG hN (fun s hs=>zmcZ (ih _ ?_)) (fun s hs=>zmcZ (ih _ ?_))
  ·have:=Sx.sizeS_mem hs;have:=Sx.sizeS_parts s;omega
  ·have:=Sx.sizeS_mem hs;have:=Sx.sizeS_parts s;omega
end Go.Proofs.YtdncljdfmdgdaaaGreatDoor
