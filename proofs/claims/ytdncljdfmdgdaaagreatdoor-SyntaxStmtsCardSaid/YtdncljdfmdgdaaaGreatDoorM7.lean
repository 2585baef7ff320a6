/-
  The walk of typ at records and interfaces.
-/
import Derived.Test.YtdncljdfmdgdaaaGreatDoorM1
import Derived.Test.YtdncljdfmdgdaaaGreatDoorM6
import Derived.Test.YtdncljdfmdgdaaaGreatDoorM5
set_option linter.unusedSimpArgs false
set_option linter.unusedVariables false
set_option maxRecDepth 100000
set_option maxHeartbeats 8000000
namespace Go.Proofs.YtdncljdfmdgdaaaGreatDoor
open Go.RowKit Go.Shelf Go.WideMaps
theorem StrRow.spot {W0:World} {A:Option Addr} {k c:Nat} {l:List Lx.Bytes} (h:StrRow W0 (.slice A k c) l) (m:Nat) (hm:m<l.length) :
  ∃g off,A=some ⟨g,off,none⟩/\∀W,Below W0.heap.size W0 W->g<W.heap.size/\W.cell? ⟨g,off+m,none⟩=some (.string ⟨(l[m]'hm).toArray⟩):=by
 obtain⟨A',c',hv,hl⟩:=h;injection hv with h1 _ _;subst h1;obtain⟨g,off,rfl,hc⟩:=hl m hm;have hg:=World.block_lt_of_cell? W0 ⟨g,_,none⟩ hc;exact⟨g,off,rfl,fun W hb=>⟨yJZ hg hb.size,(World.cell?_of_block (hb.block g hg)).trans hc⟩⟩
theorem BoolRow.spot {W0:World} {A:Option Addr} {k c:Nat} {l:List Bool} (h:BoolRow W0 (.slice A k c) l) (m:Nat) (hm:m<l.length) :
  ∃g off,A=some ⟨g,off,none⟩/\∀W,Below W0.heap.size W0 W->g<W.heap.size/\W.cell? ⟨g,off+m,none⟩=some (.bool (l[m]'hm)):=by
 obtain⟨A',c',hv,hl⟩:=h;injection hv with h1 _ _;subst h1;obtain⟨g,off,rfl,hc⟩:=hl m hm;have hg:=World.block_lt_of_cell? W0 ⟨g,_,none⟩ hc;exact⟨g,off,rfl,fun W hb=>⟨yJZ hg hb.size,(World.cell?_of_block (hb.block g hg)).trans hc⟩⟩
theorem Sx.fields_append:∀(ns:List Lx.Bytes) (es:List Bool) (ps:List Sx.Ty) (n:Lx.Bytes) (e:Bool) (p:Sx.Ty),ns.length=ps.length->es.length=ps.length->
  Sx.fields (ns++[n]) (es++[e]) (ps++[p])=Sx.fields ns es ps++((if e then [[101,109,98,101,100]]else [])++([n]++Sx.typ p++[[59]]))
 | [],[],[],n,e,p,_,_=>by simp[Sx.fields]
 | a::ns,b::es,t::ps,n,e,p,h1,h2=>by rw[yHZ,yHZ,yHZ,Sx.fields,Sx.fields,Sx.fields_append ns es ps n e p (by simpa using h1) (by simpa using h2)];simp[yiZ]
 | [],_,_::_,_,_,_,h1,_=>by simp at h1
 | _::_,_,[],_,_,_,h1,_=>by simp at h1
 | _,[],_::_,_,_,_,_,h2=>by simp at h2
 | _,_::_,[],_,_,_,_,h2=>by simp at h2
theorem Sx.fields_take {ns:List Lx.Bytes} {es:List Bool} {ps:List Sx.Ty} {m:Nat} (h1:ns.length=ps.length) (h2:es.length=ps.length) (hm:m<ps.length) :
  Sx.fields (ns.take (m+1)) (es.take (m+1)) (ps.take (m+1))=Sx.fields (ns.take m) (es.take m) (ps.take m)++((if es[m]'(by omega)then [[101,109,98,101,100]]else [])++([ns[m]'(by omega)]++Sx.typ ps[m]++[[59]])):=by
 rw[ykZ hm,ykZ (show m<ns.length by omega),ykZ (show m<es.length by omega)];exact Sx.fields_append _ _ _ _ _ _ (by simp;omega) (by simp;omega)
theorem Sx.methods_append:∀(ns:List Lx.Bytes) (ps:List Sx.Ty) (n:Lx.Bytes) (p:Sx.Ty),ns.length=ps.length->
  Sx.methods (ns++[n]) (ps++[p])=Sx.methods ns ps++([n]++Sx.signature p++[[59]])
 | [],[],n,p,_=>by simp[Sx.methods]
 | a::ns,t::ps,n,p,h1=>by rw[yHZ,yHZ,Sx.methods,Sx.methods,Sx.methods_append ns ps n p (by simpa using h1)];simp[yiZ]
 | [],_::_,_,_,h1=>by simp at h1
 | _::_,[],_,_,h1=>by simp at h1
theorem Sx.methods_take {ns:List Lx.Bytes} {ps:List Sx.Ty} {m:Nat} (h1:ns.length=ps.length) (hm:m<ps.length) :
  Sx.methods (ns.take (m+1)) (ps.take (m+1))=Sx.methods (ns.take m) (ps.take m)++([ns[m]'(by omega)]++Sx.signature ps[m]++[[59]]):=by
 rw[ykZ hm,ykZ (show m<ns.length by omega)];exact Sx.methods_append _ _ _ _ (by simp;omega)
theorem Sx.le_sum:∀ {l:List Lx.Bytes} {s:Lx.Bytes},s∈l->s.length<=(l.map List.length).sum
 | x::l,s,h=>by
  rw[yPZ,List.sum_cons];rcases yTZ.1 h with rfl | h
  ·omega
  ·have:=Sx.le_sum h;omega
theorem Sx.name_len {t:Sx.Ty} {s:Lx.Bytes} (h:s∈t.names):s.length<=Sx.size t:=by
 have h1:=Sx.size_parts t;have h2:=Sx.le_sum h;omega
theorem zveZ (N:Sx.Names) (hN:Sx.NamesOk N) (W0:World) (b:Nat) (t:Sx.Ty) (ih:∀p∈t.parts,TypOk N W0 b p) (hkd:t.kind=6):TypOk N W0 b t:=by
 intro d v c l w hr ht h hc;obtain⟨An,cn,Ae,ce,Ap,cp,rfl,hnm,hem,hp⟩:=ht.agg;obtain⟨d',rfl,hr',hsh⟩:=Sx.right_parts hr;rw[hkd]at hsh ht ⊢;have J6:=Sx.size_parts t;have U6:c+10<=1000000000:=by omega
 have J9:t.names.length=t.parts.length:=by simp[Sx.shape]at hsh;omega
 have J4:t.embeds.length=t.parts.length:=by simp[Sx.shape]at hsh;omega
 have Jo:=zh (show ∀s∈t.names,N.small s=true from Sx.apart_small (by simp[Sx.shape]at hsh;exact hsh.2));have HT:=zh (show Sx.typ t=[[123]]++Sx.fields t.names t.embeds t.parts++[[125]]by rw[Sx.typ_eq,hkd];simp);have Js:=zh hem;have Hq:=zh J4;have Jg:=zh hnm;have Hy:=zh J9;have Jb:=zh ih;have Jz:=Sx.length_size t.parts;obtain⟨k,hk⟩:=zE (t.parts.length);have U9:(k:Int)<=1000000000:=by omega
 rw[hk]at hp ht ⊢;have HK:=zh hk;have HR:=zh hr';have Jq:=zh J6;have HP:=zh hp;obtain⟨L,hL⟩:=zE (w.heap.size);obtain⟨w2,hw2⟩:=zE (w.alloc (.cells #[.int .i64 6,.string ⟨t.name.toArray⟩,.slice An t.names.length cn,.slice Ae t.embeds.length ce,.slice Ap k cp] 26));have H4:w2.heap[L]? =some (.cells #[.int .i64 6,.string ⟨t.name.toArray⟩,.slice An t.names.length cn,.slice Ae t.embeds.length ce,.slice Ap k cp] 26 (0,0)):=by rw[<-hw2,<-hL];exact ydZ w _
 have hW2:Wrote W0 b c l w2:=by rw[<-hw2];exact h.grown (yeZ w _ none)
 have Jj:=zh (show KeepW w w2 by rw[<-hw2];exact KeepW.alloc w _);have U2:=zh H4;have Jw:=zh hW2;obtain⟨x0,x1,x2,x3,x4⟩:=zcZ H4;have U7:=zaZ H4;have Ua:=hW2.lt;clear ih J9 J4 hk hr hr' ht hp hnm hem J6 hW2 H4 h hsh hkd;go_enter Tryz.func59, Tryz.ntmps59;go_wp2_with (go_at_call 100;refine(put1 (s:=[123]) Jw.o ⟨by simp,by simp⟩ (by omega)).mono ?_;rintro e w3 ⟨rfl,hW3,J3⟩;have H1:=J3 _ _ _ _ U2.o (by decide) (by decide);clear x0 x1 x2 x3 x4;obtain⟨x0,x1,x2,x3,x4⟩:=zcZ H1;have Uc:=zaZ H1;have Jf:=zh hW3;have Jr:=zh (Jj.o.trans J3);have Hf:=zh H1;clear H1 hW3 J3);have H3:=zh (show Wrote W0 b (c+1+10 * Sx.sizeL (t.parts.take 0)) (l++[[123]]++Sx.fields (t.names.take 0) (t.embeds.take 0) (t.parts.take 0)) w3 from(Jf.o.mono (by omega)).cast (by simp[Sx.fields,Sx.methods]));clear x0 x1 x2 x3 x4;go_loopg [63] k (fun i v wr=>∃(m:Nat),i=k-m/\v=.int .i64 (m:Int)/\m<=k/\Wrote W0 b (c+1+10 * Sx.sizeL (t.parts.take m)) (l++[[123]]++Sx.fields (t.names.take m) (t.embeds.take m) (t.parts.take m)) wr/\KeepW w3 wr)
 case atStart=>exact⟨0,rfl,rfl,yxZ _,H3.o,KeepW.refl _⟩
 case round=>
  obtain⟨m,hi,rfl,hm,hW,hkw⟩:=hrel;have HI:=zh hi;have Hs:=zh hW;have m0:(0:Int)<=(m:Int):=(by omega);have H8:=hkw _ _ _ _ Hf.o (by decide) (by decide);have Ji:=zh H8;have Hx:=zh hkw;have Jx:=hW.lt;have U5:=zaZ H8;have hSL:=Sx.sizeL_take_le t.parts (m+1);have hSL0:=Sx.sizeL_take_le t.parts m;have hSZ:1+Sx.sizeL t.parts<=Sx.size t:=(by have:=Jq.o;omega);clear hi hW hkw H3 Jf Hf;by_cases hlt:m<k
  ·have Jp:(m:Int)<(k:Int):=(by omega);have Hm:m<t.parts.length:=(by have:=HK.o;omega);have Ht:m<t.names.length:=(by have:=Hy.o;omega);have Jn:(m:Int)<(t.names.length:Int):=(by omega);have Je:m<t.embeds.length:=(by have:=Hq.o;omega);have U0:(m:Int)<(t.embeds.length:Int):=(by omega);obtain⟨g,off,An1,cn1,Ae1,ce1,Aq,cq,rfl,hty,hc5⟩:=HP.o.spot m Hm;obtain⟨g1,off1,rfl,hsp1⟩:=Jg.o.spot m Ht;obtain⟨g2,off2,rfl,hsp2⟩:=Js.o.spot m Je;have He:=Sx.size_take Hm;have Hj:=Sx.fields_take Hy.o Hq.o Hm;obtain⟨p,hpe⟩:=zE (t.parts[m]'Hm);obtain⟨s,hse⟩:=zE (t.names[m]'Ht);have Hh:p∈t.parts:=(by rw[<-hpe];exact yfZ Hm);have Ha:s∈t.names:=(by rw[<-hse];exact yfZ Ht);have Jc:s.length<=1000000000:=(by have:=Sx.name_len Ha;omega);have J5:=zh (hN.small _ (Jo.o s Ha));rw[hpe]at hc5 hty He Hj;rw[hse]at hsp1 Hj;obtain⟨hg,c0,c1,c2,c3,c4⟩:=hc5 wr Hs.o.below;have Jh:=Sx.size_pos p;have Hg:=zh hty;have H5:=zh Hh;have J8:=zh hsp1;obtain⟨e,hee⟩:=zE (t.embeds[m]'Je);rw[hee]at hsp2 Hj;have Jv:=zh hsp2;have J7:=zh Hj;obtain⟨sp,hsp⟩:=zE (Sx.size p);obtain⟨sm,hsm⟩:=zE (Sx.sizeL (t.parts.take m));rw[hsp,hsm]at He;rw[He]at hSL;rw[hsp]at Jh;have Hn:=zh hsp;have Jd:=zh He;have Jl:=zh hsm;have Hv:c+10+10 * (sm+sp)<=1000000000:=(by omega);obtain⟨L4,hL4⟩:=zE (wr.heap.size);obtain⟨w4,hw4⟩:=zE (wr.alloc (.cells #[.int .i64 p.kind,.string ⟨p.name.toArray⟩,.slice An1 p.names.length cn1,.slice Ae1 p.embeds.length ce1,.slice Aq p.parts.length cq] 26));have H2:w4.heap[L4]? =some (.cells #[.int .i64 p.kind,.string ⟨p.name.toArray⟩,.slice An1 p.names.length cn1,.slice Ae1 p.embeds.length ce1,.slice Aq p.parts.length cq] 26 (0,0)):=(by rw[<-hw4,<-hL4];exact ydZ wr _);have Hb:=zh H2;have Hi:=zh (show Wrote W0 b (c+1+10 * sm) (l++[[123]]++Sx.fields (t.names.take m) (t.embeds.take m) (t.parts.take m)) w4 by rw[<-hw4,<-Jl.o];exact Hs.o.grown (yeZ wr _ none));have Ho:=zh (show KeepW wr w4 by rw[<-hw4];exact KeepW.alloc wr _);have H6:=zh (Ho.o _ _ _ _ Ji.o (by decide) (by decide));have U8:L4<w4.heap.size:=zaZ H2;have Jy:L<w4.heap.size:=zaZ H6.o;have U1:b<w4.heap.size:=Hi.o.lt;clear hty Hj Hh hpe hsp hsm He H2 hse Ha hc5 hsp1 hsp2 hee;obtain⟨x0,x1,x2,x3,x4⟩:=zcZ H6.o;obtain⟨z0,z1⟩:=Jv.o w4 Hi.o.below
   cases e with
   | true=>
    go_wp2_with (go_at_call 100;refine(put1 (s:=[101,109,98,101,100]) Hi.o ⟨by simp,by simp⟩ (by omega)).mono ?_;rintro e w5 ⟨rfl,hW5,Hd⟩;have Hk:=zh (Hd _ _ _ _ H6.o (by decide) (by decide));have H9:=zh (Hd _ _ _ _ Hb.o (by decide) (by decide));clear x0 x1 x2 x3 x4 z0 z1;have Ja:=zh hW5;have Jk:=zh Hd;have Ub:=zaZ H9.o;have Ju:=zaZ Hk.o;have Jt:=hW5.lt;clear hW5 Hd)
    obtain⟨x0,x1,x2,x3,x4⟩:=zcZ Hk.o;obtain⟨y0,y1,y2,y3,y4⟩:=zcZ H9.o;obtain⟨q0,q1⟩:=J8.o w5 Ja.o.below;have Hr:=zh Ja.o.drew
    go_region_with (go_at_call 100;refine(put1 (s:=s) Hr.o ⟨J5.o,Jc⟩ (by omega)).mono ?_;rintro e w6 ⟨rfl,hW6,Hc⟩)
    all_goals
     have H0:=Hc _ _ _ _ H9.o (by decide) (by decide);clear x0 x1 x2 x3 x4 y0 y1 y2 y3 y4 q0 q1;obtain⟨y0,y1,y2,y3,y4⟩:=zcZ H0;have U3:=zaZ H0;have J1:=zh hW6;have Hp:=zh Hc;have Hw:=hW6.lt;clear H0 hW6 Hc;go_wp2_with (first
      | (go_at_call 59;refine(Jb.o p H5.o d' _ _ _ w6 (HR.o p H5.o) Hg.o J1.o (by rw[Hn.o];omega)).mono ?_;rintro e w7 ⟨rfl,hW7,Hl⟩;rw[Hn.o]at hW7;have Hz:=zh hW7;have Hu:=zh Hl;have J0:=hW7.lt;clear hW7 Hl)
      | (go_at_call 100;refine(put1 (s:=[59]) Hz.o ⟨by simp,by simp⟩ (by omega)).mono ?_;rintro e w8 ⟨rfl,hW8,J2⟩))
     go_roundg (k-(m+1))
     case measure=>have:=HI.o;omega
     case rel=>
      refine⟨m+1,rfl,by simp,hlt,(hW8.mono ?_).cast ?_,((((Hx.o.trans Ho.o).trans Jk.o).trans Hp.o).trans Hu.o).trans J2⟩
      ·rw[Jd.o];omega
      ·rw[J7.o];simp[yiZ]
   | false=>
    go_wp2_with fail
    clear x0 x1 x2 x3 x4 z0 z1;obtain⟨x0,x1,x2,x3,x4⟩:=zcZ H6.o;obtain⟨y0,y1,y2,y3,y4⟩:=zcZ Hb.o;obtain⟨q0,q1⟩:=J8.o w4 Hi.o.below;have Hr:=zh Hi.o.drew
    go_region_with (go_at_call 100;refine(put1 (s:=s) Hr.o ⟨J5.o,Jc⟩ (by omega)).mono ?_;rintro e w6 ⟨rfl,hW6,Hc⟩)
    all_goals
     have H0:=Hc _ _ _ _ Hb.o (by decide) (by decide);clear x0 x1 x2 x3 x4 y0 y1 y2 y3 y4 q0 q1;obtain⟨y0,y1,y2,y3,y4⟩:=zcZ H0;have U3:=zaZ H0;have J1:=zh hW6;have Hp:=zh Hc;have Hw:=hW6.lt;clear H0 hW6 Hc;go_wp2_with (first
      | (go_at_call 59;refine(Jb.o p H5.o d' _ _ _ w6 (HR.o p H5.o) Hg.o J1.o (by rw[Hn.o];omega)).mono ?_;rintro e w7 ⟨rfl,hW7,Hl⟩;rw[Hn.o]at hW7;have Hz:=zh hW7;have Hu:=zh Hl;have J0:=hW7.lt;clear hW7 Hl)
      | (go_at_call 100;refine(put1 (s:=[59]) Hz.o ⟨by simp,by simp⟩ (by omega)).mono ?_;rintro e w8 ⟨rfl,hW8,J2⟩))
     go_roundg (k-(m+1))
     case measure=>have:=HI.o;omega
     case rel=>
      refine⟨m+1,rfl,by simp,hlt,(hW8.mono ?_).cast ?_,((((Hx.o.trans Ho.o)).trans Hp.o).trans Hu.o).trans J2⟩
      ·rw[Jd.o];omega
      ·rw[J7.o];simp[yiZ]
  ·have Jp:¬(m:Int)<(k:Int):=(by omega);have H7:Sx.fields (t.names.take m) (t.embeds.take m) (t.parts.take m)=Sx.fields t.names t.embeds t.parts:=(by rw[yjZ (show t.names.length<=m by have:=HK.o;have:=Hy.o;omega),yjZ (show t.parts.length<=m by have:=HK.o;omega),yjZ (show t.embeds.length<=m by have:=HK.o;have:=Hq.o;omega)]);have Jm:=zh H7;have Hv:c+10+10 * Sx.sizeL (t.parts.take m)<=1000000000:=(by omega);clear H7;go_wp2_with (go_at_call 100;refine(put1 (s:=[125]) Hs.o ⟨by simp,by simp⟩ (by omega)).mono ?_;rintro e w5 ⟨rfl,hW5,Hd⟩);go_end0;refine⟨rfl,(hW5.mono ?_).cast ?_,(Jr.o.trans Hx.o).trans Hd⟩
   ·omega
   ·rw[HT.o,Jm.o];simp[yiZ]
theorem zvfZ (N:Sx.Names) (hN:Sx.NamesOk N) (W0:World) (b:Nat) (t:Sx.Ty) (ih:∀p∈t.parts,SigOk N W0 b p) (hkd:t.kind=8):TypOk N W0 b t:=by
 intro d v c l w hr ht h hc;obtain⟨An,cn,Ae,ce,Ap,cp,rfl,hnm,hem,hp⟩:=ht.agg;obtain⟨d',rfl,hr',hsh⟩:=Sx.right_parts hr;rw[hkd]at hsh ht ⊢;have Hq:=Sx.size_parts t;have Jv:c+10<=1000000000:=by omega
 have Hr:t.names.length=t.parts.length:=by simp[Sx.shape]at hsh;omega
 have J8:=zh (show ∀s∈t.names,N.small s=true from Sx.apart_small (by simp[Sx.shape]at hsh;exact hsh.2.2));have J2:=zh (show ∀p∈t.parts,p.kind=7 by simp[Sx.shape]at hsh;exact hsh.1);have HT:=zh (show Sx.typ t=[[105,110,116,101,114,102,97,99,101],[123]]++Sx.methods t.names t.parts++[[125]]by rw[Sx.typ_eq,hkd];simp);have Hw:=zh hnm;have Hl:=zh Hr;have Jf:=zh ih;have Jm:=Sx.length_size t.parts;obtain⟨k,hk⟩:=zE (t.parts.length);have Jy:(k:Int)<=1000000000:=by omega
 rw[hk]at hp ht ⊢;have HK:=zh hk;have HR:=zh hr';have Jc:=zh Hq;have HP:=zh hp;obtain⟨L,hL⟩:=zE (w.heap.size);obtain⟨w2,hw2⟩:=zE (w.alloc (.cells #[.int .i64 8,.string ⟨t.name.toArray⟩,.slice An t.names.length cn,.slice Ae t.embeds.length ce,.slice Ap k cp] 26));have H4:w2.heap[L]? =some (.cells #[.int .i64 8,.string ⟨t.name.toArray⟩,.slice An t.names.length cn,.slice Ae t.embeds.length ce,.slice Ap k cp] 26 (0,0)):=by rw[<-hw2,<-hL];exact ydZ w _
 have hW2:Wrote W0 b c l w2:=by rw[<-hw2];exact h.grown (yeZ w _ none)
 have J0:=zh (show KeepW w w2 by rw[<-hw2];exact KeepW.alloc w _);have Js:=zh H4;have Jg:=zh hW2;obtain⟨x0,x1,x2,x3,x4⟩:=zcZ H4;have Jw:=zaZ H4;have Jz:=hW2.lt;clear ih Hr hk hr hr' ht hp hnm hem Hq hW2 H4 h hsh hkd;go_enter Tryz.func59, Tryz.ntmps59;go_wp2_with (go_at_call 100;refine(put2 (s:=[105,110,116,101,114,102,97,99,101]) (t:=[123]) Jg.o ⟨by simp,by simp⟩ ⟨by simp,by simp⟩ (by omega)).mono ?_;rintro e w3 ⟨rfl,hW3,Hn⟩;have H0:=Hn _ _ _ _ Js.o (by decide) (by decide);clear x0 x1 x2 x3 x4;obtain⟨x0,x1,x2,x3,x4⟩:=zcZ H0;have U0:=zaZ H0;have Hv:=zh hW3;have Jd:=zh (J0.o.trans Hn);have Ha:=zh H0;clear H0 hW3 Hn);have H3:=zh (show Wrote W0 b (c+2+10 * Sx.sizeL (t.parts.take 0)) (l++[[105,110,116,101,114,102,97,99,101],[123]]++Sx.methods (t.names.take 0) (t.parts.take 0)) w3 from(Hv.o.mono (by omega)).cast (by simp[Sx.fields,Sx.methods]));clear x0 x1 x2 x3 x4;go_loopg [122] k (fun i v wr=>∃(m:Nat),i=k-m/\v=.int .i64 (m:Int)/\m<=k/\Wrote W0 b (c+2+10 * Sx.sizeL (t.parts.take m)) (l++[[105,110,116,101,114,102,97,99,101],[123]]++Sx.methods (t.names.take m) (t.parts.take m)) wr/\KeepW w3 wr)
 case atStart=>exact⟨0,rfl,rfl,yxZ _,H3.o,KeepW.refl _⟩
 case round=>
  obtain⟨m,hi,rfl,hm,hW,hkw⟩:=hrel;have HI:=zh hi;have Hh:=zh hW;have m0:(0:Int)<=(m:Int):=(by omega);have H6:=hkw _ _ _ _ Ha.o (by decide) (by decide);have Hy:=zh H6;have Ht:=zh hkw;have Jh:=hW.lt;have Ju:=zaZ H6;have hSL:=Sx.sizeL_take_le t.parts (m+1);have hSL0:=Sx.sizeL_take_le t.parts m;have hSZ:1+Sx.sizeL t.parts<=Sx.size t:=(by have:=Jc.o;omega);clear hi hW hkw H3 Hv Ha;by_cases hlt:m<k
  ·have Jb:(m:Int)<(k:Int):=(by omega);have Hc:m<t.parts.length:=(by have:=HK.o;omega);have Hj:m<t.names.length:=(by have:=Hl.o;omega);have J7:(m:Int)<(t.names.length:Int):=(by omega);obtain⟨g,off,An1,cn1,Ae1,ce1,Aq,cq,rfl,hty,hc5⟩:=HP.o.spot m Hc;obtain⟨g1,off1,rfl,hsp1⟩:=Hw.o.spot m Hj;have H9:=Sx.size_take Hc;have Hf:=Sx.methods_take Hl.o Hc;obtain⟨p,hpe⟩:=zE (t.parts[m]'Hc);obtain⟨s,hse⟩:=zE (t.names[m]'Hj);have Hb:p∈t.parts:=(by rw[<-hpe];exact yfZ Hc);have H7:s∈t.names:=(by rw[<-hse];exact yfZ Hj);have Jj:s.length<=1000000000:=(by have:=Sx.name_len H7;omega);have J3:=zh (hN.small _ (J8.o s H7));rw[hpe]at hc5 hty H9 Hf;rw[hse]at hsp1 Hf;obtain⟨hg,c0,c1,c2,c3,c4⟩:=hc5 wr Hh.o.below;have Hx:=Sx.size_pos p;have Hg:=zh hty;have H8:=zh Hb;have J9:=zh hsp1;have J6:=zh Hf;obtain⟨sp,hsp⟩:=zE (Sx.size p);obtain⟨sm,hsm⟩:=zE (Sx.sizeL (t.parts.take m));rw[hsp,hsm]at H9;rw[H9]at hSL;rw[hsp]at Hx;have Ho:=zh hsp;have Jn:=zh H9;have J4:=zh hsm;have Hk:c+10+10 * (sm+sp)<=1000000000:=(by omega);obtain⟨L4,hL4⟩:=zE (wr.heap.size);obtain⟨w4,hw4⟩:=zE (wr.alloc (.cells #[.int .i64 p.kind,.string ⟨p.name.toArray⟩,.slice An1 p.names.length cn1,.slice Ae1 p.embeds.length ce1,.slice Aq p.parts.length cq] 26));have H2:w4.heap[L4]? =some (.cells #[.int .i64 p.kind,.string ⟨p.name.toArray⟩,.slice An1 p.names.length cn1,.slice Ae1 p.embeds.length ce1,.slice Aq p.parts.length cq] 26 (0,0)):=(by rw[<-hw4,<-hL4];exact ydZ wr _);have Hd:=zh H2;have Hi:=zh (show Wrote W0 b (c+2+10 * sm) (l++[[105,110,116,101,114,102,97,99,101],[123]]++Sx.methods (t.names.take m) (t.parts.take m)) w4 by rw[<-hw4,<-J4.o];exact Hh.o.grown (yeZ wr _ none));have Hp:=zh (show KeepW wr w4 by rw[<-hw4];exact KeepW.alloc wr _);have He:=zh (Hp.o _ _ _ _ Hy.o (by decide) (by decide));have Jx:L4<w4.heap.size:=zaZ H2;have Jl:L<w4.heap.size:=zaZ He.o;have Jo:b<w4.heap.size:=Hi.o.lt;clear hty Hf Hb hpe hsp hsm H9 H2 hse H7 hc5 hsp1;have Hs:=zh (show(∀q∈p.parts,Sx.rightT N (d'-1) q=true)/\p.parts≠[]by
    obtain⟨e',he',hq,hs'⟩:=Sx.right_parts (HR.o p H8.o);refine⟨fun q hq'=>by rw[he'];exact hq q hq',?_⟩;rw[J2.o p H8.o]at hs';rintro e;simp[Sx.shape,e]at hs')
   go_wp2_with fail
   obtain⟨x0,x1,x2,x3,x4⟩:=zcZ He.o;obtain⟨y0,y1,y2,y3,y4⟩:=zcZ Hd.o;obtain⟨q0,q1⟩:=J9.o w4 Hi.o.below;have J1:=zh Hi.o.drew
   go_region_with (go_at_call 100;refine(put1 (s:=s) J1.o ⟨J3.o,Jj⟩ (by omega)).mono ?_;rintro e w6 ⟨rfl,hW6,Hm⟩)
   all_goals
    have H1:=Hm _ _ _ _ Hd.o (by decide) (by decide);clear x0 x1 x2 x3 x4 y0 y1 y2 y3 y4 q0 q1;obtain⟨y0,y1,y2,y3,y4⟩:=zcZ H1;have U1:=zaZ H1;have Jp:=zh hW6;have Hz:=zh Hm;have Je:=hW6.lt;clear H1 hW6 Hm;go_wp2_with (first
     | (go_at_call 109;refine(Jf.o p H8.o _ _ _ _ w6 Hs.o.1 Hs.o.2 Hg.o Jp.o (by rw[Ho.o];omega)).mono ?_;rintro e w7 ⟨rfl,hW7,Hu⟩;rw[Ho.o]at hW7;have Ji:=zh hW7;have Ja:=zh Hu;have Jk:=hW7.lt;clear hW7 Hu)
     | (go_at_call 100;refine(put1 (s:=[59]) Ji.o ⟨by simp,by simp⟩ (by omega)).mono ?_;rintro e w8 ⟨rfl,hW8,Jr⟩))
    go_roundg (k-(m+1))
    case measure=>have:=HI.o;omega
    case rel=>
     refine⟨m+1,rfl,by simp,hlt,(hW8.mono ?_).cast ?_,((((Ht.o.trans Hp.o)).trans Hz.o).trans Ja.o).trans Jr⟩
     ·rw[Jn.o];omega
     ·rw[J6.o];simp[yiZ]
  ·have Jb:¬(m:Int)<(k:Int):=(by omega);have H5:Sx.methods (t.names.take m) (t.parts.take m)=Sx.methods t.names t.parts:=(by rw[yjZ (show t.names.length<=m by have:=HK.o;have:=Hl.o;omega),yjZ (show t.parts.length<=m by have:=HK.o;omega)]);have J5:=zh H5;have Hk:c+10+10 * Sx.sizeL (t.parts.take m)<=1000000000:=(by omega);clear H5;go_wp2_with (go_at_call 100;refine(put1 (s:=[125]) Hh.o ⟨by simp,by simp⟩ (by omega)).mono ?_;rintro e w5 ⟨rfl,hW5,Jq⟩);go_end0;refine⟨rfl,(hW5.mono ?_).cast ?_,(Jd.o.trans Ht.o).trans Jq⟩
   ·omega
   ·rw[HT.o,J5.o];simp[yiZ]
end Go.Proofs.YtdncljdfmdgdaaaGreatDoor
namespace Go.Proofs.YtdncljdfmdgdaaaGreatDoor
open Go.RowKit Go.Shelf
mutual
def Sx.fits:Sx.Ty->Prop
 | .mk _ n ns es ps=>n.length<=140737488351232/\ns.length<=140737488351232/\es.length<=140737488351232/\ps.length<=140737488351232/\(∀s∈ns,s.length<=140737488351232)/\Sx.fitsL ps
def Sx.fitsL:List Sx.Ty->Prop
 | []=>True
 | t::l=>Sx.fits t/\Sx.fitsL l
end
theorem Sx.fitsL_mem:∀ {l:List Sx.Ty} {t:Sx.Ty},Sx.fitsL l->t∈l->Sx.fits t
 | u::l,t,h,hm=>by
  rw[Sx.fitsL]at h;rcases yTZ.1 hm with rfl | hm
  ·exact h.1
  ·exact Sx.fitsL_mem h.2 hm
theorem Sx.fits_parts {t:Sx.Ty} (h:Sx.fits t):t.name.length<=140737488351232/\t.names.length<=140737488351232/\t.embeds.length<=140737488351232/\t.parts.length<=140737488351232/\(∀s∈t.names,s.length<=140737488351232)/\∀p∈t.parts,Sx.fits p:=by
 cases t;rw[Sx.fits]at h;obtain⟨a,b,c,d,e,f⟩:=h;exact⟨a,b,c,d,e,fun p hp=>Sx.fitsL_mem f hp⟩
theorem Sx.sum_take {ns:List Lx.Bytes} {m:Nat} (h:m<ns.length):((ns.take (m+1)).map List.length).sum=((ns.take m).map List.length).sum+(ns[m]).length:=by
 rw[ykZ h,List.map_append,List.sum_append];simp
def SizeIs (most sz:Nat) (W:World) (e:Ending) (W':World):Prop:=∃r:Nat,e=.returned (.int .i64 (r:Nat))/\r<=most+500000000000000/\(r<most->r=sz)/\Below W.heap.size W W'
theorem zljZ:∀(n:Nat) (t:Sx.Ty),Sx.size t<=n->Sx.fits t->∀(most:Nat) (v:Value) (W:World),1<=most->most<=1000000->IsTy W v t->
  Calls Tryz.prog 25 #[v,.int .i64 (most:Nat)] W (SizeIs most (Sx.size t) W):=by
 intro n
 induction n with
 | zero=>intro t h;have:=Sx.size_pos t;omega
 | succ n ih=>
  intro t hn hf most v W J3 J5 ht;obtain⟨f1,f2,f3,f4,f5,f6⟩:=Sx.fits_parts hf;obtain⟨An,cn,Ae,ce,Ap,cp,rfl,hnm,hem,hp⟩:=ht.agg;have He:=Sx.size_parts t;obtain⟨nl,hnl⟩:=zE (t.names.length);obtain⟨el,hel⟩:=zE (t.embeds.length);obtain⟨k,hk⟩:=zE (t.parts.length);obtain⟨ll,hll⟩:=zE (t.name.length);rw[hnl,hel,hll]at He;rw[hnl]at f2 hnm;rw[hel]at f3;rw[hk]at f4 hp;rw[hll]at f1;rw[hnl,hel,hk];have i1:(0:Int)<=(ll:Int)/\(ll:Int)<=140737488351232:=(by omega);have i2:(0:Int)<=(nl:Int)/\(nl:Int)<=140737488351232:=(by omega);have i3:(0:Int)<=(el:Int)/\(el:Int)<=140737488351232:=(by omega);have i4:(0:Int)<=(k:Int)/\(k:Int)<=140737488351232:=(by omega);have i5:(1:Int)<=(most:Int)/\(most:Int)<=1000000:=(by omega);obtain⟨i1a,i1b⟩:=i1;obtain⟨i2a,i2b⟩:=i2;obtain⟨i3a,i3b⟩:=i3;obtain⟨i4a,i4b⟩:=i4;obtain⟨i5a,i5b⟩:=i5;have J1:(⟨t.name.toArray⟩:ByteArray).size=ll:=(by simp[ByteArray.size,hll]);have Hr:=zh ih;have Hi:=zh He;have HN:=zh hn;have Hs:=zh hnm;have HP:=zh hp;have Hw:=zh f5;have J0:=zh f6;have Hn:=zh hnl;have HK:=zh hk;obtain⟨L,hL⟩:=zE (W.heap.size);obtain⟨w2,hw2⟩:=zE (W.alloc (.cells #[.int .i64 t.kind,.string ⟨t.name.toArray⟩,.slice An nl cn,.slice Ae el ce,.slice Ap k cp] 26));have H1:w2.heap[L]? =some (.cells #[.int .i64 t.kind,.string ⟨t.name.toArray⟩,.slice An nl cn,.slice Ae el ce,.slice Ap k cp] 26 (0,0)):=(by rw[<-hw2,<-hL];exact ydZ W _);have Hl:Below L W w2:=(by rw[<-hw2,<-hL];exact zeZ (yeZ W _ none));obtain⟨x0,x1,x2,x3,x4⟩:=zcZ H1;have J4:=zaZ H1;have Hm:=zh H1;have Hg:=zh Hl;have HL:=zh hL;clear ih He hn hnm hem hp f5 f6 hnl hel hk hll ht hf H1 Hl;go_enter Tryz.func25, Tryz.ntmps25
  go_upto_block 0 with(fail)
  obtain⟨bs,hbs⟩:∃b:Int,1+(ll:Int)+(nl:Int)+(el:Int)=b:=⟨_,rfl⟩;have Hx:=zh hbs;rw[hbs];clear hbs
  go_cut [5] (fun v wx=>wx=w2/\∃r:Nat,v=.int .i64 (r:Nat)/\r<=most+500000000000000/\(r<most->r=1+ll+nl+el+(t.names.map List.length).sum))
  case first=>
   go_wp2_with fail
   go_loopg [5,6] nl (fun i v u wr=>∃(m r:Nat),i=nl-m/\v=.int .i64 (r:Nat)/\u=.int .i64 (m:Nat)/\m<=nl/\r<=most+500000000000000/\(r<most->r=1+ll+nl+el+((t.names.take m).map List.length).sum)/\wr=w2)
   case atStart=>exact⟨0,1+ll+nl+el,rfl,by have:=Hx.o;congr 1;omega,rfl,yxZ _,by omega,by simp,rfl⟩
   case round=>
    obtain⟨m,r,hi,rfl,rfl,hm,hr1,hr2,rfl⟩:=hrel;have HI:=zh hi;have H6:=zh hr2;have m0:(0:Int)<=(m:Int):=(by omega);have r0:(0:Int)<=(r:Int):=(by omega);have r1:(r:Int)<=500000001000000:=(by omega);clear hi hr2;by_cases hlt:m<nl
    ·have Hb:(m:Int)<(nl:Int):=(by omega);by_cases hrm:r<most
     ·have H8:(r:Int)<(most:Int):=(by omega);have H5:m<t.names.length:=(by have:=Hn.o;omega);obtain⟨g1,off1,rfl,hsp1⟩:=Hs.o.spot m H5;obtain⟨hg1,q1⟩:=hsp1 wr (by rw[HL.o];exact Hg.o);have H2:=Sx.sum_take H5;have Ho:=Hw.o _ (yfZ H5);obtain⟨s,hse⟩:=zE (t.names[m]'H5);rw[hse]at q1 H2 Ho;obtain⟨sl,hsl⟩:=zE (s.length);have J2:(⟨s.toArray⟩:ByteArray).size=sl:=(by simp[ByteArray.size,hsl]);rw[hsl]at H2 Ho;have s0:(0:Int)<=(sl:Int):=(by omega);have s1:(sl:Int)<=140737488351232:=(by omega);have H7:=zh H2;have Hq:=zh (H6.o hrm);clear H2 hse hsl hsp1;go_wp2_with fail;go_roundg (nl-(m+1))
      case measure=>have:=HI.o;omega
      case rel=>exact⟨m+1,r+sl,rfl,by simp,by simp,hlt,by omega,fun _=>by rw[H7.o,Hq.o];omega,rfl⟩
     ·have H8:decide ((r:Int)<(most:Int))=false:=(by rw[yvZ];omega);have Ha:¬(r:Int)<(most:Int):=(by omega);go_wp2_with fail
      go_meet
      exact⟨rfl,r,rfl,hr1,fun h=>absurd h hrm⟩
    ·have Hb:decide ((m:Int)<(nl:Int))=false:=(by rw[yvZ];omega);have Hf:¬(m:Int)<(nl:Int):=(by omega);have H0:=yjZ (show t.names.length<=m by have:=Hn.o;omega);have H9:=zh H0;clear H0;go_wp2_with fail
     go_meet
     exact⟨rfl,r,rfl,hr1,fun h=>by rw[H6.o h,H9.o]⟩
  case rest=>
   obtain⟨rfl,r,rfl,hr1,hr2⟩:=hcut;have H6:=zh hr2;have r0:(0:Int)<=(r:Int):=(by omega);have r1:(r:Int)<=500000001000000:=(by omega);clear hr2;go_wp2_with fail;clear x0 x1 x2 x3 x4;go_loopg [5,7] k (fun i v u wr=>∃(m r:Nat),i=k-m/\v=.int .i64 (r:Nat)/\u=.int .i64 (m:Nat)/\m<=k/\r<=most+500000000000000/\(r<most->r=1+ll+nl+el+(t.names.map List.length).sum+Sx.sizeL (t.parts.take m))/\Below L W wr/\wr.heap[L]? =wc.heap[L]?)
   case atStart=>exact⟨0,r,rfl,rfl,rfl,yxZ _,hr1,by have:=H6.o;simpa[Sx.sizeL]using this,Hg.o,rfl⟩
   case round=>
    obtain⟨m,q,hi,rfl,rfl,hm,hq1,hq2,hwr,hbr⟩:=hrel;rw[Hm.o]at hbr;obtain⟨x0,x1,x2,x3,x4⟩:=zcZ hbr;have Hu:=zaZ hbr;have hLs:L<=wr.heap.size:=(by omega);have HI:=zh hi;have Hp:=zh hq2;have H4:=zh hwr;have Ht:=zh hbr;have m0:(0:Int)<=(m:Int):=(by omega);have q0:(0:Int)<=(q:Int):=(by omega);have q1:(q:Int)<=500000001000000:=(by omega);clear hi hq2 hwr hbr;by_cases hlt:m<k
    ·have Hb:(m:Int)<(k:Int):=(by omega);by_cases hrm:q<most
     ·have H8:(q:Int)<(most:Int):=(by omega);have H3:m<t.parts.length:=(by have:=HK.o;omega);obtain⟨g,off,An1,cn1,Ae1,ce1,Aq,cq,rfl,hty,hc5⟩:=HP.o.spot m H3;rw[HL.o]at hc5;obtain⟨hg,c0,c1,c2,c3,c4⟩:=hc5 wr H4.o;have H2:=Sx.size_take H3;have Hc:=J0.o _ (yfZ H3);have Hh:=Sx.size_mem (yfZ H3);obtain⟨p,hpe⟩:=zE (t.parts[m]'H3);rw[hpe]at c0 c1 c2 c3 c4 hty H2 Hc Hh;obtain⟨d,hd⟩:∃d:Int,(most:Int)-(q:Int)=d:=⟨_,rfl⟩;have d0:1<=d:=(by omega);have d1:d<=1000000:=(by omega);have Hd:=Hr.o p (by have:=HN.o;have:=Hi.o;omega) Hc (most-q) _ wr (by omega) (by omega) (IsTy.below (by rw[HL.o];exact H4.o) _ _ hty);rw[show((most-q:Nat):Int)=d by omega]at Hd;have Hz:=zh Hd;have H7:=zh H2;have Hv:=zh (Hp.o hrm);clear Hd H2 Hc Hh hpe hty hc5;go_wp2_with fail;refine Hz.o.mono ?_;rintro e w5 ⟨z,rfl,J6,Hk,Hj⟩;have z0:(0:Int)<=(z:Int):=(by omega);have J7:z+q<=most+500000000000000:=(by omega);have z1:(z:Int)<=500000001000000:=(by omega);have z2:(q:Int)+(z:Int)<=500000001000000:=(by omega);have Hy:=zh Hk;clear Hk;go_wp2_with fail;go_roundg (k-(m+1))
      case measure=>have:=HI.o;omega
      case rel=>
       refine⟨m+1,q+z,rfl,by simp,by simp,hlt,by omega,fun hlz=>?_,H4.o.trans (Hj.mono hLs),?_⟩
       ·rw[H7.o,Hy.o (by omega),Hv.o];omega
       ·rw[Hm.o,Hj.block L Hu,Ht.o]
     ·have H8:decide ((q:Int)<(most:Int))=false:=(by rw[yvZ];omega);have Ha:¬(q:Int)<(most:Int):=(by omega);go_wp2_with fail;go_ret;exact⟨q,rfl,hq1,fun h=>absurd h hrm,by rw[HL.o];exact H4.o⟩
    ·have Hb:decide ((m:Int)<(k:Int))=false:=(by rw[yvZ];omega);have Hf:¬(m:Int)<(k:Int):=(by omega);have H0:=yjZ (show t.parts.length<=m by have:=HK.o;omega);have H9:=zh H0;clear H0;go_wp2_with fail;go_ret;refine⟨q,rfl,hq1,fun h=>?_,by rw[HL.o];exact H4.o⟩;have:=Hp.o h;rw[H9.o]at this;rw[this,Hi.o]
end Go.Proofs.YtdncljdfmdgdaaaGreatDoor
namespace Go.Proofs.YtdncljdfmdgdaaaGreatDoor
open Go.ChangeShapes Go.WideShapes Go.ChangeAt Go.RowKit
def Fit {H:Type} (P:Program) (t:TypeId) (d:DataW H):Prop:=∀n∈d.weights P t,n<=reachBytes
theorem Fit.each {H:Type} {P:Program} : ∀ {ts:List TypeId} {ds:List (DataW H)} {i:Nat} {t:TypeId} {d:DataW H},(∀n∈DataW.weightsEach P ts ds,n<=reachBytes)->ts[i]? =some t->ds[i]? =some d->Fit P t d
 | [],ds,i,t,d,h,h1,h2=>by simp at h1
 | t::ts,[],i,u,d,h,h1,h2=>by simp at h2
 | t::ts,d::ds,0,u,e,h,h1,h2=>by simp at h1 h2;subst h1 h2;rw[DataW.weightsEach]at h;exact fun n hn=>h n (List.mem_append_left _ hn)
 | t::ts,d::ds,i+1,u,e,h,h1,h2=>by rw[DataW.weightsEach]at h;exact Fit.each (fun n hn=>h n (List.mem_append_right _ hn)) (by simpa using h1) (by simpa using h2)
theorem Fit.all {H:Type} {P:Program} {t:TypeId} : ∀ {ds:List (DataW H)} {i:Nat} {d:DataW H},(∀n∈DataW.weightsAll P t ds,n<=reachBytes)->ds[i]? =some d->Fit P t d
 | [],i,d,h,h2=>by simp at h2
 | d::ds,0,e,h,h2=>by simp at h2;subst h2;rw[DataW.weightsAll]at h;exact fun n hn=>h n (List.mem_append_left _ hn)
 | d::ds,i+1,e,h,h2=>by rw[DataW.weightsAll]at h;exact Fit.all (fun n hn=>h n (List.mem_append_right _ hn)) (by simpa using h2)
section
variable {H:Type} {enc:TypeId×Value->H} {P:Program} {W:World} {sp:Nat->Bool} {held:Bool}
theorem ztZ {t ty:TypeId} {off:Nat} (i:Nat) {fuel:Nat} {cs:List Value} {x:DataW H×List MemPlace} (hu:P.underlying t=some (.struct (P.fieldsOf t))) (hi:(P.fieldsOf t)[i]?.map (fun f=>(f.type,f.offset))=some (ty,off))
  (h:DataW.trod enc P W 0 sp held fuel t cs=some x) (hf:Fit P t x.1) :
  ∃n y,n<fuel/\DataW.trod enc P W 0 sp held n ty ((cs.drop off).take (P.cellsOf ty))=some y/\Fit P ty y.1:=by
 obtain⟨xs,n,rfl,rfl,hl,hlen,hfs⟩:=DataW.trod_struct hu h;obtain⟨f,hfi,he⟩:=yibZ.1 hi;injection he with e1 e2;have h1:=hfs i f hfi;rw[e1,e2]at h1;have H0:i<xs.length:=by rw[hlen];exact(Array.getElem?_eq_some_iff.1 hfi).1
 rw[List.getElem?_eq_getElem H0]at h1;refine⟨n,_,Nat.lt_succ_self n,h1,?_⟩;unfold Fit at hf;simp only[DataW.weights,hu]at hf;exact Fit.each (i:=i) hf (by rw[List.getElem?_map,Array.getElem?_toList,hfi,<-e1];rfl) (by rw[List.getElem?_map,List.getElem?_eq_getElem H0];rfl)
theorem zeiZ {t:TypeId} {fuel:Nat} {cs:List Value} {x:DataW H×List MemPlace} (hu:P.underlying t=some (.struct (P.fieldsOf t))) (h:DataW.trod enc P W 0 sp held fuel t cs=some x):cs.length=P.cellsOf t:=by
 obtain⟨xs,n,rfl,rfl,hl,hlen,hfs⟩:=DataW.trod_struct hu h;exact hl
theorem zjrZ {a:Addr} {n:Nat} {cs:List Value} (h:W.cells? 0 a n=some cs):cs.length=n/\∀j,j<n->W.cell? (a.add j)=cs[j]? :=by
 unfold World.cells? at h;rw[if_pos (yxZ _)]at h;refine⟨by simpa using mapM_some_length h,fun j hj=>mapM_some_get h j j (by simp[hj])⟩
theorem zdwZ {t e:TypeId} {c fuel:Nat} {v:Value} {x:DataW H×List MemPlace} (hu:P.underlying t=some (.slice e)) (hc:P.cellsOf e=c) (hc1:0<c) (hb:1<=P.bytesOf e)
  (h:DataW.trod enc P W 0 sp held fuel t [v]=some x) (hf:Fit P t x.1) :
  ∃a len cap,v=.slice a len cap/\len<=cap/\len<=reachBytes/\∀i,i<len->∃g off cs n y,a=some ⟨g,off,none⟩/\n<fuel/\cs.length=c/\(∀j,j<c->W.cell? ⟨g,off+i * c+j,none⟩=cs[j]?)/\
   DataW.trod enc P W 0 sp held n e cs=some y/\Fit P e y.1:=by
 rcases DataW.trod_slice hu h with⟨hcs,_⟩ | ⟨a,len',cap',elems,rest,n,rfl,hcs,rfl,_,hlc,hcm,hlen,hel,_⟩
 ·injection hcs with hcs _;exact⟨none,0,0,hcs,ybZ _,yxZ _,fun i hi=>by omega⟩
 ·injection hcs with hcs _;subst hcs;unfold Fit at hf;simp only[DataW.weights,hu]at hf;refine⟨some a,len',cap',rfl,hlc,?_,fun i hi=>?_⟩
  ·have:=hf _ (ysZ);simp only[List.length_map]at this;have h2:=Nat.le_mul_of_pos_right (elems.length+rest.length) hb;omega
  ·have he:=hel i hi;rw[List.getElem?_eq_getElem (by omega)]at he;obtain⟨cs,hcc,ht⟩:=Option.bind_eq_some_iff.1 he;rw[hc]at hcc;obtain⟨hl,hg⟩:=zjrZ hcc;have H1:=hel 0 (by omega);rw[List.getElem?_eq_getElem (show 0<elems.length by omega)]at H1;obtain⟨cs0,hcc0,-⟩:=Option.bind_eq_some_iff.1 H1;rw[hc]at hcc0;obtain⟨hl0,hg0⟩:=zjrZ hcc0;obtain⟨b,off,spot⟩:=a;have h0:=hg0 0 hc1;rw[List.getElem?_eq_getElem (show 0<cs0.length by omega)]at h0;have H0:spot=none:=(by simpa[Addr.add]using World.cell?_spot h0);subst H0;refine⟨b,off,cs,n,_,rfl,Nat.lt_succ_self n,hl,fun j hj=>?_,ht,?_⟩
   ·have:=hg j hj;rw[zclZ,zclZ]at this;exact this
   ·exact Fit.all (i:=i) (fun m hm=>hf m (ywZ _ (List.mem_append_left _ hm))) (by rw[List.getElem?_map,List.getElem?_eq_getElem (by omega)];rfl)
theorem zfaZ {t:TypeId} {fuel:Nat} {v:Value} {x:DataW H×List MemPlace} (hu:P.underlying t=some .string) (h:DataW.trod enc P W 0 sp held fuel t [v]=some x) (hf:Fit P t x.1) :
  ∃s:Lx.Bytes,v=.string ⟨s.toArray⟩/\s.length<=reachBytes:=by
 obtain⟨s,e,hx,_⟩:=DataW.trod_string hu h;subst hx;injection e with e;refine⟨s.data.toList,by rw[zcoZ];exact e,?_⟩;have:=hf s.data.toList.length (by simp[DataW.weights]);exact this
end
theorem zpnZ {l:List Value} (h:l.length=5):∃a b c d e,l=[a,b,c,d,e]:=by
 match l,h with
 | [a,b,c,d,e],_=>exact⟨a,b,c,d,e,rfl⟩
theorem zlkZ {l:List Value} (h:l.length=1):∃a,l=[a]:=by
 match l,h with
 | [a],_=>exact⟨a,rfl⟩
theorem uTy : Tryz.prog.underlying 26 =some (.struct (Tryz.prog.fieldsOf 26)):=by kernel_rfl
theorem cTy : Tryz.prog.cellsOf 26 =5:=by kernel_rfl
theorem bTy:1<= Tryz.prog.bytesOf 26 :=yBZ (by kernel_rfl)
theorem bStr:1<= Tryz.prog.bytesOf 9 :=yBZ (by kernel_rfl)
theorem bBool:1<= Tryz.prog.bytesOf 4 :=yBZ (by kernel_rfl)
theorem cBool : Tryz.prog.cellsOf 4 =1:=by kernel_rfl
theorem cSls : Tryz.prog.cellsOf 22 =1:=by kernel_rfl
theorem cSlb : Tryz.prog.cellsOf 23 =1:=by kernel_rfl
theorem cSlt : Tryz.prog.cellsOf 24 =1:=by kernel_rfl
theorem uSls : Tryz.prog.underlying 22 =some (.slice 9):=by kernel_rfl
theorem uSlb : Tryz.prog.underlying 23 =some (.slice 4):=by kernel_rfl
theorem uSlt : Tryz.prog.underlying 24 =some (.slice 26):=by kernel_rfl
theorem uBool : Tryz.prog.underlying 4 =some .bool:=by kernel_rfl
theorem fTy0:(Tryz.prog.fieldsOf 26)[0]?.map (fun f=>(f.type,f.offset))=some (3,0):=by kernel_rfl
theorem fTy1:(Tryz.prog.fieldsOf 26)[1]?.map (fun f=>(f.type,f.offset))=some (9,1):=by kernel_rfl
theorem fTy2:(Tryz.prog.fieldsOf 26)[2]?.map (fun f=>(f.type,f.offset))=some (22,2):=by kernel_rfl
theorem fTy3:(Tryz.prog.fieldsOf 26)[3]?.map (fun f=>(f.type,f.offset))=some (23,3):=by kernel_rfl
theorem fTy4:(Tryz.prog.fieldsOf 26)[4]?.map (fun f=>(f.type,f.offset))=some (24,4):=by kernel_rfl
section
variable {H:Type} {enc:TypeId×Value->H} {W:World} {sp:Nat->Bool} {held:Bool}
theorem zgcZ {fuel:Nat} {v:Value} {x:DataW H×List MemPlace} (h:DataW.trod enc Tryz.prog W 0 sp held fuel 22 [v]=some x) (hf:Fit Tryz.prog 22 x.1) :
  ∃ns,StrRow W v ns/\ns.length<=reachBytes/\∀s∈ns,s.length<=reachBytes:=by
 obtain⟨a,len,cap,rfl,hlc,hlr,hi⟩:=zdwZ uSls cS Nat.one_pos bStr h hf;have H0:∀i,i<len->∃s:Lx.Bytes,(∃g off,a=some ⟨g,off,none⟩/\W.cell? ⟨g,off+i,none⟩=some (.string ⟨s.toArray⟩))/\s.length<=reachBytes:=by intro i H1;obtain⟨g,off,cs,n,y,rfl,_,hl,hc,ht,hfy⟩:=hi i H1;obtain⟨u,rfl⟩:=zlkZ hl;obtain⟨s,rfl,hs⟩:=zfaZ Tryz.underlying9 ht hfy;exact⟨s,⟨g,off,rfl,by simpa using hc 0 Nat.one_pos⟩,hs⟩
 obtain⟨ns,hl,hp⟩:=zbxZ len H0;refine⟨ns,⟨a,cap,by rw[hl],fun i h=>(hp i h).1⟩,by omega,fun s hs=>?_⟩;obtain⟨i,hi,rfl⟩:=List.getElem_of_mem hs;exact(hp i hi).2
theorem zkhZ {fuel:Nat} {v:Value} {x:DataW H×List MemPlace} (h:DataW.trod enc Tryz.prog W 0 sp held fuel 23 [v]=some x) (hf:Fit Tryz.prog 23 x.1) :
  ∃es,BoolRow W v es/\es.length<=reachBytes:=by
 obtain⟨a,len,cap,rfl,hlc,hlr,hi⟩:=zdwZ uSlb cBool Nat.one_pos bBool h hf;have H0:∀i,i<len->∃s:Bool,(∃g off,a=some ⟨g,off,none⟩/\W.cell? ⟨g,off+i,none⟩=some (.bool s)):=by intro i H1;obtain⟨g,off,cs,n,y,rfl,_,hl,hc,ht,hfy⟩:=hi i H1;obtain⟨u,rfl⟩:=zlkZ hl;obtain⟨s,e,_⟩:=DataW.trod_bool uBool ht;injection e with e;subst e;exact⟨s,g,off,rfl,by simpa using hc 0 Nat.one_pos⟩
 obtain⟨ns,hl,hp⟩:=zbxZ len H0;exact⟨ns,⟨a,cap,by rw[hl],fun i h=>hp i h⟩,by omega⟩
def TyRead (W:World) (cs:List Value):Prop:=∃v0 v1 v2 v3 v4 t,cs=[v0,v1,v2,v3,v4]/\IsTy W (.agg #[v0,v1,v2,v3,v4]) t/\Sx.fits t
theorem zllZ:∀ {l:List Sx.Ty},(∀t∈l,Sx.fits t)->Sx.fitsL l
 | [],h=>by rw[Sx.fitsL];trivial
 | t::l,h=>by rw[Sx.fitsL];exact⟨h t ysZ,zllZ fun u hu=>h u (ywZ _ hu)⟩
theorem zhbZ {fuel:Nat} (ih:∀n,n<fuel->∀cs x,DataW.trod enc Tryz.prog W 0 sp held n 26 cs=some x->Fit Tryz.prog 26 x.1->TyRead W cs)
  {v:Value} {x:DataW H×List MemPlace} (h:DataW.trod enc Tryz.prog W 0 sp held fuel 24 [v]=some x) (hf:Fit Tryz.prog 24 x.1) :
  ∃l,TyRow W v l/\l.length<=reachBytes/\Sx.fitsL l:=by
 obtain⟨a,len,cap,rfl,hlc,hlr,hi⟩:=zdwZ uSlt cTy (by decide) bTy h hf;have H0:∀i,i<len->∃t:Sx.Ty,(∃g off v0 v1 v2 v3 v4,a=some ⟨g,off,none⟩/\W.cell? ⟨g,off+(0+i) * 5,none⟩=some v0/\W.cell? ⟨g,off+(0+i) * 5+1,none⟩=some v1/\
   W.cell? ⟨g,off+(0+i) * 5+2,none⟩=some v2/\W.cell? ⟨g,off+(0+i) * 5+3,none⟩=some v3/\W.cell? ⟨g,off+(0+i) * 5+4,none⟩=some v4/\IsTy W (.agg #[v0,v1,v2,v3,v4]) t)/\Sx.fits t:=by
  intro i H1;obtain⟨g,off,cs,n,y,rfl,hn,hl,hc,ht,hfy⟩:=hi i H1;obtain⟨v0,v1,v2,v3,v4,t,rfl,hty,hfit⟩:=ih n hn cs y ht hfy;rw[yGZ];exact⟨t,⟨g,off,v0,v1,v2,v3,v4,rfl,hc 0 (by decide),hc 1 (by decide),hc 2 (by decide),hc 3 (by decide),hc 4 (by decide),hty⟩,hfit⟩
 obtain⟨l,hl,hp⟩:=zbxZ len H0;refine⟨l,⟨a,cap,by rw[hl],by omega,IsTys.mk fun m h=>(hp m h).1⟩,by omega,zllZ fun t ht=>?_⟩;obtain⟨i,hi,rfl⟩:=List.getElem_of_mem ht;exact(hp i hi).2
theorem zohZ:∀(fuel:Nat) (cs:List Value) (x:DataW H×List MemPlace),DataW.trod enc Tryz.prog W 0 sp held fuel 26 cs=some x->Fit Tryz.prog 26 x.1->TyRead W cs:=by
 intro fuel
 induction fuel using Nat.strongRecOn with
 | _ fuel ih=>
  intro cs x h hf;obtain⟨v0,v1,v2,v3,v4,rfl⟩:=zpnZ ((zeiZ uTy h).trans cTy);obtain⟨n0,y0,l0,h0,q0⟩:=ztZ 0 uTy fTy0 h hf;obtain⟨n1,y1,l1,h1,q1⟩:=ztZ 1 uTy fTy1 h hf;obtain⟨n2,y2,l2,h2,q2⟩:=ztZ 2 uTy fTy2 h hf;obtain⟨n3,y3,l3,h3,q3⟩:=ztZ 3 uTy fTy3 h hf;obtain⟨n4,y4,l4,h4,q4⟩:=ztZ 4 uTy fTy4 h hf;rw[cI]at h0;rw[cS]at h1;rw[cSls]at h2;rw[cSlb]at h3;rw[cSlt]at h4;simp only[List.drop_zero,List.drop_succ_cons,List.take_succ_cons,List.take_zero]at h0 h1 h2 h3 h4;obtain⟨k,e0,_,_⟩:=DataW.trod_int Tryz.underlying3 h0;injection e0 with e0;subst e0;obtain⟨nm,rfl,z1⟩:=zfaZ Tryz.underlying9 h1 q1;obtain⟨ns,r2,z2,z2'⟩:=zgcZ h2 q2;obtain⟨es,r3,z3⟩:=zkhZ h3 q3;obtain⟨ps,⟨A,c,rfl,hc,r4⟩,z4,z4'⟩:=zhbZ (fun n hn=>ih n (by omega)) h4 q4;refine⟨_,_,_,_,_,.mk k nm ns es ps,rfl,?_,?_⟩
  ·rw[IsTy];exact⟨_,_,A,c,rfl,r2,r3,hc,r4⟩
  ·rw[Sx.fits];exact⟨z1,z2,z3,z4,z2',z4'⟩
end
end Go.Proofs.YtdncljdfmdgdaaaGreatDoor
namespace Go.Proofs.YtdncljdfmdgdaaaGreatDoor
open Go.RowKit Go.Shelf
end Go.Proofs.YtdncljdfmdgdaaaGreatDoor
namespace Go.Proofs.YtdncljdfmdgdaaaGreatDoor
open Go.RowKit Go.WideMaps
theorem OwnS.row {w:World} {B:Nat} {v:Value} {l:List Lx.Bytes} (h:OwnS w B v l):StrRow w v l:=by
 obtain⟨A,c,hv⟩:=h.slice;refine⟨A,c,hv,fun i hi=>?_⟩;rcases h.2 with⟨h1,h0⟩ | ⟨g,cap,cur,h1,_,h2,_,_,_,h3⟩
 ·omega
 ·rw[hv]at h1;injection h1 with h1 _ _;refine⟨g,0,h1,?_⟩;rw[zdZ h2,yGZ,<-Array.getElem?_toList,<-List.getElem?_take_of_lt (l:=cur.toList) (j:=l.length * 1) (by omega),h3];simp[strsV,hi]
theorem zsmZ (l:List Sx.Ty) (v:Value) (W:World) (hn:Sx.sizeL l<=1000000) (hv:TyRow W v l) :
  Calls Tryz.prog 17 #[v] W fun e W'=>∃A,e=.returned (.slice A (Sx.once [] (Sx.allNamesL l)).length (Sx.once [] (Sx.allNamesL l)).length)/\StrRow W' (.slice A (Sx.once [] (Sx.allNamesL l)).length (Sx.once [] (Sx.allNamesL l)).length) (Sx.once [] (Sx.allNamesL l))/\Below W.heap.size W W':=by
 have H8:=@run_makeMap Tryz.prog;obtain⟨A,c,rfl,hcap,hl⟩:=hv;have hv:TyRow W (.slice A l.length c) l:=⟨A,c,rfl,hcap,hl⟩;have HV:=zh hv;clear hv hl;obtain⟨L,hL⟩:=zE (W.heap.size);have H0:∀X,(((W.alloc (.cells #[.slice none 0 0] 22)).alloc (.map #[] 0)).alloc (.cells #[.map (some (W.heap.size+1))] 107))=X->Met W.heap.size W.heap.size (W.heap.size+1+1) (W.heap.size+1) [] X/\Below W.heap.size W X:=by
  rintro X rfl;refine⟨⟨ybZ _,by omega,by omega,⟨.slice none 0 0,((Boxed.new W _ _).alloc _).alloc _,yOZ _ _ _ _⟩,?_,0,.map [],ybZ _,?_,Maps.isMap_empty,fun s=>rfl⟩,?_⟩
  ·have:=Boxed.new ((W.alloc (.cells #[.slice none 0 0] 22)).alloc (.map #[] 0)) 107 (.map (some (W.heap.size+1)));simpa using this
  ·have:=(World.ownsMap_made (W.alloc (.cells #[.slice none 0 0] 22)) Tryz.prog 9 (plainElem (H:=Unit) Tryz.prog 3)).alloc (.cells #[.map (some (W.heap.size+1))] 107);simpa using this
  ·exact(((yqZ _ W).alloc (ybZ _) _).alloc (by simp) _).alloc (by simp;omega) _
 have H2:=zh H0;clear H0;go_enter Tryz.func17, Tryz.ntmps17;obtain⟨X,hX⟩:=zE ((((W.alloc (.cells #[.slice none 0 0] 22)).alloc (.map #[] 0)).alloc (.cells #[.map (some (L+1))] 107)));have hh:=H2.o X (by rw[<-hX,hL]);have hcall:=zogZ W W.heap.size (W.heap.size+1+1) (W.heap.size+1) (Sx.sizeL l) l _ [] X (ybZ _) (by simpa using hn) HV.o hh.2 hh.1;rw[hL]at hcall;have HC:=zh hcall;clear hcall hh;go_wp2_with fail;refine HC.o.mono ?_;rintro e W3 ⟨rfl,⟨-,-,-,⟨u,H1,ho⟩,-,-⟩,H3,-⟩;have cL:=H1.cell;have Ha:=H1.lt;rw[List.nil_append]at ho;obtain⟨A',c',rfl⟩:=ho.slice;have HO:=zh ho;have H4:=zh H3;obtain⟨r,hr⟩:=zE (Sx.once [] (Sx.allNamesL l));have HR:=zh hr;have H9:r.length<=1000000:=by have:=Sx.once_len (Sx.allNamesL l) [];have:=Sx.namesL_size l;rw[<-hr];simp at *;omega
 have H7:r.length<=c':=by
  rcases ho.2 with⟨h1,h0⟩ | ⟨g,cap,cur,h1,_,_,h2,_⟩
  ·rw[hr]at h0;omega
  ·rw[hr]at h1 h2;injection h1 with _ _ h1;omega
 have H6:(r.length:Int)<=(c':Int):=by omega
 have H5:(0:Int)<=(r.length:Int):=by omega
 rw[hr]at cL;clear ho H1 H3 hr;go_wp2_with fail;go_ret;rw[HR.o];refine⟨A',rfl,?_,by rw[hL];exact H4.o⟩;obtain⟨A1,c1,h1,h2⟩:=HO.o.row;rw[HR.o]at h1 h2;injection h1 with h1 _ _;subst h1;exact⟨A',r.length,rfl,h2⟩
end Go.Proofs.YtdncljdfmdgdaaaGreatDoor
namespace Go.Proofs.YtdncljdfmdgdaaaGreatDoor
open Go.RowKit Go.Shelf
end Go.Proofs.YtdncljdfmdgdaaaGreatDoor
