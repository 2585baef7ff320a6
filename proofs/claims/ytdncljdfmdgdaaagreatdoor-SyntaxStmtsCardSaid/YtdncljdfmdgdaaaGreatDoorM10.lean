/-
  The walk of typ at records and interfaces.
-/
import Derived.Test.YtdncljdfmdgdaaaGreatDoorM9
set_option linter.unusedSimpArgs false
set_option linter.unusedVariables false
set_option maxRecDepth 100000
set_option maxHeartbeats 8000000
namespace Go.Proofs.YtdncljdfmdgdaaaGreatDoor
open Go.RowKit Go.Shelf Go.WideMaps
theorem StrRow.spot {W0:World} {A:Option Addr} {k c:Nat} {l:List Lx.Bytes} (h:StrRow W0 (.slice A k c) l) (m:Nat) (hm:m<l.length) :
  ∃g off,A=some ⟨g,off,none⟩/\∀W,Below W0.heap.size W0 W->g<W.heap.size/\W.cell? ⟨g,off+m,none⟩=some (.string ⟨(l[m]'hm).toArray⟩):=by
 obtain⟨A',c',hv,hl⟩:=h;injection hv with h1 _ _;subst h1;obtain⟨g,off,rfl,hc⟩:=hl m hm;have hg:=World.block_lt_of_cell? W0 ⟨g,_,none⟩ hc;exact⟨g,off,rfl,fun W hb=>⟨yJZ hg hb.size,(World.cell?_of_block (hb.block g hg)).trans hc⟩⟩
theorem BoolRow.spot {W0:World} {A:Option Addr} {k c:Nat} {l:List Bool} (h:BoolRow W0 (.slice A k c) l) (m:Nat) (hm:m<l.length) :
  ∃g off,A=some ⟨g,off,none⟩/\∀W,Below W0.heap.size W0 W->g<W.heap.size/\W.cell? ⟨g,off+m,none⟩=some (.bool (l[m]'hm)):=by
 obtain⟨A',c',hv,hl⟩:=h;injection hv with h1 _ _;subst h1;obtain⟨g,off,rfl,hc⟩:=hl m hm;have hg:=World.block_lt_of_cell? W0 ⟨g,_,none⟩ hc;exact⟨g,off,rfl,fun W hb=>⟨yJZ hg hb.size,(World.cell?_of_block (hb.block g hg)).trans hc⟩⟩
theorem Sx.fields_append:∀(ns:List Lx.Bytes) (es:List Bool) (ps:List Sx.Ty) (n:Lx.Bytes) (e:Bool) (p:Sx.Ty),ns.length=ps.length->es.length=ps.length->
  Sx.fields (ns++[n]) (es++[e]) (ps++[p])=Sx.fields ns es ps++((if e then [[101,109,98,101,100]]else [])++([n]++Sx.typ p++[[59]]))
 | [],[],[],n,e,p,_,_=>by simp[Sx.fields]
 | a::ns,b::es,t::ps,n,e,p,h1,h2=>by rw[yHZ,yHZ,yHZ,Sx.fields,Sx.fields,Sx.fields_append ns es ps n e p (by simpa using h1) (by simpa using h2)];simp[yiZ]
 | [],_,_::_,_,_,_,h1,_=>by simp at h1
 | _::_,_,[],_,_,_,h1,_=>by simp at h1
 | _,[],_::_,_,_,_,_,h2=>by simp at h2
 | _,_::_,[],_,_,_,_,h2=>by simp at h2
theorem Sx.fields_take {ns:List Lx.Bytes} {es:List Bool} {ps:List Sx.Ty} {m:Nat} (h1:ns.length=ps.length) (h2:es.length=ps.length) (hm:m<ps.length) :
  Sx.fields (ns.take (m+1)) (es.take (m+1)) (ps.take (m+1))=Sx.fields (ns.take m) (es.take m) (ps.take m)++((if es[m]'(by omega)then [[101,109,98,101,100]]else [])++([ns[m]'(by omega)]++Sx.typ ps[m]++[[59]])):=by
 rw[ykZ hm,ykZ (show m<ns.length by omega),ykZ (show m<es.length by omega)];exact Sx.fields_append _ _ _ _ _ _ (by simp;omega) (by simp;omega)
theorem Sx.methods_append:∀(ns:List Lx.Bytes) (ps:List Sx.Ty) (n:Lx.Bytes) (p:Sx.Ty),ns.length=ps.length->
  Sx.methods (ns++[n]) (ps++[p])=Sx.methods ns ps++([n]++Sx.signature p++[[59]])
 | [],[],n,p,_=>by simp[Sx.methods]
 | a::ns,t::ps,n,p,h1=>by rw[yHZ,yHZ,Sx.methods,Sx.methods,Sx.methods_append ns ps n p (by simpa using h1)];simp[yiZ]
 | [],_::_,_,_,h1=>by simp at h1
 | _::_,[],_,_,h1=>by simp at h1
theorem Sx.methods_take {ns:List Lx.Bytes} {ps:List Sx.Ty} {m:Nat} (h1:ns.length=ps.length) (hm:m<ps.length) :
  Sx.methods (ns.take (m+1)) (ps.take (m+1))=Sx.methods (ns.take m) (ps.take m)++([ns[m]'(by omega)]++Sx.signature ps[m]++[[59]]):=by
 rw[ykZ hm,ykZ (show m<ns.length by omega)];exact Sx.methods_append _ _ _ _ (by simp;omega)
theorem Sx.le_sum:∀ {l:List Lx.Bytes} {s:Lx.Bytes},s∈l->s.length<=(l.map List.length).sum
 | x::l,s,h=>by
  rw[yPZ,List.sum_cons];rcases yTZ.1 h with rfl | h
  ·omega
  ·have:=Sx.le_sum h;omega
theorem Sx.name_len {t:Sx.Ty} {s:Lx.Bytes} (h:s∈t.names):s.length<=Sx.size t:=by
 have h1:=Sx.size_parts t;have h2:=Sx.le_sum h;omega
theorem zveZ (N:Sx.Names) (hN:Sx.NamesOk N) (W0:World) (b:Nat) (t:Sx.Ty) (ih:∀p∈t.parts,TypOk N W0 b p) (hkd:t.kind=6):TypOk N W0 b t:=by
 intro d v c l w hr ht h hc;obtain⟨An,cn,Ae,ce,Ap,cp,rfl,hnm,hem,hp⟩:=ht.agg;obtain⟨d',rfl,hr',hsh⟩:=Sx.right_parts hr;rw[hkd]at hsh ht ⊢;have Je:=Sx.size_parts t;have U5:c+10<=1000000000:=by omega
 have Jd:t.names.length=t.parts.length:=by simp[Sx.shape]at hsh;omega
 have J6:t.embeds.length=t.parts.length:=by simp[Sx.shape]at hsh;omega
 have Jk:=zh (show ∀s∈t.names,N.small s=true from Sx.apart_small (by simp[Sx.shape]at hsh;exact hsh.2));have HT:=zh (show Sx.typ t=[[123]]++Sx.fields t.names t.embeds t.parts++[[125]]by rw[Sx.typ_eq,hkd];simp);have Jr:=zh hem;have Hr:=zh J6;have U0:=zh hnm;have J2:=zh Jd;have Jc:=zh ih;have Jo:=Sx.length_size t.parts;obtain⟨k,hk⟩:=zE (t.parts.length);have U7:(k:Int)<=1000000000:=by omega
 rw[hk]at hp ht ⊢;have HK:=zh hk;have HR:=zh hr';have Jq:=zh Je;have HP:=zh hp;obtain⟨L,hL⟩:=zE (w.heap.size);obtain⟨w2,hw2⟩:=zE (w.alloc (.cells #[.int .i64 6,.string ⟨t.name.toArray⟩,.slice An t.names.length cn,.slice Ae t.embeds.length ce,.slice Ap k cp] 26));have H4:w2.heap[L]? =some (.cells #[.int .i64 6,.string ⟨t.name.toArray⟩,.slice An t.names.length cn,.slice Ae t.embeds.length ce,.slice Ap k cp] 26 (0,0)):=by rw[<-hw2,<-hL];exact ydZ w _
 have hW2:Wrote W0 b c l w2:=by rw[<-hw2];exact h.grown (yeZ w _ none)
 have U2:=zh (show KeepW w w2 by rw[<-hw2];exact KeepW.alloc w _);have Jx:=zh H4;have Jt:=zh hW2;obtain⟨x0,x1,x2,x3,x4⟩:=zcZ H4;have U9:=zaZ H4;have Ub:=hW2.lt;clear ih Jd J6 hk hr hr' ht hp hnm hem Je hW2 H4 h hsh hkd;go_enter Tryz.func59, Tryz.ntmps59;go_wp2_with (go_at_call 100;refine(put1 (s:=[123]) Jt.o ⟨by simp,by simp⟩ (by omega)).mono ?_;rintro e w3 ⟨rfl,hW3,Hv⟩;have H1:=Hv _ _ _ _ Jx.o (by decide) (by decide);clear x0 x1 x2 x3 x4;obtain⟨x0,x1,x2,x3,x4⟩:=zcZ H1;have Ua:=zaZ H1;have Ja:=zh hW3;have Jg:=zh (U2.o.trans Hv);have Hf:=zh H1;clear H1 hW3 Hv);have H3:=zh (show Wrote W0 b (c+1+10 * Sx.sizeL (t.parts.take 0)) (l++[[123]]++Sx.fields (t.names.take 0) (t.embeds.take 0) (t.parts.take 0)) w3 from(Ja.o.mono (by omega)).cast (by simp[Sx.fields,Sx.methods]));clear x0 x1 x2 x3 x4;go_loopg [63] k (fun i v wr=>∃(m:Nat),i=k-m/\v=.int .i64 (m:Int)/\m<=k/\Wrote W0 b (c+1+10 * Sx.sizeL (t.parts.take m)) (l++[[123]]++Sx.fields (t.names.take m) (t.embeds.take m) (t.parts.take m)) wr/\KeepW w3 wr)
 case atStart=>exact⟨0,rfl,rfl,yxZ _,H3.o,KeepW.refl _⟩
 case round=>
  obtain⟨m,hi,rfl,hm,hW,hkw⟩:=hrel;have HI:=zh hi;have J0:=zh hW;have m0:(0:Int)<=(m:Int):=(by omega);have H7:=hkw _ _ _ _ Hf.o (by decide) (by decide);have Jn:=zh H7;have Hz:=zh hkw;have Jy:=hW.lt;have U6:=zaZ H7;have hSL:=Sx.sizeL_take_le t.parts (m+1);have hSL0:=Sx.sizeL_take_le t.parts m;have hSZ:1+Sx.sizeL t.parts<=Sx.size t:=(by have:=Jq.o;omega);clear hi hW hkw H3 Ja Hf;by_cases hlt:m<k
  ·have Jh:(m:Int)<(k:Int):=(by omega);have Hg:m<t.parts.length:=(by have:=HK.o;omega);have Hp:m<t.names.length:=(by have:=J2.o;omega);have Js:(m:Int)<(t.names.length:Int):=(by omega);have J7:m<t.embeds.length:=(by have:=Hr.o;omega);have Ju:(m:Int)<(t.embeds.length:Int):=(by omega);obtain⟨g,off,An1,cn1,Ae1,ce1,Aq,cq,rfl,hty,hc5⟩:=HP.o.spot m Hg;obtain⟨g1,off1,rfl,hsp1⟩:=U0.o.spot m Hp;obtain⟨g2,off2,rfl,hsp2⟩:=Jr.o.spot m J7;have Hl:=Sx.size_take Hg;have Hi:=Sx.fields_take J2.o Hr.o Hg;obtain⟨p,hpe⟩:=zE (t.parts[m]'Hg);obtain⟨s,hse⟩:=zE (t.names[m]'Hp);have Hk:p∈t.parts:=(by rw[<-hpe];exact yfZ Hg);have H9:s∈t.names:=(by rw[<-hse];exact yfZ Hp);have J5:s.length<=1000000000:=(by have:=Sx.name_len H9;omega);have J4:=zh (hN.small _ (Jk.o s H9));rw[hpe]at hc5 hty Hl Hi;rw[hse]at hsp1 Hi;obtain⟨hg,c0,c1,c2,c3,c4⟩:=hc5 wr J0.o.below;have Jz:=Sx.size_pos p;have Hm:=zh hty;have H5:=zh Hk;have Jb:=zh hsp1;obtain⟨e,hee⟩:=zE (t.embeds[m]'J7);rw[hee]at hsp2 Hi;have U1:=zh hsp2;have J9:=zh Hi;obtain⟨sp,hsp⟩:=zE (Sx.size p);obtain⟨sm,hsm⟩:=zE (Sx.sizeL (t.parts.take m));rw[hsp,hsm]at Hl;rw[Hl]at hSL;rw[hsp]at Jz;have Hn:=zh hsp;have J8:=zh Hl;have Jm:=zh hsm;have Hw:c+10+10 * (sm+sp)<=1000000000:=(by omega);obtain⟨L4,hL4⟩:=zE (wr.heap.size);obtain⟨w4,hw4⟩:=zE (wr.alloc (.cells #[.int .i64 p.kind,.string ⟨p.name.toArray⟩,.slice An1 p.names.length cn1,.slice Ae1 p.embeds.length ce1,.slice Aq p.parts.length cq] 26));have H2:w4.heap[L4]? =some (.cells #[.int .i64 p.kind,.string ⟨p.name.toArray⟩,.slice An1 p.names.length cn1,.slice Ae1 p.embeds.length ce1,.slice Aq p.parts.length cq] 26 (0,0)):=(by rw[<-hw4,<-hL4];exact ydZ wr _);have Hc:=zh H2;have Hj:=zh (show Wrote W0 b (c+1+10 * sm) (l++[[123]]++Sx.fields (t.names.take m) (t.embeds.take m) (t.parts.take m)) w4 by rw[<-hw4,<-Jm.o];exact J0.o.grown (yeZ wr _ none));have Hx:=zh (show KeepW wr w4 by rw[<-hw4];exact KeepW.alloc wr _);have H6:=zh (Hx.o _ _ _ _ Jn.o (by decide) (by decide));have Uc:L4<w4.heap.size:=zaZ H2;have Jp:L<w4.heap.size:=zaZ H6.o;have Ji:b<w4.heap.size:=Hj.o.lt;clear hty Hi Hk hpe hsp hsm Hl H2 hse H9 hc5 hsp1 hsp2 hee;obtain⟨x0,x1,x2,x3,x4⟩:=zcZ H6.o;obtain⟨z0,z1⟩:=U1.o w4 Hj.o.below
   cases e with
   | true=>
    go_wp2_with (go_at_call 100;refine(put1 (s:=[101,109,98,101,100]) Hj.o ⟨by simp,by simp⟩ (by omega)).mono ?_;rintro e w5 ⟨rfl,hW5,Hd⟩;have Hh:=zh (Hd _ _ _ _ H6.o (by decide) (by decide));have Hb:=zh (Hd _ _ _ _ Hc.o (by decide) (by decide));clear x0 x1 x2 x3 x4 z0 z1;have Jf:=zh hW5;have Jj:=zh Hd;have U4:=zaZ Hb.o;have Jw:=zaZ Hh.o;have U3:=hW5.lt;clear hW5 Hd)
    obtain⟨x0,x1,x2,x3,x4⟩:=zcZ Hh.o;obtain⟨y0,y1,y2,y3,y4⟩:=zcZ Hb.o;obtain⟨q0,q1⟩:=Jb.o w5 Jf.o.below;have Hs:=zh Jf.o.drew
    go_region_with (go_at_call 100;refine(put1 (s:=s) Hs.o ⟨J4.o,J5⟩ (by omega)).mono ?_;rintro e w6 ⟨rfl,hW6,Ha⟩)
    all_goals
     have H0:=Ha _ _ _ _ Hb.o (by decide) (by decide);clear x0 x1 x2 x3 x4 y0 y1 y2 y3 y4 q0 q1;obtain⟨y0,y1,y2,y3,y4⟩:=zcZ H0;have Jl:=zaZ H0;have Ht:=zh hW6;have Ho:=zh Ha;have Hq:=hW6.lt;clear H0 hW6 Ha
     go_wp2_with (first
      | (go_at_call 59;refine(Jc.o p H5.o d' _ _ _ w6 (HR.o p H5.o) Hm.o Ht.o (by rw[Hn.o];omega)).mono ?_;rintro e w7 ⟨rfl,hW7,He⟩;rw[Hn.o]at hW7;have J3:=zh hW7;have Hu:=zh He;have Hy:=hW7.lt;clear hW7 He)
      | (go_at_call 100;refine(put1 (s:=[59]) J3.o ⟨by simp,by simp⟩ (by omega)).mono ?_;rintro e w8 ⟨rfl,hW8,J1⟩))
     go_roundg (k-(m+1))
     case measure=>have:=HI.o;omega
     case rel=>
      refine⟨m+1,rfl,by simp,hlt,(hW8.mono ?_).cast ?_,((((Hz.o.trans Hx.o).trans Jj.o).trans Ho.o).trans Hu.o).trans J1⟩
      ·rw[J8.o];omega
      ·rw[J9.o];simp[yiZ]
   | false=>
    go_wp2_with fail
    clear x0 x1 x2 x3 x4 z0 z1;obtain⟨x0,x1,x2,x3,x4⟩:=zcZ H6.o;obtain⟨y0,y1,y2,y3,y4⟩:=zcZ Hc.o;obtain⟨q0,q1⟩:=Jb.o w4 Hj.o.below;have Hs:=zh Hj.o.drew
    go_region_with (go_at_call 100;refine(put1 (s:=s) Hs.o ⟨J4.o,J5⟩ (by omega)).mono ?_;rintro e w6 ⟨rfl,hW6,Ha⟩)
    all_goals
     have H0:=Ha _ _ _ _ Hc.o (by decide) (by decide);clear x0 x1 x2 x3 x4 y0 y1 y2 y3 y4 q0 q1;obtain⟨y0,y1,y2,y3,y4⟩:=zcZ H0;have Jl:=zaZ H0;have Ht:=zh hW6;have Ho:=zh Ha;have Hq:=hW6.lt;clear H0 hW6 Ha
     go_wp2_with (first
      | (go_at_call 59;refine(Jc.o p H5.o d' _ _ _ w6 (HR.o p H5.o) Hm.o Ht.o (by rw[Hn.o];omega)).mono ?_;rintro e w7 ⟨rfl,hW7,He⟩;rw[Hn.o]at hW7;have J3:=zh hW7;have Hu:=zh He;have Hy:=hW7.lt;clear hW7 He)
      | (go_at_call 100;refine(put1 (s:=[59]) J3.o ⟨by simp,by simp⟩ (by omega)).mono ?_;rintro e w8 ⟨rfl,hW8,J1⟩))
     go_roundg (k-(m+1))
     case measure=>have:=HI.o;omega
     case rel=>
      refine⟨m+1,rfl,by simp,hlt,(hW8.mono ?_).cast ?_,((((Hz.o.trans Hx.o)).trans Ho.o).trans Hu.o).trans J1⟩
      ·rw[J8.o];omega
      ·rw[J9.o];simp[yiZ]
  ·have Jh:¬(m:Int)<(k:Int):=(by omega);have H8:Sx.fields (t.names.take m) (t.embeds.take m) (t.parts.take m)=Sx.fields t.names t.embeds t.parts:=(by rw[yjZ (show t.names.length<=m by have:=HK.o;have:=J2.o;omega),yjZ (show t.parts.length<=m by have:=HK.o;omega),yjZ (show t.embeds.length<=m by have:=HK.o;have:=Hr.o;omega)]);have Jv:=zh H8;have Hw:c+10+10 * Sx.sizeL (t.parts.take m)<=1000000000:=(by omega);clear H8;go_wp2_with (go_at_call 100;refine(put1 (s:=[125]) J0.o ⟨by simp,by simp⟩ (by omega)).mono ?_;rintro e w5 ⟨rfl,hW5,Hd⟩);go_end0;refine⟨rfl,(hW5.mono ?_).cast ?_,(Jg.o.trans Hz.o).trans Hd⟩
   ·omega
   ·rw[HT.o,Jv.o];simp[yiZ]
theorem zvfZ (N:Sx.Names) (hN:Sx.NamesOk N) (W0:World) (b:Nat) (t:Sx.Ty) (ih:∀p∈t.parts,SigOk N W0 b p) (hkd:t.kind=8):TypOk N W0 b t:=by
 intro d v c l w hr ht h hc;obtain⟨An,cn,Ae,ce,Ap,cp,rfl,hnm,hem,hp⟩:=ht.agg;obtain⟨d',rfl,hr',hsh⟩:=Sx.right_parts hr;rw[hkd]at hsh ht ⊢;have Hu:=Sx.size_parts t;have Jt:c+10<=1000000000:=by omega
 have Hs:t.names.length=t.parts.length:=by simp[Sx.shape]at hsh;omega
 have J2:=zh (show ∀s∈t.names,N.small s=true from Sx.apart_small (by simp[Sx.shape]at hsh;exact hsh.2.2));have Jp:=zh (show ∀p∈t.parts,p.kind=7 by simp[Sx.shape]at hsh;exact hsh.1);have HT:=zh (show Sx.typ t=[[105,110,116,101,114,102,97,99,101],[123]]++Sx.methods t.names t.parts++[[125]]by rw[Sx.typ_eq,hkd];simp);have Jq:=zh hnm;have Hm:=zh Hs;have Jk:=zh ih;have J7:=Sx.length_size t.parts;obtain⟨k,hk⟩:=zE (t.parts.length);have Jw:(k:Int)<=1000000000:=by omega
 rw[hk]at hp ht ⊢;have HK:=zh hk;have HR:=zh hr';have Jc:=zh Hu;have HP:=zh hp;obtain⟨L,hL⟩:=zE (w.heap.size);obtain⟨w2,hw2⟩:=zE (w.alloc (.cells #[.int .i64 8,.string ⟨t.name.toArray⟩,.slice An t.names.length cn,.slice Ae t.embeds.length ce,.slice Ap k cp] 26));have H4:w2.heap[L]? =some (.cells #[.int .i64 8,.string ⟨t.name.toArray⟩,.slice An t.names.length cn,.slice Ae t.embeds.length ce,.slice Ap k cp] 26 (0,0)):=by rw[<-hw2,<-hL];exact ydZ w _
 have hW2:Wrote W0 b c l w2:=by rw[<-hw2];exact h.grown (yeZ w _ none)
 have Jr:=zh (show KeepW w w2 by rw[<-hw2];exact KeepW.alloc w _);have Jl:=zh H4;have Jg:=zh hW2;obtain⟨x0,x1,x2,x3,x4⟩:=zcZ H4;have Jy:=zaZ H4;have U0:=hW2.lt;clear ih Hs hk hr hr' ht hp hnm hem Hu hW2 H4 h hsh hkd;go_enter Tryz.func59, Tryz.ntmps59;go_wp2_with (go_at_call 100;refine(put2 (s:=[105,110,116,101,114,102,97,99,101]) (t:=[123]) Jg.o ⟨by simp,by simp⟩ ⟨by simp,by simp⟩ (by omega)).mono ?_;rintro e w3 ⟨rfl,hW3,Hi⟩;have H0:=Hi _ _ _ _ Jl.o (by decide) (by decide);clear x0 x1 x2 x3 x4;obtain⟨x0,x1,x2,x3,x4⟩:=zcZ H0;have Jz:=zaZ H0;have Hq:=zh hW3;have Hw:=zh (Jr.o.trans Hi);have H9:=zh H0;clear H0 hW3 Hi);have H3:=zh (show Wrote W0 b (c+2+10 * Sx.sizeL (t.parts.take 0)) (l++[[105,110,116,101,114,102,97,99,101],[123]]++Sx.methods (t.names.take 0) (t.parts.take 0)) w3 from(Hq.o.mono (by omega)).cast (by simp[Sx.fields,Sx.methods]));clear x0 x1 x2 x3 x4;go_loopg [122] k (fun i v wr=>∃(m:Nat),i=k-m/\v=.int .i64 (m:Int)/\m<=k/\Wrote W0 b (c+2+10 * Sx.sizeL (t.parts.take m)) (l++[[105,110,116,101,114,102,97,99,101],[123]]++Sx.methods (t.names.take m) (t.parts.take m)) wr/\KeepW w3 wr)
 case atStart=>exact⟨0,rfl,rfl,yxZ _,H3.o,KeepW.refl _⟩
 case round=>
  obtain⟨m,hi,rfl,hm,hW,hkw⟩:=hrel;have HI:=zh hi;have Hl:=zh hW;have m0:(0:Int)<=(m:Int):=(by omega);have H5:=hkw _ _ _ _ H9.o (by decide) (by decide);have J4:=zh H5;have Hr:=zh hkw;have Jm:=hW.lt;have Jv:=zaZ H5;have hSL:=Sx.sizeL_take_le t.parts (m+1);have hSL0:=Sx.sizeL_take_le t.parts m;have hSZ:1+Sx.sizeL t.parts<=Sx.size t:=(by have:=Jc.o;omega);clear hi hW hkw H3 Hq H9;by_cases hlt:m<k
  ·have Hz:(m:Int)<(k:Int):=(by omega);have Ha:m<t.parts.length:=(by have:=HK.o;omega);have Hg:m<t.names.length:=(by have:=Hm.o;omega);have Je:(m:Int)<(t.names.length:Int):=(by omega);obtain⟨g,off,An1,cn1,Ae1,ce1,Aq,cq,rfl,hty,hc5⟩:=HP.o.spot m Ha;obtain⟨g1,off1,rfl,hsp1⟩:=Jq.o.spot m Hg;have He:=Sx.size_take Ha;have Hf:=Sx.methods_take Hm.o Ha;obtain⟨p,hpe⟩:=zE (t.parts[m]'Ha);obtain⟨s,hse⟩:=zE (t.names[m]'Hg);have Hb:p∈t.parts:=(by rw[<-hpe];exact yfZ Ha);have H7:s∈t.names:=(by rw[<-hse];exact yfZ Hg);have Ja:s.length<=1000000000:=(by have:=Sx.name_len H7;omega);have J5:=zh (hN.small _ (J2.o s H7));rw[hpe]at hc5 hty He Hf;rw[hse]at hsp1 Hf;obtain⟨hg,c0,c1,c2,c3,c4⟩:=hc5 wr Hl.o.below;have Jn:=Sx.size_pos p;have Hn:=zh hty;have H8:=zh Hb;have Jj:=zh hsp1;have Jh:=zh Hf;obtain⟨sp,hsp⟩:=zE (Sx.size p);obtain⟨sm,hsm⟩:=zE (Sx.sizeL (t.parts.take m));rw[hsp,hsm]at He;rw[He]at hSL;rw[hsp]at Jn;have Ht:=zh hsp;have Jf:=zh He;have J3:=zh hsm;have Hj:c+10+10 * (sm+sp)<=1000000000:=(by omega);obtain⟨L4,hL4⟩:=zE (wr.heap.size);obtain⟨w4,hw4⟩:=zE (wr.alloc (.cells #[.int .i64 p.kind,.string ⟨p.name.toArray⟩,.slice An1 p.names.length cn1,.slice Ae1 p.embeds.length ce1,.slice Aq p.parts.length cq] 26));have H1:w4.heap[L4]? =some (.cells #[.int .i64 p.kind,.string ⟨p.name.toArray⟩,.slice An1 p.names.length cn1,.slice Ae1 p.embeds.length ce1,.slice Aq p.parts.length cq] 26 (0,0)):=(by rw[<-hw4,<-hL4];exact ydZ wr _);have Hc:=zh H1;have Hk:=zh (show Wrote W0 b (c+2+10 * sm) (l++[[105,110,116,101,114,102,97,99,101],[123]]++Sx.methods (t.names.take m) (t.parts.take m)) w4 by rw[<-hw4,<-J3.o];exact Hl.o.grown (yeZ wr _ none));have Hp:=zh (show KeepW wr w4 by rw[<-hw4];exact KeepW.alloc wr _);have Hd:=zh (Hp.o _ _ _ _ J4.o (by decide) (by decide));have U1:L4<w4.heap.size:=zaZ H1;have Jb:L<w4.heap.size:=zaZ Hd.o;have J0:b<w4.heap.size:=Hk.o.lt;clear hty Hf Hb hpe hsp hsm He H1 hse H7 hc5 hsp1
   have Hv:=zh (show(∀q∈p.parts,Sx.rightT N (d'-1) q=true)/\p.parts≠[]by
    obtain⟨e',he',hq,hs'⟩:=Sx.right_parts (HR.o p H8.o);refine⟨fun q hq'=>by rw[he'];exact hq q hq',?_⟩;rw[Jp.o p H8.o]at hs';rintro e
    simp[Sx.shape,e]at hs')
   go_wp2_with fail
   obtain⟨x0,x1,x2,x3,x4⟩:=zcZ Hd.o;obtain⟨y0,y1,y2,y3,y4⟩:=zcZ Hc.o;obtain⟨q0,q1⟩:=Jj.o w4 Hk.o.below;have J6:=zh Hk.o.drew
   go_region_with (go_at_call 100;refine(put1 (s:=s) J6.o ⟨J5.o,Ja⟩ (by omega)).mono ?_;rintro e w6 ⟨rfl,hW6,Hh⟩)
   all_goals
    have H2:=Hh _ _ _ _ Hc.o (by decide) (by decide);clear x0 x1 x2 x3 x4 y0 y1 y2 y3 y4 q0 q1;obtain⟨y0,y1,y2,y3,y4⟩:=zcZ H2;have Ju:=zaZ H2;have J8:=zh hW6;have Hx:=zh Hh;have J1:=hW6.lt;clear H2 hW6 Hh
    go_wp2_with (first
     | (go_at_call 109;refine(Jk.o p H8.o _ _ _ _ w6 Hv.o.1 Hv.o.2 Hn.o J8.o (by rw[Ht.o];omega)).mono ?_;rintro e w7 ⟨rfl,hW7,Ho⟩;rw[Ht.o]at hW7;have Js:=zh hW7;have J9:=zh Ho;have Jd:=hW7.lt;clear hW7 Ho)
     | (go_at_call 100;refine(put1 (s:=[59]) Js.o ⟨by simp,by simp⟩ (by omega)).mono ?_;rintro e w8 ⟨rfl,hW8,Jo⟩))
    go_roundg (k-(m+1))
    case measure=>have:=HI.o;omega
    case rel=>
     refine⟨m+1,rfl,by simp,hlt,(hW8.mono ?_).cast ?_,((((Hr.o.trans Hp.o)).trans Hx.o).trans J9.o).trans Jo⟩
     ·rw[Jf.o];omega
     ·rw[Jh.o];simp[yiZ]
  ·have Hz:¬(m:Int)<(k:Int):=(by omega);have H6:Sx.methods (t.names.take m) (t.parts.take m)=Sx.methods t.names t.parts:=(by rw[yjZ (show t.names.length<=m by have:=HK.o;have:=Hm.o;omega),yjZ (show t.parts.length<=m by have:=HK.o;omega)]);have Ji:=zh H6;have Hj:c+10+10 * Sx.sizeL (t.parts.take m)<=1000000000:=(by omega);clear H6;go_wp2_with (go_at_call 100;refine(put1 (s:=[125]) Hl.o ⟨by simp,by simp⟩ (by omega)).mono ?_;rintro e w5 ⟨rfl,hW5,Hy⟩);go_end0;refine⟨rfl,(hW5.mono ?_).cast ?_,(Hw.o.trans Hr.o).trans Hy⟩
   ·omega
   ·rw[HT.o,Ji.o];simp[yiZ]
end Go.Proofs.YtdncljdfmdgdaaaGreatDoor
