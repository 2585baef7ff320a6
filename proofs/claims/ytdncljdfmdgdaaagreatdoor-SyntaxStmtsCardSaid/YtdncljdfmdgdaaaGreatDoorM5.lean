/-
  The walk of Join.
-/
import Derived.Test.YtdncljdfmdgdaaaGreatDoorM4
import Derived.Test.YtdncljdfmdgdaaaGreatDoorRows
import Derived.ChangeSame
import Derived.ChangeVars
import Derived.JoinedOf
import Derived.ProofKit
import Derived.LaidLaws
import Derived.LaidHandle
import Derived.LaidMore
import Derived.OpenShut
import Derived.Stop.Joined
import Derived.Lib.LaidTab
import Derived.Carry
import Derived.MakeChecks
import Derived.ChangeMaps5
import Derived.Test.YtdncljdfmdgdaaaGreatDoorM1
import Derived.Maps.Views
set_option linter.unusedSimpArgs false
set_option linter.unusedVariables false
set_option maxRecDepth 1000000
set_option maxHeartbeats 8000000
namespace Go.Proofs.YtdncljdfmdgdaaaGreatDoor
open Go.RowKit Go.Shelf
namespace Lx
def joinStep (i:Nat) (b s:Bytes):Bytes:=if 65536<b.length then b else(if 0<i then b++[32]else b)++s
def joinFrom:Nat->Bytes->List Tok->Option Bytes
 | _,b,[]=>some b
 | i,b,t::l=>if(written t).2 then joinFrom (i+1) (joinStep i b (written t).1) l else none
def join (l:List Tok):Bytes×Nat:=
 match joinFrom 0 [] l with
 | none=>([],1)
 | some b=>if 65536<b.length then([],2)else if 4096<l.length then([],3)else(b,0)
theorem written_len (t:Tok) (hs:t.s.length<=1000000000) (hn1:t.n<=9223372036854775807):(written t).1.length<=3000000000:=by
 have h:∀s,raw t=some s->s.length<=3000000000:=by
  intro s h;unfold raw at h;split at h
  ·injection h with h;subst h;omega
  ·split at h
   ·split at h
    ·cases h
    ·injection h with h;subst h;rw[Lib.decDigits_length];have:=nD_le 19 t.n.toNat (by omega);omega
   ·split at h
    ·injection h with h;subst h;have:=quoteIn_len t.s;simp[quote];omega
    ·cases h
 unfold written;split
 ·simp
 ·simp
 ·rename_i c l he;split
  ·exact h _ he
  ·simp
end Lx
def ToksIn (w:World) (v:Value) (ts:List Lx.Tok):Prop:=
 (ts=[]/\∃a c,v=.slice a 0 c)\/∃g c cur fr,v=.slice (some ⟨g,0,none⟩) ts.length c/\w.heap[g]? =some (.cells cur 133 fr)/\cur.toList.take (ts.length * 4)=ts.flatMap cellsT
theorem zusZ (ts:List Lx.Tok):∀(m:Nat) (h:m<ts.length) (q:Nat),q<4->(ts.flatMap cellsT)[m * 4+q]? =(cellsT (ts[m]'h))[q]? :=by
 induction ts with
 | nil=>intro m h;simp at h
 | cons t ts ih=>
  intro m h q hq;rw[List.flatMap_cons]
  cases m with
  | zero=>rw[List.getElem?_append_left (by simp[cellsT];omega)];simp
  | succ m=>rw[List.getElem?_append_right (by simp[cellsT];omega)];have e:(m+1) * 4+q-(cellsT t).length=m * 4+q:=(by simp[cellsT];omega);rw[e,ih m (by simpa using h) q hq];rfl
theorem zgvZ {w:World} {ts:List Lx.Tok} {g m:Nat} {cur:Array Value} {fr:Nat×Nat} (hg:w.heap[g]? =some (.cells cur 133 fr)) (hc:cur.toList.take (ts.length * 4)=ts.flatMap cellsT) (h:m<ts.length) :
  w.cell? ⟨g,m * 4,none⟩=some (.int .i64 (ts[m]'h).pos)/\w.cell? ⟨g,m * 4+1,none⟩=some (.int .i64 (ts[m]'h).kind)/\w.cell? ⟨g,m * 4+2,none⟩=some (.string ⟨(ts[m]'h).s.toArray⟩)/\w.cell? ⟨g,m * 4+3,none⟩=some (.int .i64 (ts[m]'h).n):=by
 have e:∀q,q<4->w.cell? ⟨g,m * 4+q,none⟩=(cellsT (ts[m]'h))[q]? :=by intro q hq;rw[zdZ hg,<-Array.getElem?_toList,<-zusZ ts m h q hq,<-hc,List.getElem?_take_of_lt (by omega)]
 exact⟨e 0 (by omega),e 1 (by omega),e 2 (by omega),e 3 (by omega)⟩
theorem Bld.kept {B b:Nat} {l:List UInt8} {w w':World} (h:Bld B b l w) (hg:w.grownBy w' none):Bld B b l w':=by
 have e:∀p,Lib.BuilderAt 100 5 B b p (Lib.byteCells l) w->Lib.BuilderAt 100 5 B b p (Lib.byteCells l) w':=by rintro p ⟨hB,v,hb,ho,H0⟩;exact⟨hB,v,(hg.block b (zaZ hb) (fun e=>nomatch e)).trans hb,ho.kept hg (by cases v.ownBlock <;> simp),H0⟩
 exact h.imp (e _) (e _)
theorem zeoZ (B b:Nat) (l:List UInt8) (w:World) (h:Bld B b l w):Calls Tryz.prog 92 #[.pointer (some ⟨b,0,none⟩)] w fun e w'=>e=.returned (.int .i64 l.length)/\w'=w:=by
 refine(Tryz.Builder_Len B b _ w h).mono ?_;rintro e w' ⟨rfl,rfl⟩;exact⟨by rw[zbrZ],rfl⟩
theorem zutZ (ts:List Lx.Tok) (v:Value) (w:World) (hG:GS w) (hN:NG<=w.heap.size) (hv:ToksIn w v ts) (hl:ts.length<=1000000000)
  (hts:∀t∈ts,t.s.length<=1000000000/\-9223372036854775808<=t.n/\t.n<=9223372036854775807) :
  Calls Tryz.prog 48 #[v] w fun e w'=>e=.returned (.tuple #[.string ⟨(Lx.join ts).1.toArray⟩,.int .i64 (Lx.join ts).2])/\Below w.heap.size w w':=by
 obtain⟨a0,cp,rfl⟩:∃a0 c,v=.slice a0 ts.length c:=by
  rcases hv with⟨rfl,a,c,rfl⟩ | ⟨g,c,cur,fr,rfl,_⟩
  ·exact⟨a,c,rfl⟩
  ·exact⟨_,c,rfl⟩
 have HV:=zh hv;clear hv;go_enter Tryz.func48, Tryz.ntmps48;have h0:Bld w.heap.size w.heap.size [] (w.alloc (.cells #[.pointer none,.slice none 0 0] 100)):=Lib.fresh_isBuilder _ _ _;have He:Below w.heap.size w (w.alloc (.cells #[.pointer none,.slice none 0 0] 100)):=(yqZ _ w).alloc (ybZ _) _;have HJ:Hid (Lx.join ts=match Lx.joinFrom 0 [] ts with | none=>([],1) | some b=>if 65536<b.length then([],2)else if 4096<ts.length then([],3)else(b,0)):=rfl;go_wp2;have H0:=zh h0;have Hg:=zh He;clear h0 He;go_loopg [11] (ts.length) (fun n v wr=>∃(m:Nat) (b:List UInt8),n=ts.length-m/\v=.int .i64 (m:Int)/\m<=ts.length/\Bld w.heap.size w.heap.size b wr/\Below w.heap.size w wr/\b.length<=3000100000/\Lx.joinFrom m b (ts.drop m)=Lx.joinFrom 0 [] ts)
 case atStart=>exact⟨0,[],rfl,rfl,yxZ _,H0.o,Hg.o,by simp,rfl⟩
 case round=>
  obtain⟨m,b,hn,rfl,hm,hB,hb,hbl,he⟩:=hrel;have HN:=zh hn;have HE:=zh he;clear hn he H0 Hg;by_cases hlt:m<ts.length
  ·have hi:(m:Int)<(ts.length:Int):=(by omega);have Ho:(0:Int)<=(m:Int):=(by omega);have Hd:(m:Int)<=1000000000:=(by omega);obtain⟨g,cur,fr,rfl,hgb,hcur⟩:∃g cur fr,a0=some ⟨g,0,none⟩/\w.heap[g]? =some (.cells cur 133 fr)/\cur.toList.take (ts.length * 4)=ts.flatMap cellsT:=by
    rcases HV.o with⟨h,_⟩ | ⟨g,c,cur,fr,h,h1,h2⟩
    ·rw[h]at hlt;simp at hlt
    ·injection h with h _ _;exact⟨g,cur,fr,h,h1,h2⟩
   have Hm:=zaZ hgb;have H4:=(hb.block g Hm).trans hgb;obtain⟨t0,t1,t2,t3⟩:=zgvZ H4 hcur hlt;have Hn:=zaZ H4;obtain⟨t,ht⟩:=zE (ts[m]'hlt);rw[ht]at t0 t1 t2 t3;obtain⟨ht1,ht2,ht3⟩:=hts t (by rw[<-ht];exact yfZ hlt);have Hi:=zh (show ts.drop m=t::ts.drop (m+1)by rw[List.drop_eq_getElem_cons hlt,ht]);clear ht hgb H4;have H1:Calls Tryz.prog 91 #[.agg #[.int .i64 t.pos,.int .i64 t.kind,.string ⟨t.s.toArray⟩,.int .i64 t.n]] (wr.alloc (.cells #[.int .i64 t.pos,.int .i64 t.kind,.string ⟨t.s.toArray⟩,.int .i64 t.n] 133)) fun e w'=>
     e=.returned (.tuple #[.string ⟨(Lx.written t).1.toArray⟩,.bool (Lx.written t).2])/\(wr.alloc (.cells #[.int .i64 t.pos,.int .i64 t.kind,.string ⟨t.s.toArray⟩,.int .i64 t.n] 133)).grownBy w' none/\Below w.heap.size w w'/\Bld w.heap.size w.heap.size b w':=
    (zobZ t _ ((hG.below hb).alloc _) (by have:=hb.size;simp;omega) ht1 ht2 ht3).mono fun e w' h=>⟨h.1,h.2,zeZ (((zbhZ hb).trans (yeZ _ _ _)).trans h.2),(hB.kept (yeZ _ _ _)).kept h.2⟩
   have Hl:=Lx.written_len t ht1 ht3;obtain⟨x,hx⟩:=zE ((Lx.written t).1);rw[hx]at H1 Hl;have Hj:=zh hx;clear hx;have H7:Lx.joinFrom m b (ts.drop m)=if(Lx.written t).2 then Lx.joinFrom (m+1) (Lx.joinStep m b x) (ts.drop (m+1))else none:=by rw[Hi.o];show(if(Lx.written t).2 then Lx.joinFrom (m+1) (Lx.joinStep m b (Lx.written t).1) (ts.drop (m+1))else none)=_;rw[Hj.o]
   have Hf:=zh (HE.o.symm.trans H7);clear H7
   cases hok:(Lx.written t).2 with
   | false=>have HR:=zh (show Lx.join ts=([],1)by rw[HJ.o,Hf.o,hok];rfl);rw[hok]at H1;clear hok;go_wp2_with (go_at_call 91;refine H1.mono ?_;clear H1;rintro e w5 ⟨rfl,Ha,H2,hB5⟩;have H5:=H2.size);refine ylZ (yDZ rfl _ _ _) rfl ?_;rw[HR.o];exact⟨rfl,H2⟩
   | true=>
    have HR:=zh (show Lx.joinFrom (m+1) (Lx.joinStep m b x) (ts.drop (m+1))=Lx.joinFrom 0 [] ts by rw[Hf.o,hok];rfl);rw[hok]at H1;clear hok;by_cases hbig:65536<b.length
    ·have H8:(65536:Int)<(b.length:Int):=(by omega);have H3:Lx.joinStep m b x=b:=(by unfold Lx.joinStep;rw[if_pos hbig]);rw[H3]at HR;clear H3;go_wp2_with (first | (go_at_call 91;refine H1.mono ?_;clear H1;rintro e w5 ⟨rfl,Ha,H2,hB5⟩;have H5:=H2.size) | (go_at_call 92;refine(zeoZ _ _ _ _ hB5).mono ?_;rintro e w' ⟨rfl,rfl⟩));go_roundg (ts.length-(m+1))
     case measure=>have:=HN.o;omega
     case rel=>exact⟨m+1,b,rfl,by simp,hlt,hB5,H2,hbl,HR.o⟩
    ·have H8:¬(65536:Int)<(b.length:Int):=(by omega);by_cases hm0:0<m
     ·have H9:(0:Int)<(m:Int):=(by omega);have H3:Lx.joinStep m b x=b++[32]++x:=(by unfold Lx.joinStep;rw[if_neg hbig,if_pos hm0]);rw[H3]at HR;clear H3;go_wp2_with (first | (go_at_call 91;refine H1.mono ?_;clear H1;rintro e w5 ⟨rfl,Ha,H2,hB5⟩;have H5:=H2.size) | (go_at_call 92;refine(zeoZ _ _ _ _ hB5).mono ?_;rintro e w' ⟨rfl,rfl⟩) | (go_at_call 93;refine(zdqZ w.heap.size w.heap.size b 32 _ hB5 (by omega) H5).mono ?_;rintro e w6 ⟨rfl,h6,Hc⟩) | (go_at_call 94;refine(zkxZ w.heap.size w.heap.size (b++[32]) ⟨x.toArray⟩ _ h6 (by show(b++[32]).length+x.length<=_;simp;omega) (by have:=Hc.size;omega)).mono ?_;rintro e w7 ⟨rfl,h7,Hb⟩));go_roundg (ts.length-(m+1))
      case measure=>have:=HN.o;omega
      case rel=>exact⟨m+1,_,rfl,by simp,hlt,h7,(H2.trans Hc).trans Hb,by show(b++[32]++x).length<=_;simp;omega,HR.o⟩
     ·have H9:¬(0:Int)<(m:Int):=(by omega);have H3:Lx.joinStep m b x=b++x:=(by unfold Lx.joinStep;rw[if_neg hbig,if_neg hm0]);rw[H3]at HR;clear H3;go_wp2_with (first | (go_at_call 91;refine H1.mono ?_;clear H1;rintro e w5 ⟨rfl,Ha,H2,hB5⟩;have H5:=H2.size) | (go_at_call 92;refine(zeoZ _ _ _ _ hB5).mono ?_;rintro e w' ⟨rfl,rfl⟩) | (go_at_call 94;refine(zkxZ w.heap.size w.heap.size b ⟨x.toArray⟩ _ hB5 (by show b.length+x.length<=_;omega) H5).mono ?_;rintro e w7 ⟨rfl,h7,Hb⟩));go_roundg (ts.length-(m+1))
      case measure=>have:=HN.o;omega
      case rel=>exact⟨m+1,_,rfl,by simp,hlt,h7,H2.trans Hb,by show(b++x).length<=_;simp;omega,HR.o⟩
  ·have Hk:m=ts.length:=(by omega);have hi:¬(m:Int)<(ts.length:Int):=(by omega);have H7:Lx.joinFrom 0 [] ts=some b:=(by rw[<-HE.o,yNZ (by omega)];rfl);have HR:=zh (show Lx.join ts=if 65536<b.length then([],2)else if 4096<ts.length then([],3)else(b,0)by rw[HJ.o,H7]);clear H7 Hk;have hB5:=hB;by_cases hbig:65536<b.length
   ·have H8:(65536:Int)<(b.length:Int):=(by omega);have H6:=zh (show Lx.join ts=([],2)by rw[HR.o,if_pos hbig]);go_wp2_with (first | (go_at_call 92;refine(zeoZ _ _ _ _ hB5).mono ?_;rintro e w' ⟨rfl,rfl⟩));refine ylZ (yDZ rfl _ _ _) rfl ?_;rw[H6.o];exact⟨rfl,hb⟩
   ·have H8:¬(65536:Int)<(b.length:Int):=(by omega);by_cases hmany:4096<ts.length
    ·have Hd:(4096:Int)<(ts.length:Int):=(by omega);have H6:=zh (show Lx.join ts=([],3)by rw[HR.o,if_neg hbig,if_pos hmany]);go_wp2_with (first | (go_at_call 92;refine(zeoZ _ _ _ _ hB5).mono ?_;rintro e w' ⟨rfl,rfl⟩));refine ylZ (yDZ rfl _ _ _) rfl ?_;rw[H6.o];exact⟨rfl,hb⟩
    ·have Hd:¬(4096:Int)<(ts.length:Int):=(by omega);have H6:=zh (show Lx.join ts=(b,0)by rw[HR.o,if_neg hbig,if_neg hmany]);go_wp2_with (first | (go_at_call 92;refine(zeoZ _ _ _ _ hB5).mono ?_;rintro e w' ⟨rfl,rfl⟩) | (go_at_call 95;refine(Tryz.Builder_String_any w.heap.size w.heap.size _ _ hB5 hb.size).mono ?_;rintro e w4 ⟨rfl,Hh⟩));refine ylZ (yDZ rfl _ _ _) rfl ?_;rw[H6.o];exact⟨rfl,hb.trans Hh⟩
theorem ToksIn.below {w w':World} {v:Value} {ts:List Lx.Tok} (h:ToksIn w v ts) (hb:Below w.heap.size w w'):ToksIn w' v ts:=by
 rcases h with h | ⟨g,c,cur,fr,h1,h2,h3⟩
 ·exact .inl h
 ·exact .inr ⟨g,c,cur,fr,h1,(hb.block g (zaZ h2)).trans h2,h3⟩
theorem ToksIn.slice {w:World} {v:Value} {ts:List Lx.Tok} (h:ToksIn w v ts):∃a c,v=.slice a ts.length c:=by
 rcases h with⟨rfl,a,c,rfl⟩ | ⟨g,c,cur,fr,rfl,_⟩
 ·exact⟨a,c,rfl⟩
 ·exact⟨_,c,rfl⟩
theorem ToksIn.at {w:World} {ts:List Lx.Tok} {a:Option Addr} {c m:Nat} (h:ToksIn w (.slice a ts.length c) ts) (hm:m<ts.length):∃g cur fr,a=some ⟨g,0,none⟩/\w.heap[g]? =some (.cells cur 133 fr)/\cur.toList.take (ts.length * 4)=ts.flatMap cellsT:=by
 rcases h with⟨h,_⟩ | ⟨g,c,cur,fr,h,h1,h2⟩
 ·rw[h]at hm;simp at hm
 ·injection h with h _ _;exact⟨g,cur,fr,h,h1,h2⟩
theorem Below.drewN {B:Nat} {w W:World} (h:Below B w W) (n:Nat):Below B w (W.drewN n):=⟨h.os,h.tape,h.output,h.size,h.block⟩
theorem zecZ {α:Type} {ts us:List α} {m:Nat} (h:ts.take m=us.take m) (h1:m<ts.length) (h2:m<us.length) (e:ts[m]=us[m]):ts.take (m+1)=us.take (m+1):=by
 rw[ykZ h1,ykZ h2,h,e]
structure GL (w:World):Prop where
 gs:GS w
theorem GL.below {w w':World} (h:GL w) (hb:Below w.heap.size w w'):GL w':=⟨h.gs.below hb⟩
theorem GL.alloc {w:World} (h:GL w) (o:Obj):GL (w.alloc o):=h.below (zeZ (yeZ _ _ _))
structure LW (w W:World):Prop where
 b:Below w.heap.size w W
 g:GL W
 n:NG<=W.heap.size
theorem LW.refl {w:World} (hG:GL w) (hN:NG<=w.heap.size):LW w w:=⟨yqZ _ _,hG,hN⟩
theorem LW.go {w W W':World} (h:LW w W) (hb:Below W.heap.size W W'):LW w W':=
 ⟨h.b.trans (hb.mono h.b.size),h.g.below hb,ymZ h.n hb.size⟩
theorem LW.alloc {w W:World} (h:LW w W) (o:Obj):LW w (W.alloc o):=h.go (zeZ (yeZ _ _ _))
theorem LW.drewN {w W:World} (h:LW w W) (n:Nat):LW w (W.drewN n):=h.go (Below.drewN (yqZ _ _) n)
end Go.Proofs.YtdncljdfmdgdaaaGreatDoor
namespace Go.Proofs.YtdncljdfmdgdaaaGreatDoor
open Go Go.ChangeShapes Go.WideShapes Go.ChangeAt Go.RowKit
noncomputable def laidL:List (String×DataW Unit):=Rows.syntaxRunsRow.laid
theorem ownK:ownKnob Tryz.prog.godebug=none:=by kernel_rfl
theorem zfzZ {P:Program} {W:World} : ∀ {l:List (String×DataW Unit)} {ps:List MemPlace} {x:String×DataW Unit},DataW.LaidVars P W l ps->x∈l->∃qs,DataW.LaidVars P W [x] qs/\List.Sublist qs ps
 | [],_,x,_,hx=>by cases hx
 | (n,d)::r,ps,x,h,hx=>by
  obtain⟨g,t,cs,fuel,p,q,h1,h2,h3,h4,h5,rfl⟩:=h;rcases yTZ.1 hx with rfl | hx
  ·exact⟨_,⟨g,t,cs,fuel,p,[],h1,h2,h3,h4,rfl,rfl⟩,by simp⟩
  ·obtain⟨qs,e1,e2⟩:=zfzZ h5 hx;exact⟨qs,e1,e2.trans (List.sublist_append_right _ _)⟩
theorem zcyZ {P:Program} {W:World} {l:List (String×DataW Unit)} {x:String×DataW Unit} (h:laidMet P l W) (hx:x∈l):laidMet P [x] W:=by
 obtain⟨ps,h1,h2,h3⟩:=h;obtain⟨qs,e1,e2⟩:=zfzZ h1 hx;exact⟨qs,e1,e2.nodup h2,fun b off hb=>h3 b off (e2.subset hb)⟩
theorem zsaZ:(Tryz.prog.globals[2]?).map (·.type)=some 210 :=by kernel_rfl
theorem zsbZ:(Tryz.prog.globals[0]?).map (·.type)=some 205 :=by kernel_rfl
theorem gSyn : Tryz.prog.globalNamed "strconv.ErrSyntax" =some 4 :=by kernel_rfl
theorem gRng : Tryz.prog.globalNamed "strconv.ErrRange" =some 5 :=by kernel_rfl
theorem zscZ:(Tryz.prog.globals[4]?).map (·.type)=some 75 :=by kernel_rfl
theorem zsdZ:(Tryz.prog.globals[5]?).map (·.type)=some 75 :=by kernel_rfl
theorem ziiZ {W:World} {n:String} {g:Nat} {nm:String} {d:DataW Unit} (hg : Tryz.prog.globalNamed n=some g) (ht:(Tryz.prog.globals[g]?).map (·.type)=some 75) (h:laidMet Tryz.prog [(n,.iface nm d)] W):ErrCell W g:=by
 obtain⟨ps,⟨g',t',cs,fuel,p,q,h1,h2,h3,h4,_,_⟩,_⟩:=h;obtain rfl:=Option.some.inj (hg.symm.trans h1);obtain rfl:=Option.some.inj (ht.symm.trans h2);obtain⟨f',u,v,hcs,_,_⟩:=iface_of_trod Tryz.underlying75 h4;have hc:=World.var?_cell h1 h3 0;rw[Array.eq_one_of_toList hcs]at hc;exact⟨.iface u v,by simpa using hc,.inr ⟨u,v,rfl⟩⟩
theorem NG_le {w:World} (h:GL w):NG<=w.heap.size:=by
 have h1:=zebZ gAsc h.gs.asc;have h2:=zebZ gPow h.gs.pow;obtain⟨e1,h3,_⟩:=h.gs.syn;obtain⟨e2,h4,_⟩:=h.gs.rng;have h3:=zcxZ h3;have h4:=zcxZ h4;unfold NG;simp only[Nat.max_def]
 repeat' split
 all_goals omega
theorem ascIs:(Rows.laid_strings_asciiSpace:DataW Unit)=Lib.tabData .u8 Lib.asciiSpaceTab:=by kernel_rfl
theorem powIs:(Rows.laid_internal_strconv_uint64pow10:DataW Unit)=Lib.tabData .u64 Lib.pow10Tab:=by kernel_rfl
theorem zocZ {W:World} (h:laidMetH Tryz.prog laidL W):GL W:=by
 have h':=(MakeChecks.laidMetH_plain Tryz.prog laidL W (by kernel_rfl)).mp h;have hp:laidMet Tryz.prog [("internal/strconv.uint64pow10",Rows.laid_internal_strconv_uint64pow10)] W:=zcyZ h' (.tail _ (.tail _ (.head _)))
 have ha:laidMet Tryz.prog [("strings.asciiSpace",Rows.laid_strings_asciiSpace)] W:=zcyZ h' (.tail _ (.tail _ (.tail _ (.tail _ (.tail _ (.tail _ (.head _)))))))
 have hr:laidMet Tryz.prog [("strconv.ErrRange",Rows.laid_strconv_ErrRange)] W:=zcyZ h' (.tail _ (.tail _ (.tail _ (.head _))))
 have hs:laidMet Tryz.prog [("strconv.ErrSyntax",Rows.laid_strconv_ErrSyntax)] W:=zcyZ h' (.tail _ (.tail _ (.tail _ (.tail _ (.head _)))))
 refine⟨⟨?_,?_,ziiZ gSyn zscZ hs,ziiZ gRng zsdZ hr⟩⟩
 ·exact Lib.tabIs_of_head gAsc zsaZ Tryz.underlying210 Tryz.underlying5 (by kernel_rfl) (by kernel_rfl) (by rw[ascIs]at ha;exact ha)
 ·exact Lib.tabIs_of_head gPow zsbZ Tryz.underlying205 Tryz.underlying196 (by kernel_rfl) (by kernel_rfl) (by rw[powIs]at hp;exact hp)
theorem zseZ (os:Os) (args:Array Value):laidMetH Tryz.prog laidL ((World.doorLaid Tryz.prog 400 os).forCall (fun _ _=>0) ⟨#[],args,[]⟩).memory:=
 (MakeChecks.laidMetH_plain Tryz.prog laidL _ (by kernel_rfl)).mpr (laidMet_of_run' 12 (by kernel_rfl) (by kernel_rfl))
theorem zmmZ (os:Os) (args:Array Value):((World.doorLaid Tryz.prog 400 os).forCall (fun _ _=>0) ⟨#[],args,[]⟩).Shaped Tryz.prog:=
 World.shaped_of_RefB (by kernel_rfl) (by kernel_rfl)
theorem zsfZ:laidOutB Tryz.prog=true:=by kernel_rfl
theorem zkfZ {H:Type} {enc:TypeId×Value->H} {P:Program} (hl:laidOutB P=true) {W W':World} (hb:Below W.heap.size W W'):∀ {ts:List TypeId} {vs:List Value} {ds:List (DataW H)} {p:List MemPlace},
  (ts.all fun t=>P.readableRec t&&decide (t<P.types.size))=true->DataW.TrodAll enc P W 0 (fun _=>true) true ts vs ds p->(∀x∈p,x.block<W.heap.size)->
  DataW.TrodAll enc P W' 0 (fun b=>decide (b<W.heap.size)) true ts vs ds p:=by
 intro ts
 induction ts with
 | nil=>intro vs ds p _ h _;obtain⟨rfl,rfl,rfl⟩:=trodAll_nil h;exact trodAll_mk0
 | cons t ts ih=>intro vs ds p ht h H0;obtain⟨v,vs',d,ds',p1,p2,rfl,rfl,rfl,h1,h2⟩:=trodAll_cons h;rw[List.all_cons,ygZ,ygZ]at ht;exact⟨p1,p2,Below.trod hl ht.1.1 (yBZ ht.1.2) h1 hb (fun x hx=>H0 x (by simp[hx])),ih ht.2 h2 (fun x hx=>H0 x (by simp[hx])),rfl⟩
theorem zwnZ {H:Type} {enc:TypeId×Value->H} {f:Func} {s:ChangeSpec} {W W':World} {args:Array Value} {ds:List (DataW H)} {before:List MemPlace}
  (hv:s.vars=[]) (hr:f.resultTypes=#[4]) (hps:(f.params.toList.all fun t=> Tryz.prog.readableRec t&&decide (t < Tryz.prog.types.size))=true)
  (hfn:s.fn H ds={ results:=[.lit (.bool true)],args:=ds })
  (hW:DataW.Whole enc Tryz.prog f.params.toList s.vars false W args.toList ds [] before) (hb:Below W.heap.size W W') :
  s.post enc Tryz.prog f false true false false W args (.bool true) W':=by
 have hW':=hW;obtain⟨p,q,hA,hV,rfl,hz,hn⟩:=hW;rw[hv]at hV;obtain rfl:q=[]:=hV;have H0:∀x∈p,x.block<W.heap.size:=fun x hx=>by simpa using hW'.lt x (by simpa using hx)
 have e:s.fn H (ds++[])={ results:=[.lit (.bool true)],args:=ds } :=by rw[List.append_nil];exact hfn
 refine⟨ds,[],_,[],p,[],hW',?_,?_,?_,hb.frame _,fun h=>by cases h⟩
 ·rw[e,hr];exact trodAll_mk1 (shut_bool Tryz.underlying4 true)
 ·rw[e];exact zkfZ zsfZ hb hps hA H0
 ·rw[e,hv];rfl
end Go.Proofs.YtdncljdfmdgdaaaGreatDoor
namespace Go.Proofs.YtdncljdfmdgdaaaGreatDoor
open Go.ChangeShapes Go.WideShapes Go.ChangeAt Go.RowKit
theorem zodZ {n:Int} (h:(Lit.int .i64 n).wf=true):-9223372036854775808<=n/\n<=9223372036854775807:=by
 simp only[Lit.wf,ygZ,yCZ]at h;exact h
theorem zbxZ {α:Type} {P:Nat->α->Prop} : ∀(n:Nat),(∀i,i<n->∃x,P i x)->∃l:List α,l.length=n/\∀i (h:i<l.length),P i (l[i]'h)
 | 0,_=>⟨[],rfl,fun i h=>by simp at h⟩
 | n+1,h=>by
  obtain⟨l,hl,hp⟩:=zbxZ n (fun i hi=>h i (by omega));obtain⟨x,hx⟩:=h n (by omega);refine⟨l++[x],by simp[hl],fun i hi=>?_⟩;by_cases hin:i<l.length
  ·rw[List.getElem_append_left hin];exact hp i hin
  ·have:i=n:=(by simp at hi;omega);subst this;rw[List.getElem_append_right (by omega)];simpa[hl]using hx
def TokAt (w:World) (b o:Nat) (t:Lx.Tok):Prop:=
 w.cell? ⟨b,o,none⟩=some (.int .i64 t.pos)/\w.cell? ⟨b,o+1,none⟩=some (.int .i64 t.kind)/\w.cell? ⟨b,o+2,none⟩=some (.string ⟨t.s.toArray⟩)/\w.cell? ⟨b,o+3,none⟩=some (.int .i64 t.n)/\
  -9223372036854775808<=t.n/\t.n<=9223372036854775807
theorem fP0:(Tryz.prog.fieldsOf 36)[0]?.map (fun f=>(f.type,f.offset))=some (3,0):=by kernel_rfl
theorem uP : Tryz.prog.underlying 36 =some (.struct (Tryz.prog.fieldsOf 36)):=by kernel_rfl
theorem cT : Tryz.prog.cellsOf 133 =4:=by kernel_rfl
theorem cP : Tryz.prog.cellsOf 36 =1:=by kernel_rfl
theorem cI : Tryz.prog.cellsOf 3 =1:=by kernel_rfl
theorem cS : Tryz.prog.cellsOf 9 =1:=by kernel_rfl
theorem zclZ (b off n:Nat):(⟨b,off,none⟩:Addr).add n=⟨b,off+n,none⟩:=by
 unfold Addr.add;split <;> simp_all
end Go.Proofs.YtdncljdfmdgdaaaGreatDoor
namespace Go.Proofs.YtdncljdfmdgdaaaGreatDoor.Sx
open Go.Proofs.YtdncljdfmdgdaaaGreatDoor.Lx (Bytes)
inductive Ty where
 | mk (kind:Int) (name:Bytes) (names:List Bytes) (embeds:List Bool) (parts:List Ty)
def Ty.kind:Ty->Int | .mk k _ _ _ _=>k
def Ty.name:Ty->Bytes | .mk _ n _ _ _=>n
def Ty.names:Ty->List Bytes | .mk _ _ ns _ _=>ns
def Ty.embeds:Ty->List Bool | .mk _ _ _ es _=>es
def Ty.parts:Ty->List Ty | .mk _ _ _ _ ps=>ps
mutual
def depth:Ty->Nat
 | .mk _ _ _ _ ps=>1+depthL ps
def depthL:List Ty->Nat
 | []=>0
 | t::l=>max (depth t) (depthL l)
end
mutual
def nodes:Ty->Nat
 | .mk k _ _ _ ps=>(if k=4 then 0 else 1)+nodesL ps
def nodesL:List Ty->Nat
 | []=>0
 | t::l=>nodes t+nodesL l
end
mutual
def allNames:Ty->List Bytes
 | .mk k n _ _ ps=>(if k=4 then [n]else [])++allNamesL ps
def allNamesL:List Ty->List Bytes
 | []=>[]
 | t::l=>allNames t++allNamesL l
end
def once:List Bytes->List Bytes->List Bytes
 | acc,[]=>acc
 | acc,s::l=>if acc.contains s then once acc l else once (acc++[s]) l
mutual
def size:Ty->Nat
 | .mk _ n ns es ps=>1+n.length+ns.length+es.length+(ns.map List.length).sum+sizeL ps
def sizeL:List Ty->Nat
 | []=>0
 | t::l=>size t+sizeL l
end
theorem depth_parts (t:Ty):depth t=1+depthL t.parts:=by cases t;rw[depth];rfl
theorem nodes_parts (t:Ty):nodes t=(if t.kind=4 then 0 else 1)+nodesL t.parts:=by cases t;rw[nodes];rfl
theorem names_parts (t:Ty):allNames t=(if t.kind=4 then [t.name]else [])++allNamesL t.parts:=by cases t;rw[allNames];rfl
theorem zdhZ:∀(l m:List Ty),nodesL (l++m)=nodesL l+nodesL m
 | [],m=>by simp[nodesL]
 | t::l,m=>by rw[yHZ,nodesL,nodesL,zdhZ l m];omega
theorem zdiZ:∀(l m:List Ty),depthL (l++m)=max (depthL l) (depthL m)
 | [],m=>by simp[depthL]
 | t::l,m=>by rw[yHZ,depthL,depthL,zdiZ l m];omega
theorem namesL_append:∀(l m:List Ty),allNamesL (l++m)=allNamesL l++allNamesL m
 | [],m=>by simp[allNamesL]
 | t::l,m=>by rw[yHZ,allNamesL,allNamesL,namesL_append l m,yiZ]
theorem once_append:∀(a l m:List Bytes),once a (l++m)=once (once a l) m
 | a,[],m=>rfl
 | a,s::l,m=>by
  rw[yHZ,once,once];split
  ·exact once_append a l m
  ·exact once_append _ l m
/-! ### what is written -/
structure Wr where
 b:Bytes
 n:Nat
def put (w:Wr) (s:Bytes):Wr:=⟨if 65536<w.b.length then w.b else(if 0<w.b.length then w.b++[32]else w.b)++s,w.n+1⟩
def puts (w:Wr) (l:List Bytes):Wr:=l.foldl put w
theorem puts_append (w:Wr) (l m:List Bytes):puts w (l++m)=puts (puts w l) m:=by unfold puts;rw[List.foldl_append]
def told (right:Bool) (w:Wr):Bytes×Nat:=
 if !right then([],1)else if 65536<w.b.length then([],2)else if 4096<w.n then([],3)else(w.b,0)
mutual
def typ:Ty->List Bytes
 | .mk k n ns es ps=>
  if k=1 then [[105,110,116]]
  else if k=2 then [[98,111,111,108]]
  else if k=3 then [[116,101,120,116]]
  else if k=4 then [n]
  else if k=5 then [42]::typL ps
  else if k=6 then [[123]]++fields ns es ps++[[125]]
  else if k=7 then [[102,110]]++([[40]]++params 0 ps)
  else if k=8 then [[105,110,116,101,114,102,97,99,101],[123]]++methods ns ps++[[125]]
  else []
def typL:List Ty->List Bytes
 | []=>[]
 | t::_=>typ t
def fields:List Bytes->List Bool->List Ty->List Bytes
 | n::ns,e::es,t::ps=>(if e then [[101,109,98,101,100]]else [])++([n]++typ t++[[59]])++fields ns es ps
 | _,_,_=>[]
def params:Nat->List Ty->List Bytes
 | _,[]=>[]
 | i,t::l=>if l.isEmpty then [[41]]++typ t else(if 0<i then [[44]]else [])++typ t++params (i+1) l
def methods:List Bytes->List Ty->List Bytes
 | n::ns,t::ps=>[n]++signature t++[[59]]++methods ns ps
 | _,_=>[]
def signature:Ty->List Bytes
 | .mk _ _ _ _ ps=>[[40]]++params 0 ps
end
end Go.Proofs.YtdncljdfmdgdaaaGreatDoor.Sx
namespace Go.Proofs.YtdncljdfmdgdaaaGreatDoor
open Go.RowKit
def StrRow (W:World) (v:Value) (ns:List Lx.Bytes):Prop:=
 ∃A c,v=.slice A ns.length c/\∀i (h:i<ns.length),∃g off,A=some ⟨g,off,none⟩/\W.cell? ⟨g,off+i,none⟩=some (.string ⟨(ns[i]'h).toArray⟩)
def BoolRow (W:World) (v:Value) (es:List Bool):Prop:=
 ∃A c,v=.slice A es.length c/\∀i (h:i<es.length),∃g off,A=some ⟨g,off,none⟩/\W.cell? ⟨g,off+i,none⟩=some (.bool (es[i]'h))
mutual
def IsTy (W:World):Value->Sx.Ty->Prop
 | v,.mk k nm ns es ps=>∃vn ve A c,v=.agg #[.int .i64 k,.string ⟨nm.toArray⟩,vn,ve,.slice A ps.length c]/\StrRow W vn ns/\BoolRow W ve es/\ps.length<=c/\IsTys W A 0 ps
def IsTys (W:World) (A:Option Addr):Nat->List Sx.Ty->Prop
 | _,[]=>True
 | i,t::l=>(∃g off v0 v1 v2 v3 v4,A=some ⟨g,off,none⟩/\W.cell? ⟨g,off+i * 5,none⟩=some v0/\W.cell? ⟨g,off+i * 5+1,none⟩=some v1/\W.cell? ⟨g,off+i * 5+2,none⟩=some v2/\
   W.cell? ⟨g,off+i * 5+3,none⟩=some v3/\W.cell? ⟨g,off+i * 5+4,none⟩=some v4/\IsTy W (.agg #[v0,v1,v2,v3,v4]) t)/\IsTys W A (i+1) l
end
def TyRow (W:World) (v:Value) (l:List Sx.Ty):Prop:=∃A c,v=.slice A l.length c/\l.length<=c/\IsTys W A 0 l
theorem StrRow.below {W W':World} {v:Value} {ns:List Lx.Bytes} (h:StrRow W v ns) (hb:Below W.heap.size W W'):StrRow W' v ns:=by
 obtain⟨A,c,rfl,hi⟩:=h;refine⟨A,c,rfl,fun i hl=>?_⟩;obtain⟨g,off,hA,hc⟩:=hi i hl;exact⟨g,off,hA,(World.cell?_of_block (hb.block g (World.block_lt_of_cell? W ⟨g,off+i,none⟩ hc))).trans hc⟩
theorem BoolRow.below {W W':World} {v:Value} {es:List Bool} (h:BoolRow W v es) (hb:Below W.heap.size W W'):BoolRow W' v es:=by
 obtain⟨A,c,rfl,hi⟩:=h;refine⟨A,c,rfl,fun i hl=>?_⟩;obtain⟨g,off,hA,hc⟩:=hi i hl;exact⟨g,off,hA,(World.cell?_of_block (hb.block g (World.block_lt_of_cell? W ⟨g,off+i,none⟩ hc))).trans hc⟩
mutual
theorem IsTy.below {W W':World} (hb:Below W.heap.size W W'):∀(t:Sx.Ty) (v:Value),IsTy W v t->IsTy W' v t
 | .mk k nm ns es ps,v,h=>by rw[IsTy]at h ⊢;obtain⟨vn,ve,A,c,hv,h1,h2,h4,h3⟩:=h;exact⟨vn,ve,A,c,hv,h1.below hb,h2.below hb,h4,IsTys.below hb ps A 0 h3⟩
theorem IsTys.below {W W':World} (hb:Below W.heap.size W W'):∀(l:List Sx.Ty) (A:Option Addr) (i:Nat),IsTys W A i l->IsTys W' A i l
 | [],A,i,h=>by rw[IsTys];trivial
 | t::l,A,i,h=>by rw[IsTys]at h ⊢;obtain⟨⟨g,off,v0,v1,v2,v3,v4,hA,h0,h1,h2,h3,h4,ht⟩,hl⟩:=h;have hc:∀ {j:Nat} {u:Value},W.cell? ⟨g,j,none⟩=some u->W'.cell? ⟨g,j,none⟩=some u:=fun {j u} hj=>(World.cell?_of_block (hb.block g (World.block_lt_of_cell? W ⟨g,j,none⟩ hj))).trans hj;exact⟨⟨g,off,v0,v1,v2,v3,v4,hA,hc h0,hc h1,hc h2,hc h3,hc h4,IsTy.below hb t _ ht⟩,IsTys.below hb l A (i+1) hl⟩
end
theorem TyRow.below {W W':World} {v:Value} {l:List Sx.Ty} (h:TyRow W v l) (hb:Below W.heap.size W W'):TyRow W' v l:=by
 obtain⟨A,c,rfl,hc,hl⟩:=h;exact⟨A,c,rfl,hc,IsTys.below hb l A 0 hl⟩
theorem IsTys.at {W:World} {A:Option Addr} : ∀ {l:List Sx.Ty} {k:Nat},IsTys W A k l->∀(m:Nat) (h:m<l.length),∃g off v0 v1 v2 v3 v4,A=some ⟨g,off,none⟩/\W.cell? ⟨g,off+(k+m) * 5,none⟩=some v0/\W.cell? ⟨g,off+(k+m) * 5+1,none⟩=some v1/\
  W.cell? ⟨g,off+(k+m) * 5+2,none⟩=some v2/\W.cell? ⟨g,off+(k+m) * 5+3,none⟩=some v3/\W.cell? ⟨g,off+(k+m) * 5+4,none⟩=some v4/\IsTy W (.agg #[v0,v1,v2,v3,v4]) (l[m]'h)
 | t::l,k,h,0,hm=>by rw[IsTys]at h;exact h.1
 | t::l,k,h,m+1,hm=>by rw[IsTys]at h;have:=IsTys.at h.2 m (by simpa using hm);rw[show k+1+m=k+(m+1)by omega]at this;exact this
theorem IsTy.limbs {W:World} {v:Value} {t:Sx.Ty} (h:IsTy W v t):∃vn ve vp,v=.agg #[.int .i64 t.kind,.string ⟨t.name.toArray⟩,vn,ve,vp]/\StrRow W vn t.names/\BoolRow W ve t.embeds/\TyRow W vp t.parts:=by
 cases t with
 | mk k nm ns es ps=>rw[IsTy]at h;obtain⟨vn,ve,A,c,hv,h1,h2,h4,h3⟩:=h;exact⟨vn,ve,_,hv,h1,h2,A,c,rfl,h4,h3⟩
end Go.Proofs.YtdncljdfmdgdaaaGreatDoor
namespace Go.Proofs.YtdncljdfmdgdaaaGreatDoor.Sx
open Go.Proofs.YtdncljdfmdgdaaaGreatDoor.Lx (Bytes)
theorem size_parts (t:Ty):size t=1+t.name.length+t.names.length+t.embeds.length+(t.names.map List.length).sum+sizeL t.parts:=by cases t;rw[size];rfl
theorem size_pos (t:Ty):1<=size t:=by rw[size_parts];omega
theorem size_mem:∀ {l:List Ty} {t:Ty},t∈l->size t<=sizeL l
 | u::l,t,h=>by
  rw[sizeL];rcases yTZ.1 h with rfl | h
  ·omega
  ·have:=size_mem h;omega
theorem parts_mem {l:List Ty} {t:Ty} (h:t∈l):sizeL t.parts<sizeL l:=by
 have h1:=size_mem h;have h2:=size_parts t;omega
theorem length_size:∀(l:List Ty),l.length<=sizeL l
 | []=>by simp[sizeL]
 | t::l=>by rw[sizeL,yhZ];have:=length_size l;have:=size_pos t;omega
mutual
theorem zoeZ:∀(t:Ty),nodes t<=size t
 | .mk k n ns es ps=>by rw[nodes,size];have:=nodesL_size ps;split <;> omega
theorem nodesL_size:∀(l:List Ty),nodesL l<=sizeL l
 | []=>by simp[nodesL]
 | t::l=>by rw[nodesL,sizeL];have:=zoeZ t;have:=nodesL_size l;omega
end
mutual
theorem zofZ:∀(t:Ty),depth t<=size t
 | .mk k n ns es ps=>by rw[depth,size];have:=depthL_size ps;omega
theorem depthL_size:∀(l:List Ty),depthL l<=sizeL l
 | []=>by simp[depthL]
 | t::l=>by rw[depthL,sizeL];have:=zofZ t;have:=depthL_size l;omega
end
theorem zdvZ:∀(l m:List Ty),sizeL (l++m)=sizeL l+sizeL m
 | [],m=>by simp[sizeL]
 | t::l,m=>by rw[yHZ,sizeL,sizeL,zdvZ l m];omega
theorem nodes_take {l:List Ty} {m:Nat} (h:m<l.length):nodesL (l.take (m+1))=nodesL (l.take m)+nodes l[m]:=by
 rw[ykZ h,zdhZ];simp[nodesL]
theorem depth_take {l:List Ty} {m:Nat} (h:m<l.length):depthL (l.take (m+1))=max (depthL (l.take m)) (depth l[m]):=by
 rw[ykZ h,zdiZ];simp[depthL]
theorem size_take {l:List Ty} {m:Nat} (h:m<l.length):sizeL (l.take (m+1))=sizeL (l.take m)+size l[m]:=by
 rw[ykZ h,zdvZ];simp[sizeL]
theorem nodesL_take_le (l:List Ty) (m:Nat):nodesL (l.take m)<=nodesL l:=by
 conv=>rhs;rw[<-ydbZ m l,zdhZ]
 omega
theorem depthL_take_le (l:List Ty) (m:Nat):depthL (l.take m)<=depthL l:=by
 conv=>rhs;rw[<-ydbZ m l,zdiZ]
 omega
theorem sizeL_take_le (l:List Ty) (m:Nat):sizeL (l.take m)<=sizeL l:=by
 conv=>rhs;rw[<-ydbZ m l,zdvZ]
 omega
end Go.Proofs.YtdncljdfmdgdaaaGreatDoor.Sx
namespace Go.Proofs.YtdncljdfmdgdaaaGreatDoor
open Go.RowKit Go.WideMaps
theorem Sx.mem_once:∀(l acc:List Lx.Bytes) (s:Lx.Bytes),s∈Sx.once acc l↔s∈acc\/s∈l
 | [],acc,s=>by simp[Sx.once]
 | x::l,acc,s=>by
  rw[Sx.once];split
  ·rename_i h;rw[Sx.mem_once l acc s,yTZ];have hx:x∈acc:=(by simpa using h);constructor
   ·rintro(h | h)
    ·exact .inl h
    ·exact .inr (.inr h)
   ·rintro(h | rfl | h)
    ·exact .inl h
    ·exact .inl hx
    ·exact .inr h
  ·rw[Sx.mem_once l _ s];simp[or_assoc]
theorem Sx.once_new {l:List Lx.Bytes} {s:Lx.Bytes} (h:l.count s=0):Sx.once [] (l++[s])=Sx.once [] l++[s]:=by
 rw[Sx.once_append,Sx.once,if_neg,Sx.once];intro h';have:=(Sx.mem_once l [] s).1 (by simpa using h');rcases this with h1 | h1
 ·cases h1
 ·exact List.count_eq_zero.1 h h1
theorem Sx.once_old {l:List Lx.Bytes} {s:Lx.Bytes} (h:0<l.count s):Sx.once [] (l++[s])=Sx.once [] l:=by
 rw[Sx.once_append,Sx.once,if_pos,Sx.once];have:=(Sx.mem_once l [] s).2 (.inr (List.count_pos_iff.1 h));simpa using this
theorem Sx.once_len:∀(l acc:List Lx.Bytes),(Sx.once acc l).length<=acc.length+l.length
 | [],acc=>by simp[Sx.once]
 | x::l,acc=>by
  rw[Sx.once];split
  ·have:=Sx.once_len l acc;simp;omega
  ·have:=Sx.once_len l (acc++[x]);simp at this ⊢;omega
def strsV (l:List Lx.Bytes):List Value:=l.map fun s=>Value.string ⟨s.toArray⟩
def OwnS (w:World) (base:Nat) (v:Value) (l:List Lx.Bytes):Prop:=w.ownsRow base 9 1 v l.length (strsV l)
theorem zdsZ:(Tryz.prog.info? 9).map (fun i=>(i.zero,i.size,i.bytes))=some (some (.string ByteArray.empty),1,16):=by kernel_rfl
theorem zjbZ (w:World):(zeroValue 3).run Tryz.prog w=.ok (.int .i64 0) w:=by kernel_rfl
theorem OwnS.slice {w:World} {base:Nat} {v:Value} {l:List Lx.Bytes} (h:OwnS w base v l):∃A c,v=.slice A l.length c:=by
 rcases h.2 with⟨rfl,h0⟩ | ⟨g,cap,cur,rfl,_⟩
 ·exact⟨none,0,by rw[h0]⟩
 ·exact⟨_,cap,rfl⟩
structure Met (B bl bc b:Nat) (l:List Lx.Bytes) (w:World):Prop where
 hl:B<=bl
 hc:B<=bc
 hb:B<=b
 bk:∃v,Boxed w bl 22 v/\OwnS w B v (Sx.once [] l)
 cm:Boxed w bc 107 (.map (some b))
 mp:∃n,∃D:DataW Unit,n<=l.length/\w.ownsMap Tryz.prog 9 (plainElem Tryz.prog 3) b n D/\Maps.IsMap D/\∀s,D.atKey (.string s) (.lit (.int .i64 0))=.lit (.int .i64 (l.count s:Nat))
theorem OwnS.ne_box {w:World} {B bl t:Nat} {v x:Value} {l:List Lx.Bytes} (h:OwnS w B v l) (ht : 9 ≠t) (hb:Boxed w bl t x):∀r,v.ownBlock=some r->B<=r/\bl≠r:=by
 intro r hr;obtain⟨h1,c,h2⟩:=zckZ h r hr;refine⟨h1,fun e=>?_⟩;subst e;rw[show w.heap[bl]? =_ from hb]at h2;injection h2 with h2;injection h2 with _ h2;exact ht h2.symm
theorem zwoZ {w:World} {a b t t':Nat} {x y:Value} (h:Boxed w a t x) (h':Boxed w b t' y) (hne:t≠t'):a≠b:=by
 rintro rfl;unfold Boxed at h h';rw[h]at h';injection h' with h';injection h' with _ h';exact hne h'
theorem zcZ {w:World} {g t:Nat} {a b c d e:Value} (h:w.heap[g]? =some (.cells #[a,b,c,d,e] t (0,0))) :
  w.cell? ⟨g,0,none⟩=some a/\w.cell? ⟨g,1,none⟩=some b/\w.cell? ⟨g,2,none⟩=some c/\w.cell? ⟨g,3,none⟩=some d/\w.cell? ⟨g,4,none⟩=some e:=
 ⟨zdZ h 0,zdZ h 1,zdZ h 2,zdZ h 3,zdZ h 4⟩
theorem zmnZ {H:Type} {w:World} {P:Program} {k:TypeId} {R:Value->Option (DataW H×List MemPlace)} {b n:Nat} {D:DataW H} (h:w.ownsMap P k R b n D) {a:Addr} (ha:b≠a.block) (u:Value):(w.setCell a u).ownsMap P k R b n D:=by
 obtain⟨es,clock,hb,r⟩:=h;exact⟨es,clock,by rw[yuZ _ _ _ _ ha];exact hb,r⟩
theorem zeyZ {H:Type} {w:World} {P:Program} {k:TypeId} {R:Value->Option (DataW H×List MemPlace)} {b n:Nat} {D:DataW H} (h:w.ownsMap P k R b n D) {g t:Nat} {x:Value} (hb:Boxed w g t x):b≠g:=by
 obtain⟨es,clock,h1,r⟩:=h;rintro rfl;rw[show w.heap[b]? =_ from hb]at h1;cases h1
theorem zhaZ {H:Type} {w:World} {P:Program} {k:TypeId} {R:Value->Option (DataW H×List MemPlace)} {b n:Nat} {D:DataW H} (h:w.ownsMap P k R b n D) {B:Nat} {v:Value} {l:List Lx.Bytes} (ho:OwnS w B v l):some b≠v.ownBlock:=by
 intro e;obtain⟨h1,c,h2⟩:=zckZ ho b e.symm;obtain⟨es,clock,h3,r⟩:=h;rw[h3]at h2;cases h2
theorem zpiZ (a:Int) (h1:-1000000000<=a) (h2:a<=1000000000):(Lit.int .i64 a).wf=true:=by
 have e1:IntKind.min .i64=-9223372036854775808:=by decide
 have e2:IntKind.max .i64=9223372036854775807:=by decide
 simp only[Lit.wf,e1,e2,ygZ,yCZ];omega
def Keep (w w':World):Prop:=∀(k:Nat) (cs:Array Value) (t:TypeId) (fr:Nat×Nat),w.heap[k]? =some (Obj.cells cs t fr)->t≠ 9 ->t≠ 22 ->w'.heap[k]? =some (Obj.cells cs t fr)
theorem Keep.refl (w:World):Keep w w:=fun _ _ _ _ h _ _=>h
theorem Keep.trans {a b c:World} (h:Keep a b) (h':Keep b c):Keep a c:=fun k cs t fr hk h1 h2=>h' k cs t fr (h k cs t fr hk h1 h2) h1 h2
theorem Keep.grown {w w':World} {row:Option Nat} (hg:w.grownBy w' row) (hr:∀j,row=some j->∀cs t fr,w.heap[j]? =some (.cells cs t fr)->t= 9 \/t= 22):Keep w w':=by
 intro k cs t fr hk h1 h2;refine(hg.block k (zaZ hk) (fun e=>?_)).trans hk;rcases hr k e.symm cs t fr hk with h | h
 ·exact h1 h
 ·exact h2 h
theorem Keep.set {w:World} {bl:Nat} {v:Value} (h:Boxed w bl 22 v) (u:Value):Keep w (w.setCell ⟨bl,0,none⟩ u):=by
 intro k cs t fr hk h1 h2;refine(yuZ w ⟨bl,0,none⟩ u k ?_).trans hk;rintro rfl;rw[show w.heap[k]? =_ from h]at hk;injection hk with hk;injection hk with _ hk;exact h2 hk.symm
theorem Met.kept {B bl bc b:Nat} {l:List Lx.Bytes} {w w':World} (h:Met B bl bc b l w) (hg:w.grownBy w' none):Met B bl bc b l w':=by
 obtain⟨h1,h2,h3,⟨v,hbl,ho⟩,hbc,n,D,hn,hm,hD,hat⟩:=h;exact⟨h1,h2,h3,⟨v,hbl.kept hg (by simp),World.ownsRow.kept ho hg (by cases v.ownBlock <;> simp)⟩,hbc.kept hg (by simp),n,D,hn,hm.kept hg (by simp),hD,hat⟩
theorem zuuZ (B bl bc b:Nat) (l:List Lx.Bytes) (s:Lx.Bytes) (w:World) (h:Met B bl bc b l w) (hB:B<=w.heap.size) (hl:l.length<=1000000) (hs:s.length<=140737488351232) :
  Calls Tryz.prog 62 #[.string ⟨s.toArray⟩,.pointer (some ⟨bc,0,none⟩),.pointer (some ⟨bl,0,none⟩)] w fun e w'=>
   e=.returned (.tuple #[])/\Met B bl bc b (l++[s]) w'/\Below B w w'/\Keep w w':=by
 obtain⟨h1,h2,h3,⟨v,hbl,ho⟩,hbc,n,D,hn,hm,hD,hat⟩:=h;have H6:keyOf Tryz.prog 9 (.string ⟨s.toArray⟩)=some (.string s):=by simpa using keyOf_string_mk (P:= Tryz.prog) Tryz.underlying9 (s:=⟨s.toArray⟩) (by simp[ByteArray.size,maxLen];omega)
 have kb:=Maps.string_keyed (P:= Tryz.prog) Tryz.underlying9;obtain⟨k,hk⟩:=zE (l.count s);have J8:k<=1000000:=by have:=List.count_le_length (a:=s) (l:=l);omega
 have J5:(k:Int)<=1000000:=by omega
 have J7:(0:Int)<=(k:Int):=by omega
 obtain⟨c,hlk,hc,wc⟩:=hm.lookup_int kb Tryz.underlying107 Tryz.underlying3 (zjbZ _) H6;rw[hat s,hk]at hc;injection hc with hc;injection hc with _ hc;subst hc;have cC:=hbc.cell;have cL:=hbl.cell;have fL:=hbl.frozen;have Ja:=hbc.lt;have Jc:=hbl.lt;have Jb:=hm.lt;have J9:n<=1000000:=by omega
 have HK:=zh hk;have Hz:=zh hat;have HN:=zh hn;have HD:=zh hD;have HO:=zh ho;have Hv:=zh hbl;have Hl:=zh hbc;have HM:=zh hm;clear hk hat hn hD ho hbl hbc;have Hr:=plainElem_int (H:=Unit) (P:= Tryz.prog) Tryz.underlying3 (a:=(k:Int)+1) (zpiZ _ (by omega) (by omega));go_enter Tryz.func62, Tryz.ntmps62;go_wp2_with (at_mapUpdate;refine wpList_mapUpdate_own _ rfl _ _ _ 107 rfl 9 3 kb Tryz.underlying107 _ b n _ rfl hm (by unfold maxLen;omega) _ _ _ rfl rfl H6 _ [] Hr ?_);intro w1 Hn H7;have H3:Boxed w1 bc 107 (.map (some b)):=Hl.o.kept H7 (fun e=>zeyZ HM.o Hl.o (Option.some.inj e).symm);have H2:Boxed w1 bl 22 v:=Hv.o.kept H7 (fun e=>zeyZ HM.o Hv.o (Option.some.inj e).symm);have Hk:OwnS w1 B v (Sx.once [] l):=World.ownsRow.kept HO.o H7 (.inr (fun e=>zhaZ HM.o HO.o e.symm));have hD1:=HD.o.put (.string s) (.lit (.int .i64 ((k:Int)+1)));have Ha:∀t,(D.put (.string s) (.lit (.int .i64 ((k:Int)+1)))).atKey (.string t) (.lit (.int .i64 0))=.lit (.int .i64 ((l++[s]).count t:Nat)):=by
  intro t;rw[List.count_append];by_cases hts:t=s
  ·subst hts;rw[Maps.atKey_put_same HD.o (by trivial),HK.o];simp
  ·rw[Maps.atKey_put_other (by intro e;injection e with e;exact hts e),Hz.o t];have:List.count t [s]=0:=(by rw[List.count_eq_zero];simpa using hts);rw[this,ypZ]
 obtain⟨c1,hlk1,hc1,wc1⟩:=Hn.lookup_int kb Tryz.underlying107 Tryz.underlying3 (zjbZ _) H6;rw[Maps.atKey_put_same HD.o (by trivial)]at hc1;injection hc1 with hc1;injection hc1 with _ hc1;subst hc1;have cC1:=H3.cell;have cL1:=H2.cell;have fL1:=H2.frozen;have J2:=H3.lt;have J4:=H2.lt;have hB1:B<=w1.heap.size:=ymZ hB H7.size;have H1:=zh H2;have H4:=zh H3;have Ht:=zh Hk;have Hu:=zh hD1;have Hc:=zh Ha;have Hf:=zh Hn;have Hg:=zh H7;clear H2 H3 Hk hD1 Ha H7 hm hlk Hr;have Hw:∀j,some b=some j->B<=j:=fun j e=>by injection e with e;omega
 have Hp:=zh Hw;have Hj:=zh (Keep.grown Hg.o (by
  intro j e cs t fr hj;injection e with e;subst e;obtain⟨es,clock,h1,_⟩:=HM.o;rw[h1]at hj;cases hj))
 clear Hw;by_cases hk1:k=0
 ·have he:((k:Int)+1==1)=true:=(by simp[hk1]);have Hh:=zh hk1;clear hk1;have Hy:=zh (Sx.once_new (s:=s) (l:=l) (by rw[HK.o];exact Hh.o));have J1:=zh (Sx.once_len l []);obtain⟨u,hu⟩:=zE (Sx.once [] l);have J6:u.length<=1000000:=(by have:=J1.o;rw[hu]at this;simp at this;omega);have H5:=Ht.o;rw[hu]at H5;obtain⟨i0,hi,hz0,hz1,hz2⟩:=info_parts zdsZ;have HU:=zh hu;clear hu;go_wp2_with (at_builtin;refine wpList_append_own _ rfl _ _ 22 rfl B 9 i0 _ 1 16 Tryz.underlying22 hi hz0 hz1 hz2 rfl (by decide) v u.length (strsV u) rfl (World.ownsRow.alloc H5 _) ⟨w1.heap.size,0,none⟩ 1 1 [.string ⟨s.toArray⟩] rfl rfl (cell_one_new _ _ _) (by simp[Value.oneCell']) (by unfold maxLen;omega) (by omega) (by simp;omega) ?_);intro v' w2 hown' hgrow' _;have Hi:=OwnS.ne_box H5 (by decide) H1.o;have Hs:=OwnS.ne_box H5 (by decide) H4.o;have Hq:=zhaZ Hf.o H5;have H8:w1.grownBy w2 v.ownBlock:=(yeZ w1 _ _).trans hgrow';have H0:Boxed w2 bl 22 v:=H1.o.kept H8 (fun e=>(Hi bl e.symm).2 rfl);have Hd:Boxed w2 bc 107 (.map (some b)):=H4.o.kept H8 (fun e=>(Hs bc e.symm).2 rfl);have Ho:=Hf.o.kept H8 Hq;have He:OwnS w2 B v' (u++[s]):=(by unfold OwnS strsV;rw[List.map_append];simpa[strsV]using hown');have cL2:=H0.cell;have fL2:=H0.frozen;have J3:=H0.lt;have Hm:bl≠b:=fun e=>zeyZ Hf.o H1.o e.symm;have H9:bl≠bc:=zwoZ H1.o H4.o (by decide);obtain⟨A',c',hv'⟩:=He.slice;rw[show(u++[s]).length=u.length+1 by simp]at hv';subst hv';have Hb:=OwnS.ne_box He (by decide) H0;have HF:=zh (show Met B bl bc b (l++[s]) (w2.setCell ⟨bl,0,none⟩ (.slice A' (u.length+1) c'))from
   ⟨h1,h2,h3,⟨.slice A' (u.length+1) c',by unfold Boxed;exact one_setCell H0,by rw[Hy.o,HU.o];exact ownsRow_setCell_other He (a:=⟨bl,0,none⟩) (fun e=>(Hb bl e).2 rfl) _⟩,
    (yuZ w2 ⟨bl,0,none⟩ (.slice A' (u.length+1) c') bc H9.symm).trans Hd,n+1,_,by simp;have:=HN.o;omega,zmnZ Ho Hm.symm _,Hu.o,Hc.o⟩)
  have Hx:=zh (show Below B w (w2.setCell ⟨bl,0,none⟩ (.slice A' (u.length+1) c'))from(((yqZ B w).grown Hg.o hB Hp.o).grown H8 hB1 (fun j e=>(Hi j e).1)).setCell h1 _);have J0:=zh (show Keep w (w2.setCell ⟨bl,0,none⟩ (.slice A' (u.length+1) c'))from(Hj.o.trans (Keep.grown H8 (by
   intro j e cs t fr hj;obtain⟨_,c,h2⟩:=zckZ H5 j e;rw[h2]at hj;injection hj with hj;injection hj with _ hj;exact .inl hj.symm))).trans (Keep.set H0 _))
  clear hown' hgrow' Hi Hs Hq H8 H0 Hd Ho He Hm H9 Hb H5;go_wp2;go_end0;exact⟨rfl,HF.o,Hx.o,J0.o⟩
 ·have he:((k:Int)+1==1)=false:=(by simp;omega);have Hh:=zh hk1;clear hk1;go_wp2;go_end0;refine⟨rfl,⟨h1,h2,h3,⟨v,H1.o,?_⟩,H4.o,n+1,_,by simp;have:=HN.o;omega,Hf.o,Hu.o,Hc.o⟩,(yqZ B w).grown Hg.o hB Hp.o,Hj.o⟩;rw[Sx.once_old (by rw[HK.o];have:=Hh.o;omega)];exact Ht.o
theorem Sx.names_take {l:List Sx.Ty} {m:Nat} (h:m<l.length):Sx.allNamesL (l.take (m+1))=Sx.allNamesL (l.take m)++Sx.allNames l[m]:=by
 rw[ykZ h,Sx.namesL_append];simp[Sx.allNamesL]
mutual
theorem Sx.names_size:∀(t:Sx.Ty),(Sx.allNames t).length<=Sx.size t
 | .mk k n ns es ps=>by rw[Sx.allNames,Sx.size,ycZ];have:=Sx.namesL_size ps;split <;> simp <;> omega
theorem Sx.namesL_size:∀(l:List Sx.Ty),(Sx.allNamesL l).length<=Sx.sizeL l
 | []=>by simp[Sx.allNamesL]
 | t::l=>by rw[Sx.allNamesL,Sx.sizeL,ycZ];have:=Sx.names_size t;have:=Sx.namesL_size l;omega
end
theorem zogZ (W0 : World) (bl bc b : Nat) : ∀ (n : Nat) (l : List Sx.Ty) (v : Value) (told : List Lx.Bytes) (W : World), Sx.sizeL l <= n -> told.length + n <= 1000000 -> TyRow W0 v l -> Below W0.heap.size W0 W -> Met W0.heap.size bl bc b told W ->
    Calls Tryz.prog 61 #[v, .func (.func 62) #[] #[.pointer (some ⟨bc, 0, none⟩), .pointer (some ⟨bl, 0, none⟩)]] W fun e W' =>
      e = .returned (.tuple #[]) /\ Met W0.heap.size bl bc b (told ++ Sx.allNamesL l) W' /\ Below W0.heap.size W0 W' /\ Keep W W' := by
  intro n
  induction n using Nat.strongRecOn with
  | _ n ih =>
    intro l v told W hn Jn hv Hs hM;obtain ⟨A, c, rfl, J7, hl⟩ := hv;have J8 := Sx.length_size l;have Jk := Sx.namesL_size l;have Jl : (l.length : Int) <= 1000000 := (by omega);have HL := zh hl;have Ho := zh ih;have J5 := zh Hs;have HM := zh hM;clear ih hl Hs hM;go_enter Tryz.func61, Tryz.ntmps61;go_wp2_with fail;go_loopg [8] (l.length) (fun i v wr => ∃ (m : Nat), i = l.length - m /\ v = .int .i64 (m : Int) /\ m <= l.length /\ Met W0.heap.size bl bc b (told ++ Sx.allNamesL (l.take m)) wr /\ Below W0.heap.size W0 wr /\ Keep W wr)
    case atStart => exact ⟨0, rfl, rfl, yxZ _, by simpa [Sx.allNamesL] using HM.o, J5.o, Keep.refl _⟩
    case round =>
      obtain ⟨m, hi, rfl, hm, H5, hb, J2⟩ := hrel;have Hz := zh J2;clear J2;have HI := zh hi;have Hv := zh H5;have HB := zh hb;have m0 : (0 : Int) <= (m : Int) := (by omega);clear hi H5 hb;by_cases hlt : m < l.length
      · have Jb : (m : Int) < (l.length : Int) := by omega
        obtain ⟨g, off, v0, v1, v2, v3, v4, rfl, c0, c1, c2, c3, c4, ht⟩ := IsTys.at (IsTys.below HB.o l _ 0 HL.o) m hlt;have Ja : ∃ v0 v1 v2 v3 v4, W0.cell? ⟨g, off + (0 + m) * 5, none⟩ = some v0 /\ W0.cell? ⟨g, off + (0 + m) * 5 + 1, none⟩ = some v1 /\ W0.cell? ⟨g, off + (0 + m) * 5 + 2, none⟩ = some v2 /\ W0.cell? ⟨g, off + (0 + m) * 5 + 3, none⟩ = some v3 /\ W0.cell? ⟨g, off + (0 + m) * 5 + 4, none⟩ = some v4 /\ IsTy W0 (.agg #[v0, v1, v2, v3, v4]) (l[m]'hlt) := (by obtain ⟨g', off', v0', v1', v2', v3', v4', e, c0', c1', c2', c3', c4', ht'⟩ := IsTys.at HL.o m hlt;injection e with e;injection e with e1 e2;subst e1 e2;exact ⟨v0', v1', v2', v3', v4', c0', c1', c2', c3', c4', ht'⟩);clear ht c0 c1 c2 c3 c4 v0 v1 v2 v3 v4;obtain ⟨v0, v1, v2, v3, v4, c0, c1, c2, c3, c4, ht⟩ := Ja;obtain ⟨t, H9⟩ := zE (l[m]'hlt);have H6 : t ∈ l := (by rw [<- H9]; exact yfZ hlt);rw [H9] at ht;have Hx := zh (Sx.parts_mem H6);have J6 := zh (Sx.size_mem H6);have Hp := zh (Sx.size_parts t);have HT := zh (Sx.names_take hlt);have Jc := zh (show Sx.sizeL (l.take (m + 1)) = Sx.sizeL (l.take m) + Sx.size t by rw [Sx.size_take hlt, H9]);have Hi := zh (Sx.sizeL_take_le l (m + 1));have J4 := zh (Sx.namesL_size (l.take m));have Hq := zh H9;have Hc := zh (show (told ++ Sx.allNamesL (l.take m)).length + (1 + Sx.sizeL t.parts) <= 1000000 by have := J4.o; have := Jc.o; have := Hi.o; have := Hp.o; simp; omega);obtain ⟨vn, ve, vp, H1, J1, Ht, Hg⟩ := ht.limbs;obtain ⟨An, cn, Jg, -⟩ := id J1;obtain ⟨Ae, ce, J3, -⟩ := id Ht;obtain ⟨Ap, cp, Jh, -, -⟩ := id Hg;subst Jg J3 Jh;injection H1 with H1;simp only [ykbZ, ygbZ, ymbZ] at H1;obtain ⟨rfl, rfl, rfl, rfl, rfl⟩ := H1;rw [yGZ] at c0 c1 c2 c3 c4;have H7 := World.block_lt_of_cell? W0 ⟨g, _, none⟩ c0;simp only at H7;have up : ∀ {j : Nat} {u : Value}, W0.cell? ⟨g, j, none⟩ = some u -> wr.cell? ⟨g, j, none⟩ = some u := fun {j u} hj => (World.cell?_of_block (HB.o.block g H7)).trans hj;replace c0 := up c0;replace c1 := up c1;replace c2 := up c2;replace c3 := up c3;replace c4 := up c4;have Je := World.block_lt_of_cell? wr ⟨g, _, none⟩ c0;simp only at Je;have HP := zh Hg;have J0 := zh (Sx.names_parts t);obtain ⟨kd, Hf⟩ := zE (t.kind);have Hw := zh Hf;rw [Hf] at c0;have Jm := HB.o.size;obtain ⟨w2, He⟩ := zE (wr.alloc (.cells #[.int .i64 kd, .string ⟨t.name.toArray⟩, .slice An t.names.length cn, .slice Ae t.embeds.length ce, .slice Ap t.parts.length cp] 26));have Ha : wr.grownBy w2 none := (by rw [<- He]; exact yeZ _ _ _);have Hy : Below W0.heap.size W0 w2 := HB.o.grown Ha HB.o.size (fun j e => nomatch e);have H3 := Hv.o.kept Ha;clear J1 Ht Hg ht Hf H9 up;have J9 : wr.heap.size < w2.heap.size := (by rw [<- He]; simp);obtain ⟨L, hL⟩ := zE (wr.heap.size);have H8 : w2.heap[L]? = some (.cells #[.int .i64 kd, .string ⟨t.name.toArray⟩, .slice An t.names.length cn, .slice Ae t.embeds.length ce, .slice Ap t.parts.length cp] 26 (0, 0)) := (by rw [<- He, <- hL]; exact ydZ wr _);have Hj := zh H8;have Hh := zh Hy;have Hm := zh H3;have Hr := zh (Hz.o.trans (Keep.grown Ha (fun j e => nomatch e)));clear H8 Hy H3 Ha;by_cases h4 : kd = 4
        · have Jj : (kd == 4) = true := by simp [h4]
          have H4 := zh h4;clear h4;obtain ⟨x0, x1, x2, x3, x4⟩ := zcZ Hj.o;have H2 := zuuZ W0.heap.size bl bc b (told ++ Sx.allNamesL (l.take m)) t.name w2 Hm.o (by have := Hh.o.size; omega) (by have := Hc.o; omega) (by have := Hp.o; have := J6.o; omega);go_wp2_with (first
            | (go_at_call 62; refine H2.mono ?_; clear H2 x0 x1 x2 x3 x4; rintro e W3 ⟨rfl, Hn, Hu, Hk⟩
               have H0 := Hk _ _ _ _ Hj.o (by decide) (by decide);obtain ⟨x0, x1, x2, x3, x4⟩ := zcZ H0;have Jo := zaZ H0;have Jf := zh Hn;have Ji := zh (Hh.o.trans Hu);have Jd := zh (Hr.o.trans Hk);clear Hn Hu Hk H0)
            | (go_at_call 61
               refine (Ho.o (Sx.sizeL t.parts) (by have := Hx.o; omega) t.parts _ _ W3 (ybZ _) (by have := Hc.o; simp at this ⊢; omega) HP.o Ji.o Jf.o).mono ?_;rintro e W4 ⟨rfl, Hd, Hb, Hl⟩))
          go_roundg (l.length - (m + 1))
          case measure => have := HI.o; omega
          case rel =>refine ⟨m + 1, rfl, by simp, hlt, ?_, Hb, Jd.o.trans Hl⟩;rw [HT.o, Hq.o, J0.o, Hw.o, if_pos H4.o];simpa [yiZ] using Hd
        · have Jj : (kd == 4) = false := by simp [h4]
          have H4 := zh h4;clear h4;obtain ⟨x0, x1, x2, x3, x4⟩ := zcZ Hj.o;go_wp2_with (go_at_call 61
                       refine (Ho.o (Sx.sizeL t.parts) (by have := Hx.o; omega) t.parts _ _ w2 (ybZ _) (by have := Hc.o; omega) HP.o Hh.o Hm.o).mono ?_;rintro e W4 ⟨rfl, Hd, Hb, Hl⟩)
          go_roundg (l.length - (m + 1))
          case measure => have := HI.o; omega
          case rel =>refine ⟨m + 1, rfl, by simp, hlt, ?_, Hb, Hr.o.trans Hl⟩;rw [HT.o, Hq.o, J0.o, Hw.o, if_neg H4.o];simpa [yiZ] using Hd
      · have Jb : ¬ (m : Int) < (l.length : Int) := by omega
        go_wp2_with fail
        go_end0
        refine ⟨rfl, ?_, HB.o, Hz.o⟩;have := Hv.o
        rwa [yjZ (by omega)] at this
end Go.Proofs.YtdncljdfmdgdaaaGreatDoor
namespace Go.Proofs.YtdncljdfmdgdaaaGreatDoor.Sx
open Go.Proofs.YtdncljdfmdgdaaaGreatDoor.Lx (Bytes)
inductive Ex where
 | mk (pos kind n:Int) (s:Bytes) (t:List Ty) (names:List Bytes) (parts:List Ex)
def Ex.kind:Ex->Int | .mk _ k _ _ _ _ _=>k
def Ex.parts:Ex->List Ex | .mk _ _ _ _ _ _ ps=>ps
inductive St where
 | mk (pos kind:Int) (name:Bytes) (t:List Ty) (x:List Ex) (body els:List St)
def St.kind:St->Int | .mk _ k _ _ _ _ _=>k
structure Param where
 name:Bytes
 t:Ty
structure Code where
 pos:Int
 owner:Bytes
 name:Bytes
 params:List Param
 result:Ty
 body:List St
def level (k:Int):Nat:=
 if k=21 then 1 else if k=20 then 2 else if k=18\/k=19 then 3 else if k=16\/k=17 then 4 else if k=15 then 5 else if k=13\/k=14 then 6 else if 9<=k/\k<=12 then 7 else 8
def sign (k:Int):Bytes:=
 if k=15 then [42]else if k=16 then [43]else if k=17 then [45]else if k=18 then [61,61]else if k=19 then [60]else if k=20 then [97,110,100]else [111,114]
structure Says where
 digits:Int->Bytes
 quote:Bytes->Bytes
mutual
def expr (S:Says):Ex->List Bytes
 | .mk _ k n s t ns ps=>
  if k=1 then [S.digits n]
  else if k=2 then [S.quote s]
  else if k=3 then [if n=1 then [116,114,117,101]else [102,97,108,115,101]]
  else if k=4 then [s]
  else if k=5 then [[115,101,108,102]]
  else if k=6 then [110,105,108]::typL t
  else if k=7\/k=8 then(if k=8 then [[110,101,119]]else [])++[s,[123]]++record S 0 ns ps++[[125]]
  else if k=9 then first S 7 ps++[[46],s]
  else if k=10 then first S 7 ps++[[46],s]++args S ps
  else if k=11 then applied S ps++args S ps
  else if k=12 then first S 7 ps++[[116,111]]++typL t
  else if k=13\/k=14 then(if k=13 then [45]else [110,111,116])::first S 6 ps
  else first S (if level k=3 then 4 else level k) ps++[sign k]++second S (level k+1) ps
def first (S:Says):Nat->List Ex->List Bytes
 | _,[]=>[]
 | l,x::_=>if level x.kind<l then [[40]]++expr S x++[[41]]else expr S x
def second (S:Says):Nat->List Ex->List Bytes
 | _,[]=>[]
 | l,_::ps=>first S l ps
def applied (S:Says):List Ex->List Bytes
 | []=>[]
 | x::_=>if x.kind=9\/level x.kind<7 then [[40]]++expr S x++[[41]]else expr S x
def args (S:Says):List Ex->List Bytes
 | []=>[]
 | _::ps=>[[40]]++list S 0 ps++[[41]]
def list (S:Says):Nat->List Ex->List Bytes
 | _,[]=>[]
 | i,x::ps=>(if 0<i then [[44]]else [])++expr S x++list S (i+1) ps
def record (S:Says):Nat->List Bytes->List Ex->List Bytes
 | i,n::ns,x::ps=>(if 0<i then [[44]]else [])++[n,[58]]++expr S x++record S (i+1) ns ps
 | _,_,_=>[]
end
mutual
def stmt (S:Says):St->List Bytes
 | .mk _ k nm t x b e=>
  (if k=1 then [[108,101,116],nm]++typL t++[[61]]else if k=2 then [nm,[61]]else if k=3 then [[112,114,105,110,116]]else if k=4 then [[105,102]]
   else if k=5 then [[119,104,105,108,101]]else if k=6 then [[114,101,116,117,114,110]]else [])++
  first S 0 x++
  (if k≠4/\k≠5 then [[59]]else if e.isEmpty then [[123]]++stmts S b++[[125]]
   else [[123]]++stmts S b++[[125]]++[[101,108,115,101]]++[[123]]++stmts S e++[[125]])
def stmts (S:Says):List St->List Bytes
 | []=>[]
 | s::l=>stmt S s++stmts S l
end
/-! ### which are right -/
structure Names where
 small:Bytes->Bool
 great:Bytes->Bool
 said:Bytes->Bool
def apart (N:Names):List Bytes->Bool
 | []=>true
 | s::l=>N.small s&&(!l.contains s&&apart N l)
def shape (N:Names) (k:Int) (n:Bytes) (ns:List Bytes) (es:List Bool) (ps:List Ty):Bool:=
 if k=1\/k=2\/k=3 then n.isEmpty&&ns.isEmpty&&es.isEmpty&&ps.isEmpty
 else if k=4 then N.great n&&ns.isEmpty&&es.isEmpty&&ps.isEmpty
 else if k=5 then n.isEmpty&&ns.isEmpty&&es.isEmpty&&ps.length==1
 else if k=7 then n.isEmpty&&ns.isEmpty&&es.isEmpty&&decide (1<=ps.length)
 else if k=6 then n.isEmpty&&es.length==ns.length&&ps.length==ns.length&&apart N ns
 else if k=8 then ps.all (fun p=>p.kind==7)&&(n.isEmpty&&es.isEmpty&&ps.length==ns.length&&apart N ns)
 else false
mutual
def rightT (N:Names):Nat->Ty->Bool
 | 0,_=>false
 | d+1,.mk k n ns es ps=>rightTs N d ps&&shape N k n ns es ps
def rightTs (N:Names):Nat->List Ty->Bool
 | _,[]=>true
 | d,t::l=>rightT N d t&&rightTs N d l
end
def shapeX (N:Names) (k n:Int) (s:Bytes) (t:List Ty) (ns:List Bytes) (m:Nat):Bool:=
 decide (1<=k/\k<=21)&&
 ((if k=2 then N.said s else if k=4\/k=9\/k=10 then N.small s else if k=7\/k=8 then N.great s else s.isEmpty)&&
 ((decide (n=0)||(decide (k=1/\0<=n)||decide (k=3/\0<=n/\n<=1)))&&
 ((if k=6\/k=12 then t.length==1&&rightTs N 64 t else t.isEmpty)&&
 (if k=7\/k=8 then m==ns.length&&apart N ns else ns.isEmpty&&(if k<=6 then m==0 else if k=9\/k=12\/k=13\/k=14 then m==1 else if k=10\/k=11 then decide (1<=m)else m==2)))))
def flat (k:Int):Bool:=decide ((9<=k/\k<=12)\/15<=k)
mutual
def rightX (N:Names):Nat->Ex->Bool
 | 0,_=>false
 | d+1,.mk _ k n s t ns ps=>shapeX N k n s t ns ps.length&&rightXs N (if flat k then d+1 else d) d ps
def rightXs (N:Names):Nat->Nat->List Ex->Bool
 | _,_,[]=>true
 | d0,d,x::l=>rightX N d0 x&&rightXs N d d l
end
def shapeS (N:Names) (k:Int) (nm:Bytes) (t:List Ty) (x:List Ex) (b e:List St):Bool:=
 (decide (1<=k/\k<=7)&&(x.length==1&&rightXs N 64 64 x))&&
 ((if k=1\/k=2 then N.small nm else nm.isEmpty)&&
 ((t.isEmpty||(decide (k=1)&&(t.length==1&&rightTs N 64 t)))&&
 ((decide (k=4\/k=5)||b.isEmpty)&&(decide (k=4)||e.isEmpty))))
mutual
def rightS (N:Names):Nat->St->Bool
 | 0,_=>false
 | d+1,.mk _ k nm t x b e=>shapeS N k nm t x b e&&(rightSs N d b&&rightSs N d e)
def rightSs (N:Names):Nat->List St->Bool
 | _,[]=>true
 | d,s::l=>rightS N d s&&rightSs N d l
end
end Go.Proofs.YtdncljdfmdgdaaaGreatDoor.Sx
