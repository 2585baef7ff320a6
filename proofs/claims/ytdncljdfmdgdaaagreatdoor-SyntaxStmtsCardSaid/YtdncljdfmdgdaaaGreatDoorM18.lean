/-
  The walk of rightExpr.
-/
import Derived.Test.YtdncljdfmdgdaaaGreatDoorM17
set_option linter.unusedSimpArgs false
set_option linter.unusedVariables false
set_option maxRecDepth 100000
set_option maxHeartbeats 16000000
namespace Go.Proofs.YtdncljdfmdgdaaaGreatDoor
open Go.RowKit Go.Shelf Go.WideMaps
structure Held2 (L:Nat) (W:World) (cs:Array Value) (t:TypeId) (L2:Nat) (cs2:Array Value) (t2:TypeId) (w:World):Prop where
 b:Below L W w
 b1:w.heap[L]? =some (.cells cs t (0,0))
 b2:w.heap[L2]? =some (.cells cs2 t2 (0,0))
theorem Held2.go {L L2:Nat} {W w w':World} {cs cs2:Array Value} {t t2:TypeId} (h:Held2 L W cs t L2 cs2 t2 w) (hb:Below w.heap.size w w'):Held2 L W cs t L2 cs2 t2 w':=
 ⟨h.b.trans (hb.mono (yYZ (zaZ h.b1))),(hb.block _ (zaZ h.b1)).trans h.b1,(hb.block _ (zaZ h.b2)).trans h.b2⟩
theorem Held2.lt {L L2:Nat} {W w:World} {cs cs2:Array Value} {t t2:TypeId} (h:Held2 L W cs t L2 cs2 t2 w):L<w.heap.size/\L2<w.heap.size:=⟨zaZ h.b1,zaZ h.b2⟩
theorem Held2.drew {L L2:Nat} {W w:World} {cs cs2:Array Value} {t t2:TypeId} (h:Held2 L W cs t L2 cs2 t2 w):Held2 L W cs t L2 cs2 t2 w.drew:=h.go (Below.drew (yqZ _ _))
theorem zuZ {w:World} {g t:Nat} {a b c d e f:Value} (h:w.heap[g]? =some (.cells #[a,b,c,d,e,f] t (0,0))) :
  w.cell? ⟨g,0,none⟩=some a/\w.cell? ⟨g,1,none⟩=some b/\w.cell? ⟨g,2,none⟩=some c/\w.cell? ⟨g,3,none⟩=some d/\w.cell? ⟨g,4,none⟩=some e/\w.cell? ⟨g,5,none⟩=some f:=
 ⟨zdZ h 0,zdZ h 1,zdZ h 2,zdZ h 3,zdZ h 4,zdZ h 5⟩
theorem Sx.rightX_eq (d:Nat) (x:Sx.Ex):Sx.rightX NM d x=(decide (d≠0)&&(Sx.shapeX NM x.kind x.n x.s x.t x.names x.parts.length&&Sx.rightXs NM (if Sx.flat x.kind then d else d-1) (d-1) x.parts)):=by
 cases x with
 | mk pos k n s t ns ps=>
  cases d with
  | zero=>simp[Sx.rightX]
  | succ d=>rw[Sx.rightX];show _=(decide (d+1≠0)&&(Sx.shapeX NM k n s t ns ps.length&&Sx.rightXs NM (if Sx.flat k then d+1 else d+1-1) (d+1-1) ps));simp
theorem Sx.right0_head:∀(t:List Sx.Ty) (h:0<t.length),Sx.rightT NM 64 (t[0]'h)=Sx.right0 t
 | a::l,h=>rfl
theorem Sx.rightXs_snoc (N:Sx.Names):∀(l:List Sx.Ex) (d0 d:Nat) (x:Sx.Ex),Sx.rightXs N d0 d (l++[x])=(Sx.rightXs N d0 d l&&Sx.rightX N (if l.length=0 then d0 else d) x)
 | [],d0,d,x=>by simp[Sx.rightXs]
 | y::l,d0,d,x=>by rw[yHZ,Sx.rightXs,Sx.rightXs,Sx.rightXs_snoc N l d d x];simp[Bool.and_assoc]
theorem Sx.rightXs_pre (N:Sx.Names):∀(l m:List Sx.Ex) (d0 d:Nat),Sx.rightXs N d0 d l=false->Sx.rightXs N d0 d (l++m)=false
 | [],m,d0,d,h=>by simp[Sx.rightXs]at h
 | y::l,m,d0,d,h=>by
  rw[yHZ,Sx.rightXs];rw[Sx.rightXs]at h
  cases hy:Sx.rightX N d0 y with
  | false=>rfl
  | true=>rw[hy]at h;rw[Sx.rightXs_pre N l m d d (by simpa using h)];rfl
def RightXOk (d:Nat) (x:Sx.Ex):Prop:=∀(v:Value) (W:World),GS W->NG<=W.heap.size->IsEx W v x->Sx.sizeX x<=1000000->
 Calls Tryz.prog 63 #[v,.int .i64 (d:Nat)] W fun e W'=>e=.returned (.bool (Sx.rightX NM d x))/\Below W.heap.size W W'
theorem zpyZ (d:Nat) (hd:d<=64) (x:Sx.Ex) (ih:∀p∈x.parts,∀d,d<=64->RightXOk d p):RightXOk d x:=by
 intro v W hG hN Jc U4;obtain⟨At,ct,An,cn,Ap,cp,rfl,htt,hnn,hp,hn0,hn1⟩:=Jc.agg;have Jr:=Sx.sizeX_parts x;have U2:=Sx.length_sizeXs x.parts;have J4:=Sx.length_size x.t;have Jp:=Sx.textX_len x;have Hi:=Sx.good_eq (k:=x.kind) (n:=x.n) (s:=x.s) (t:=x.t) (ns:=x.names) (m:=x.parts.length) (by omega);have Hh:=Sx.rightX_eq d x;obtain⟨⟨⟨hs,hn,ht,hnm,hl,hm⟩,ok⟩,hso⟩:∃r,Sx.shapeOf x.kind=r:=⟨_,rfl⟩;have hSO:=zojZ x.kind;rw[hso]at hSO;have hRT:=fun X hX=>zlnZ ⟨hs,hn,ht,hnm,hl,hm⟩ x.s X (hG.below hX) (ymZ hN hX.size) (by omega);have hTY:=fun(p:Sx.Ty) (hp:p∈x.t) u X hX hu=>zfbZ 64 (by omega) p u X (hG.below hX) (ymZ hN hX.size) hu (by have:=Sx.size_mem hp;omega);have hUN:=fun X (hX:Below W.heap.size W X)=>zgdZ x.names (.slice An x.names.length cn) X (hG.below hX) (ymZ hN hX.size) (hnn.below hX) (by omega) (fun s hs=>by have:=Sx.nameX_len hs;omega);simp only[Sx.good,hso]at Hi;simp only[Sx.Sh.v]at hSO hRT;obtain⟨rt,hrt⟩:=zE (Sx.rightText ⟨hs,hn,ht,hnm,hl,hm⟩ x.s);obtain⟨ul,hul⟩:=zE (Sx.apart NM x.names);obtain⟨r0,hr0⟩:=zE (Sx.right0 x.t);obtain⟨k3,hk3⟩:=zE ((x.kind==3));obtain⟨nz,hnz⟩:=zE ((x.n != 0));obtain⟨nn,hnn1⟩:=zE (decide (x.n<0));obtain⟨n1,hn11⟩:=zE (decide (1<x.n));obtain⟨e,he⟩:∃e:Int,(d:Int)=e:=⟨_,rfl⟩;obtain⟨d0,hd0⟩:=zE ((e==0));obtain⟨t1,ht1⟩:=zE (((x.t.length:Int)==1));obtain⟨t0,ht0'⟩:∃b,decide ((0:Int)<(x.t.length:Int))=b:=⟨_,rfl⟩;obtain⟨nm,hnm1⟩:=zE (((x.parts.length:Int) != (x.names.length:Int)));obtain⟨n0,hn01⟩:=zE (decide ((0:Int)<(x.names.length:Int)));obtain⟨ls,hls⟩:=zE (decide ((x.parts.length:Int)<hl));obtain⟨ms,hms⟩:=zE (decide (hm<(x.parts.length:Int)));have et1:(x.t.length==1)=t1:=by rw[<-ht1,yEZ,ytZ,ytZ];omega
 have et0:decide (0<x.t.length)=t0:=by rw[<-ht0',yEZ,yCZ,yCZ];omega
 have enm:(x.parts.length != x.names.length)=nm:=by rw[<-hnm1,yEZ,bne_iff_ne,bne_iff_ne];omega
 have en0:decide (0<x.names.length)=n0:=by rw[<-hn01,yEZ,yCZ,yCZ];omega
 rw[hrt,hul,hr0,hk3,hnz,hnn1,hn11,et1,et0,enm,en0,hls,hms]at Hi;have J2:decide (d≠0)=!d0:=by rw[<-hd0,yEZ,yCZ];simp;omega
 have I2:Sx.b2 ok d0 rt hn nz nn k3 n1=true->Sx.rightX NM d x=false:=by
  intro h;rw[Hh,Hi,J2];cases d0
  ·rw[h];rfl
  ·rfl
 have I4:Sx.b4 ht t1 t0 r0=true->Sx.rightX NM d x=false:=by intro h;rw[Hh,Hi,h];simp
 have I7:Sx.b7 hnm nm ul n0 ls ms=true->Sx.rightX NM d x=false:=by intro h;rw[Hh,Hi,h];simp
 have IR:Sx.b2 ok d0 rt hn nz nn k3 n1=false->Sx.b4 ht t1 t0 r0=false->Sx.b7 hnm nm ul n0 ls ms=false->Sx.rightX NM d x=Sx.rightXs NM (if Sx.flat x.kind then d else d-1) (d-1) x.parts/\1<=d:=by
  intro h1 h2 h3;have Hw:d0=false:=by
   cases d0 with
   | false=>rfl
   | true=>cases ok <;> simp[Sx.b2]at h1
  subst Hw;rw[Hh,Hi,h1,h2,h3];have:d≠0:=(by simpa using J2);exact⟨by simp[this],by omega⟩
 have hT0:∀(h:0<x.t.length),Sx.rightT NM 64 (x.t[0]'h)=r0:=fun h=>by rw[<-hr0];exact Sx.right0_head _ h
 obtain⟨kd,hkd⟩:=zE (x.kind);obtain⟨nv,hnv⟩:=zE (x.n);obtain⟨tl,htl⟩:=zE (x.t.length);obtain⟨nl,hnl⟩:=zE (x.names.length);obtain⟨k,hk⟩:=zE (x.parts.length);have hFU:=fun(i:Nat) w=>zokZ kd i w;have U8:(k:Int)<=1000000:=by omega
 have U9:(0:Int)<=(k:Int):=by omega
 have U7:(0:Int)<=(nl:Int):=by omega
 have Ju:(0:Int)<=(tl:Int):=by omega
 have Jq:(nl:Int)<=1000000:=by omega
 have Jj:(tl:Int)<=1000000:=by omega
 have Ub:(0:Int)<=e:=by omega
 have Jk:e<=64:=by omega
 rw[he,hkd,hnv,htl,hnl,hk];rw[hkd]at hk3 hSO IR;rw[hnv]at hnz hnn1 hn11;rw[htl]at ht1 ht0' htt;rw[hnl,hk]at hnm1;rw[hnl]at hn01 hnn;rw[hk]at hls hms hp;rw[hnl]at hUN;have Jt:=zh ih;have Jd:=zh hRT;have Jn:=zh hTY;have J7:=zh hUN;have U3:=zh hFU;have U6:=zh hSO;have Js:=zh I2;have U5:=zh I4;have Jl:=zh I7;have Jv:=zh IR;have U1:=zh hT0;have U0:=zh htt;have HP:=zh hp;have HG:=zh hG;have HN:=zh hN;have HE:=zh he;have HK:=zh hk;have Jx:=zh htl;have Ji:=zh hd;have Jy:=zh (show Sx.sizeXs x.parts<=1000000 by omega);rw[hrt]at Jd;rw[hul]at J7;obtain⟨L,hL⟩:=zE (W.heap.size);obtain⟨w2,hw2⟩:=zE (W.alloc (.cells #[.int .i64 x.pos,.int .i64 kd,.int .i64 nv,.string ⟨x.s.toArray⟩,.slice At tl ct,.slice An nl cn,.slice Ap k cp] 39));have Hf:w2.heap[L]? =some (.cells #[.int .i64 x.pos,.int .i64 kd,.int .i64 nv,.string ⟨x.s.toArray⟩,.slice At tl ct,.slice An nl cn,.slice Ap k cp] 39 (0,0)):=by rw[<-hw2,<-hL];exact ydZ W _
 have J5:Below L W w2:=by rw[<-hw2,<-hL];exact zeZ (yeZ W _ none)
 have Hv:L<=w2.heap.size:=by have:=J5.size;omega
 obtain⟨x0,x1,x2,x3,x4,x5,x6⟩:=zbZ Hf;have H0:=zaZ Hf;have Jw:=zh Hf;have Jm:=zh J5;have HL:=zh hL;clear hSO hRT hTY hUN hFU I2 I4 I7 IR hT0 htt hp hG hN he hk htl Jc U4 hnn hn0 hn1 Jr U2 J4 Jp Hi Hh hso hrt hul hr0 et1 et0 enm en0 J2 hkd hnv hnl ih Hf J5 hd;go_enter Tryz.func63, Tryz.ntmps63;go_upto_region 2 with(go_at_call 110;refine(U6.o w2).mono ?_;rintro e w3 ⟨rfl,Hq⟩);clear x0 x1 x2 x3 x4 x5 x6;obtain⟨w4,hw4⟩:=zE (w3.alloc (.cells #[.int .i64 hs,.bool hn,.bool ht,.bool hnm,.int .i64 hl,.int .i64 hm] 160));rw[hw4];obtain⟨L5,hL5⟩:=zE (w3.heap.size);have J6:Held2 L W #[.int .i64 x.pos,.int .i64 kd,.int .i64 nv,.string ⟨x.s.toArray⟩,.slice At tl ct,.slice An nl cn,.slice Ap k cp] 39 L5 #[.int .i64 hs,.bool hn,.bool ht,.bool hnm,.int .i64 hl,.int .i64 hm] 160 w4:=by
  have h3:w3.heap[L]? =_:=(Hq.block L H0).trans Jw.o;have hg:=yeZ w3 (.cells #[.int .i64 hs,.bool hn,.bool ht,.bool hnm,.int .i64 hl,.int .i64 hm] 160) none;refine⟨(Jm.o.trans (Hq.mono Hv)).trans ?_,?_,?_⟩
  ·rw[<-hw4];exact(zeZ hg).mono (ymZ Hv Hq.size)
  ·rw[<-hw4];exact(hg.block L (zaZ h3) (fun e=>nomatch e)).trans h3
  ·rw[<-hw4,<-hL5];exact ydZ w3 _
 rw[hL5];have H4:=zh J6;clear hw4 J6 Hq H0 Hv hw2 hL5 hL;obtain⟨x0,x1,x2,x3,x4,x5,x6⟩:=zbZ H4.o.b1;obtain⟨y0,y1,y2,y3,y4,y5⟩:=zuZ H4.o.b2;obtain⟨hl1,H0⟩:=H4.o.lt;have H2:=zh (Jd.o w4 (by rw[HL.o];exact H4.o.b))
 go_cut [53] (fun v wx=>v=.bool (Sx.b2 ok d0 rt hn nz nn k3 n1)/\Held2 L W #[.int .i64 x.pos,.int .i64 kd,.int .i64 nv,.string ⟨x.s.toArray⟩,.slice At tl ct,.slice An nl cn,.slice Ap k cp] 39 L5 #[.int .i64 hs,.bool hn,.bool ht,.bool hnm,.int .i64 hl,.int .i64 hm] 160 wx)
 case first=>
  have h6:=HL.o
  cases ok with
  | true=>
   cases d0 with
   | true=>
    go_wp2_with fail
    go_meet
    exact⟨rfl,H4.o⟩
   | false=>
    cases rt with
    | true=>
     cases hn with
     | true=>
      cases nn with
      | true=>
       go_wp2_with (go_at_call 111;refine H2.o.mono ?_;rintro e w5 ⟨rfl,H1⟩;have H5:=zh (H4.o.go H1);clear H1;clear x0 x1 x2 x3 x4 x5 x6 y0 y1 y2 y3 y4 y5 hl1 H0;obtain⟨x0,x1,x2,x3,x4,x5,x6⟩:=zbZ H5.o.b1;obtain⟨y0,y1,y2,y3,y4,y5⟩:=zuZ H5.o.b2;obtain⟨hl1,H0⟩:=H5.o.lt)
       go_meet
       exact⟨rfl,H5.o⟩
      | false=>
       cases k3 with
       | true=>
        cases n1 with
        | true=>
         go_wp2_with (go_at_call 111;refine H2.o.mono ?_;rintro e w5 ⟨rfl,H1⟩;have H5:=zh (H4.o.go H1);clear H1;clear x0 x1 x2 x3 x4 x5 x6 y0 y1 y2 y3 y4 y5 hl1 H0;obtain⟨x0,x1,x2,x3,x4,x5,x6⟩:=zbZ H5.o.b1;obtain⟨y0,y1,y2,y3,y4,y5⟩:=zuZ H5.o.b2;obtain⟨hl1,H0⟩:=H5.o.lt)
         go_meet
         exact⟨rfl,H5.o⟩
        | false=>
         go_wp2_with (go_at_call 111;refine H2.o.mono ?_;rintro e w5 ⟨rfl,H1⟩;have H5:=zh (H4.o.go H1);clear H1;clear x0 x1 x2 x3 x4 x5 x6 y0 y1 y2 y3 y4 y5 hl1 H0;obtain⟨x0,x1,x2,x3,x4,x5,x6⟩:=zbZ H5.o.b1;obtain⟨y0,y1,y2,y3,y4,y5⟩:=zuZ H5.o.b2;obtain⟨hl1,H0⟩:=H5.o.lt)
         go_meet
         exact⟨rfl,H5.o⟩
       | false=>
        go_wp2_with (go_at_call 111;refine H2.o.mono ?_;rintro e w5 ⟨rfl,H1⟩;have H5:=zh (H4.o.go H1);clear H1;clear x0 x1 x2 x3 x4 x5 x6 y0 y1 y2 y3 y4 y5 hl1 H0;obtain⟨x0,x1,x2,x3,x4,x5,x6⟩:=zbZ H5.o.b1;obtain⟨y0,y1,y2,y3,y4,y5⟩:=zuZ H5.o.b2;obtain⟨hl1,H0⟩:=H5.o.lt)
        go_meet
        exact⟨rfl,H5.o⟩
     | false=>
      cases nz with
      | true=>
       go_wp2_with (go_at_call 111;refine H2.o.mono ?_;rintro e w5 ⟨rfl,H1⟩;have H5:=zh (H4.o.go H1);clear H1;clear x0 x1 x2 x3 x4 x5 x6 y0 y1 y2 y3 y4 y5 hl1 H0;obtain⟨x0,x1,x2,x3,x4,x5,x6⟩:=zbZ H5.o.b1;obtain⟨y0,y1,y2,y3,y4,y5⟩:=zuZ H5.o.b2;obtain⟨hl1,H0⟩:=H5.o.lt)
       go_meet
       exact⟨rfl,H5.o⟩
      | false=>
       cases nn with
       | true=>
        go_wp2_with (go_at_call 111;refine H2.o.mono ?_;rintro e w5 ⟨rfl,H1⟩;have H5:=zh (H4.o.go H1);clear H1;clear x0 x1 x2 x3 x4 x5 x6 y0 y1 y2 y3 y4 y5 hl1 H0;obtain⟨x0,x1,x2,x3,x4,x5,x6⟩:=zbZ H5.o.b1;obtain⟨y0,y1,y2,y3,y4,y5⟩:=zuZ H5.o.b2;obtain⟨hl1,H0⟩:=H5.o.lt)
        go_meet
        exact⟨rfl,H5.o⟩
       | false=>
        cases k3 with
        | true=>
         cases n1 with
         | true=>
          go_wp2_with (go_at_call 111;refine H2.o.mono ?_;rintro e w5 ⟨rfl,H1⟩;have H5:=zh (H4.o.go H1);clear H1;clear x0 x1 x2 x3 x4 x5 x6 y0 y1 y2 y3 y4 y5 hl1 H0;obtain⟨x0,x1,x2,x3,x4,x5,x6⟩:=zbZ H5.o.b1;obtain⟨y0,y1,y2,y3,y4,y5⟩:=zuZ H5.o.b2;obtain⟨hl1,H0⟩:=H5.o.lt)
          go_meet
          exact⟨rfl,H5.o⟩
         | false=>
          go_wp2_with (go_at_call 111;refine H2.o.mono ?_;rintro e w5 ⟨rfl,H1⟩;have H5:=zh (H4.o.go H1);clear H1;clear x0 x1 x2 x3 x4 x5 x6 y0 y1 y2 y3 y4 y5 hl1 H0;obtain⟨x0,x1,x2,x3,x4,x5,x6⟩:=zbZ H5.o.b1;obtain⟨y0,y1,y2,y3,y4,y5⟩:=zuZ H5.o.b2;obtain⟨hl1,H0⟩:=H5.o.lt)
          go_meet
          exact⟨rfl,H5.o⟩
        | false=>
         go_wp2_with (go_at_call 111;refine H2.o.mono ?_;rintro e w5 ⟨rfl,H1⟩;have H5:=zh (H4.o.go H1);clear H1;clear x0 x1 x2 x3 x4 x5 x6 y0 y1 y2 y3 y4 y5 hl1 H0;obtain⟨x0,x1,x2,x3,x4,x5,x6⟩:=zbZ H5.o.b1;obtain⟨y0,y1,y2,y3,y4,y5⟩:=zuZ H5.o.b2;obtain⟨hl1,H0⟩:=H5.o.lt)
         go_meet
         exact⟨rfl,H5.o⟩
    | false=>
     go_wp2_with (go_at_call 111;refine H2.o.mono ?_;rintro e w5 ⟨rfl,H1⟩;have H5:=zh (H4.o.go H1);clear H1;clear x0 x1 x2 x3 x4 x5 x6 y0 y1 y2 y3 y4 y5 hl1 H0;obtain⟨x0,x1,x2,x3,x4,x5,x6⟩:=zbZ H5.o.b1;obtain⟨y0,y1,y2,y3,y4,y5⟩:=zuZ H5.o.b2;obtain⟨hl1,H0⟩:=H5.o.lt)
     go_meet
     exact⟨rfl,H5.o⟩
  | false=>
   go_wp2_with fail
   go_meet
   exact⟨rfl,H4.o⟩
 case rest=>
  obtain⟨rfl,hheld⟩:=hcut;have H6:=zh hheld;clear hheld x0 x1 x2 x3 x4 x5 x6 y0 y1 y2 y3 y4 y5 hl1 H0;obtain⟨x0,x1,x2,x3,x4,x5,x6⟩:=zbZ H6.o.b1;obtain⟨y0,y1,y2,y3,y4,y5⟩:=zuZ H6.o.b2;obtain⟨hl1,H0⟩:=H6.o.lt
  cases hB2:Sx.b2 ok d0 rt hn nz nn k3 n1 with
  | true=>have HF:=zh (Js.o hB2);clear hB2;go_wp2_with fail;go_ret;rw[HF.o,HL.o];exact⟨rfl,H6.o.b⟩
  | false=>
   have J0:=zh hB2;clear hB2;go_upto_region 4 with fail
   go_cut [83] (fun v wx=>v=.bool (Sx.b4 ht t1 t0 r0)/\Held2 L W #[.int .i64 x.pos,.int .i64 kd,.int .i64 nv,.string ⟨x.s.toArray⟩,.slice At tl ct,.slice An nl cn,.slice Ap k cp] 39 L5 #[.int .i64 hs,.bool hn,.bool ht,.bool hnm,.int .i64 hl,.int .i64 hm] 160 wx)
   case first=>
    cases ht with
    | true=>
     cases t1 with
     | true=>
      obtain rfl:tl=1:=(by have h9:=ht1;simp at h9;omega);clear ht1;have Ht:0<x.t.length:=(by have:=Jx.o;omega);have Jg:(0:Int)<(1:Int):=(by omega);obtain⟨gT,offT,AnT,cnT,AeT,ceT,AqT,cqT,rfl,htyT,hcT⟩:=U0.o.spot 0 Ht;rw[HL.o]at hcT;obtain⟨dg,q0,q1,q2,q3,q4⟩:=hcT _ H6.o.b;rw[yrZ,ypZ]at q0 q1 q2 q3 q4;have Hs:=Jn.o _ (yfZ Ht) _ _ (by rw[HL.o];exact H6.o.b) (htyT.below (by rw[HL.o];exact H6.o.b));rw[U1.o Ht]at Hs;obtain⟨pT,hpT⟩:=zE (x.t[0]'Ht);rw[hpT]at q0 q1 q2 q3 q4 Hs;have Jf:=zh Hs;clear hcT htyT Hs hpT
      cases r0 with
      | true=>
       go_wp2_with (go_at_call 58;refine Jf.o.mono ?_;rintro e w7 ⟨rfl,Ho⟩;have H7:=zh (H6.o.go Ho);clear Ho;clear x0 x1 x2 x3 x4 x5 x6 y0 y1 y2 y3 y4 y5 hl1 H0;obtain⟨x0,x1,x2,x3,x4,x5,x6⟩:=zbZ H7.o.b1;obtain⟨y0,y1,y2,y3,y4,y5⟩:=zuZ H7.o.b2;obtain⟨hl1,H0⟩:=H7.o.lt)
       go_meet
       exact⟨rfl,H7.o⟩
      | false=>
       go_wp2_with (go_at_call 58;refine Jf.o.mono ?_;rintro e w7 ⟨rfl,Ho⟩;have H7:=zh (H6.o.go Ho);clear Ho;clear x0 x1 x2 x3 x4 x5 x6 y0 y1 y2 y3 y4 y5 hl1 H0;obtain⟨x0,x1,x2,x3,x4,x5,x6⟩:=zbZ H7.o.b1;obtain⟨y0,y1,y2,y3,y4,y5⟩:=zuZ H7.o.b2;obtain⟨hl1,H0⟩:=H7.o.lt)
       go_meet
       exact⟨rfl,H7.o⟩
     | false=>
      go_wp2_with fail
      go_meet
      exact⟨rfl,H6.o⟩
    | false=>
     cases t1 with
     | true=>
      obtain rfl:tl=1:=(by have h9:=ht1;simp at h9;omega);clear ht1;go_wp2_with fail
      go_meet
      exact⟨rfl,H6.o⟩
     | false=>
      cases t0 with
      | true=>
       have Jz:0<tl:=(by have h9:=ht0';simp at h9;omega);have Jo:(0:Int)<(tl:Int):=(by omega);clear ht0';go_wp2_with fail
       go_meet
       exact⟨rfl,H6.o⟩
      | false=>
       obtain rfl:tl=0:=(by have h9:=ht0';simp at h9;omega);clear ht0';go_wp2_with fail
       go_meet
       exact⟨rfl,H6.o⟩
   case rest=>
    obtain⟨rfl,hheld⟩:=hcut;have H8:=zh hheld;clear hheld x0 x1 x2 x3 x4 x5 x6 y0 y1 y2 y3 y4 y5 hl1 H0;obtain⟨x0,x1,x2,x3,x4,x5,x6⟩:=zbZ H8.o.b1;obtain⟨y0,y1,y2,y3,y4,y5⟩:=zuZ H8.o.b2;obtain⟨hl1,H0⟩:=H8.o.lt
    cases hB4:Sx.b4 ht t1 t0 r0 with
    | true=>have HF:=zh (U5.o hB4);clear hB4;go_wp2_with fail;go_ret;rw[HF.o,HL.o];exact⟨rfl,H8.o.b⟩
    | false=>
     have Hu:=zh hB4;clear hB4;go_upto_region 7 with fail
     have Hg:=zh (J7.o _ (by rw[HL.o];exact H8.o.b))
     go_cut [124] (fun v wx=>v=.bool (Sx.b7 hnm nm ul n0 ls ms)/\Held2 L W #[.int .i64 x.pos,.int .i64 kd,.int .i64 nv,.string ⟨x.s.toArray⟩,.slice At tl ct,.slice An nl cn,.slice Ap k cp] 39 L5 #[.int .i64 hs,.bool hn,.bool ht,.bool hnm,.int .i64 hl,.int .i64 hm] 160 wx)
     case first=>
      cases hnm with
      | true=>
       cases nm with
       | true=>
        go_wp2_with fail
        go_meet
        exact⟨rfl,H8.o⟩
       | false=>
        obtain rfl:nl=k:=(by have h9:=hnm1;simp at h9;omega);clear hnm1
        cases ul with
        | true=>
         cases ls with
         | true=>
          go_wp2_with (go_at_call 108;refine Hg.o.mono ?_;rintro e w9 ⟨rfl,Hd⟩;have H9:=zh (H8.o.go Hd);clear Hd;clear x0 x1 x2 x3 x4 x5 x6 y0 y1 y2 y3 y4 y5 hl1 H0;obtain⟨x0,x1,x2,x3,x4,x5,x6⟩:=zbZ H9.o.b1;obtain⟨y0,y1,y2,y3,y4,y5⟩:=zuZ H9.o.b2;obtain⟨hl1,H0⟩:=H9.o.lt)
          go_meet
          exact⟨rfl,H9.o⟩
         | false=>
          cases ms with
          | true=>
           go_wp2_with (go_at_call 108;refine Hg.o.mono ?_;rintro e w9 ⟨rfl,Hd⟩;have H9:=zh (H8.o.go Hd);clear Hd;clear x0 x1 x2 x3 x4 x5 x6 y0 y1 y2 y3 y4 y5 hl1 H0;obtain⟨x0,x1,x2,x3,x4,x5,x6⟩:=zbZ H9.o.b1;obtain⟨y0,y1,y2,y3,y4,y5⟩:=zuZ H9.o.b2;obtain⟨hl1,H0⟩:=H9.o.lt)
           go_meet
           exact⟨rfl,H9.o⟩
          | false=>
           go_wp2_with (go_at_call 108;refine Hg.o.mono ?_;rintro e w9 ⟨rfl,Hd⟩;have H9:=zh (H8.o.go Hd);clear Hd;clear x0 x1 x2 x3 x4 x5 x6 y0 y1 y2 y3 y4 y5 hl1 H0;obtain⟨x0,x1,x2,x3,x4,x5,x6⟩:=zbZ H9.o.b1;obtain⟨y0,y1,y2,y3,y4,y5⟩:=zuZ H9.o.b2;obtain⟨hl1,H0⟩:=H9.o.lt)
           go_meet
           exact⟨rfl,H9.o⟩
        | false=>
         go_wp2_with (go_at_call 108;refine Hg.o.mono ?_;rintro e w9 ⟨rfl,Hd⟩;have H9:=zh (H8.o.go Hd);clear Hd;clear x0 x1 x2 x3 x4 x5 x6 y0 y1 y2 y3 y4 y5 hl1 H0;obtain⟨x0,x1,x2,x3,x4,x5,x6⟩:=zbZ H9.o.b1;obtain⟨y0,y1,y2,y3,y4,y5⟩:=zuZ H9.o.b2;obtain⟨hl1,H0⟩:=H9.o.lt)
         go_meet
         exact⟨rfl,H9.o⟩
      | false=>
       cases n0 with
       | true=>
        have Jz:0<nl:=(by have h9:=hn01;simp at h9;omega);have Jo:(0:Int)<(nl:Int):=(by omega);clear hn01;go_wp2_with fail
        go_meet
        exact⟨rfl,H8.o⟩
       | false=>
        obtain rfl:nl=0:=(by have h9:=hn01;simp at h9;omega);clear hn01
        cases ls with
        | true=>
         go_wp2_with fail
         go_meet
         exact⟨rfl,H8.o⟩
        | false=>
         cases ms with
         | true=>
          go_wp2_with fail
          go_meet
          exact⟨rfl,H8.o⟩
         | false=>
          go_wp2_with fail
          go_meet
          exact⟨rfl,H8.o⟩
     case rest=>
      obtain⟨rfl,hheld⟩:=hcut;have Hk:=zh hheld;clear hheld x0 x1 x2 x3 x4 x5 x6 y0 y1 y2 y3 y4 y5 hl1 H0;obtain⟨x0,x1,x2,x3,x4,x5,x6⟩:=zbZ Hk.o.b1;obtain⟨y0,y1,y2,y3,y4,y5⟩:=zuZ Hk.o.b2;obtain⟨hl1,H0⟩:=Hk.o.lt
      cases hB7:Sx.b7 hnm nm ul n0 ls ms with
      | true=>have HF:=zh (Jl.o hB7);clear hB7;go_wp2_with fail;go_ret;rw[HF.o,HL.o];exact⟨rfl,Hk.o.b⟩
      | false=>
       have Hz:=zh hB7;clear hB7;obtain⟨Hh,hd1⟩:=Jv.o J0.o Hu.o Hz.o;have Ja:=zh Hh;clear Hh;go_wp2_with fail;clear x0 x1 x2 x3 x4 x5 x6 y0 y1 y2 y3 y4 y5 hl1 H0;go_loopg [128] k (fun i v wr=>∃(m:Nat),i=k-m/\v=.int .i64 (m:Int)/\m<=k/\Held2 L W #[.int .i64 x.pos,.int .i64 kd,.int .i64 nv,.string ⟨x.s.toArray⟩,.slice At tl ct,.slice An nl cn,.slice Ap k cp] 39 L5 #[.int .i64 hs,.bool hn,.bool ht,.bool hnm,.int .i64 hl,.int .i64 hm] 160 wr/\Sx.rightXs NM (if Sx.flat kd then d else d-1) (d-1) (x.parts.take m)=true)
       case atStart=>exact⟨0,rfl,rfl,yxZ _,Hk.o,by simp[Sx.rightXs]⟩
       case round=>
        obtain⟨m,hi,rfl,hmk,hheld,hall⟩:=hrel;have HI:=zh hi;have HW:=zh hheld;have Hn:=zh hall;have m0:(0:Int)<=(m:Int):=(by omega);clear hi hheld hall;obtain⟨x0,x1,x2,x3,x4,x5,x6⟩:=zbZ HW.o.b1;obtain⟨y0,y1,y2,y3,y4,y5⟩:=zuZ HW.o.b2;obtain⟨hl1,H0⟩:=HW.o.lt;by_cases hlt:m<k
        ·have Jh:(m:Int)<(k:Int):=(by omega);have Hl:m<x.parts.length:=(by have:=HK.o;omega);obtain⟨g,off,At1,ct1,An1,cn1,Aq,cq,rfl,hty,hc7⟩:=HP.o.spot m Hl;rw[HL.o]at hc7;obtain⟨hg,c0,c1,c2,c3,c4,c5,c6⟩:=hc7 wr HW.o.b;have Hy:=ykZ Hl;obtain⟨p,hpe⟩:=zE (x.parts[m]'Hl);have Hj:p∈x.parts:=(by rw[<-hpe];exact yfZ Hl);rw[hpe]at c0 c1 c2 c3 c4 c5 c6 Hy hty;have Je:Sx.sizeX p<=1000000:=(by have:=Sx.sizeX_mem Hj;have:=Jy.o;omega);obtain⟨f,hf⟩:=zE (Sx.further kd m);have J3:=U3.o m;rw[hf]at J3;have J1:f<=1:=(by rw[<-hf];unfold Sx.further;split <;> omega);have J9:(if(x.parts.take m).length=0 then(if Sx.flat kd then d else d-1)else d-1)=d-f:=by
          rw[yUZ,Nat.min_eq_left (yYZ Hl),<-hf];unfold Sx.further;by_cases hz:m=0
          ·rw[if_pos hz];cases hfl:Sx.flat kd <;> simp[hz]
          ·rw[if_neg hz,if_neg (fun h=>hz h.2)]
         have He:=Sx.rightXs_snoc NM (x.parts.take m) (if Sx.flat kd then d else d-1) (d-1) p;rw[Hn.o,J9,<-Hy]at He;have Hc:=Sx.rightXs_pre NM (x.parts.take (m+1)) (x.parts.drop (m+1)) (if Sx.flat kd then d else d-1) (d-1);rw[ydbZ]at Hc;obtain⟨q,hq⟩:∃q:Int,e-(f:Int)=q:=⟨_,rfl⟩;have Uc:IntKind.i64.wrap (e-(f:Int))=q:=(by rw[IntWalk.i64_in _ (by omega)];exact hq);have J8:q=((d-f:Nat):Int):=(by have:=HE.o;omega);have f0:(0:Int)<=(f:Int):=(by omega);have f1:(f:Int)<=1:=(by omega);obtain⟨L9,hL9⟩:=zE (wr.heap.size);obtain⟨w9,hw9⟩:=zE (wr.alloc (.cells #[.int .i64 p.pos,.int .i64 p.kind,.int .i64 p.n,.string ⟨p.s.toArray⟩,.slice At1 p.t.length ct1,.slice An1 p.names.length cn1,.slice Aq p.parts.length cq] 39));have Hb:w9.heap[L9]? =some (.cells #[.int .i64 p.pos,.int .i64 p.kind,.int .i64 p.n,.string ⟨p.s.toArray⟩,.slice At1 p.t.length ct1,.slice An1 p.names.length cn1,.slice Aq p.parts.length cq] 39 (0,0)):=(by rw[<-hw9,<-hL9];exact ydZ wr _);have H9:=zh (HW.o.go (by rw[<-hw9];exact zeZ (yeZ wr _ none)):Held2 L W _ _ L5 _ _ w9);have Jb:Calls Tryz.prog 63 #[.agg #[.int .i64 p.pos,.int .i64 p.kind,.int .i64 p.n,.string ⟨p.s.toArray⟩,.slice At1 p.t.length ct1,.slice An1 p.names.length cn1,.slice Aq p.parts.length cq],.int .i64 q] w9.drew fun e X'=>e=.returned (.bool (Sx.rightX NM (d-f) p))/\Below w9.drew.heap.size w9.drew X':=(by rw[J8];have hB:Below W.heap.size W w9.drew:=(by rw[HL.o];exact H9.o.drew.b);exact Jt.o p Hj (d-f) (by have:=Ji.o;omega) _ w9.drew (HG.o.below hB) (ymZ HN.o hB.size) (hty.below hB) Je);have Hr:=zh Jb;have H3:=zh He;have Hm:=zh Hc;have Hp:=zh J3;clear x0 x1 x2 x3 x4 x5 x6 y0 y1 y2 y3 y4 y5 hl1 H0;obtain⟨x0,x1,x2,x3,x4,x5,x6⟩:=zbZ H9.o.b1;obtain⟨y0,y1,y2,y3,y4,y5⟩:=zuZ H9.o.b2;obtain⟨hl1,H0⟩:=H9.o.lt;obtain⟨z0,z1,z2,z3,z4,z5,z6⟩:=zbZ Hb;have Ua:=zaZ Hb;clear hq J8 Jb He Hc J3 J9 Hy hc7 hty hpe Hj Je hf J1 Hb;go_upto_region 12 with fail
         cases hr:Sx.rightX NM (d-f) p with
         | true=>
          rw[hr]at Hr H3;clear hr
          go_region_with (first
           | (go_at_call 112;refine(Hp.o _).mono ?_;rintro e w' ⟨rfl,rfl⟩)
           | (go_at_call 63;refine Hr.o.mono ?_;rintro e w11 ⟨rfl,Ha⟩))
          all_goals
           have Hx:=zh (H9.o.drew.go Ha);clear Ha;go_wp2_with fail;go_roundg (k-(m+1))
           case measure=>have:=HI.o;omega
           case rel=>exact⟨m+1,rfl,by simp,hlt,Hx.o,H3.o⟩
         | false=>
          rw[hr]at Hr H3;have HF:=zh (Hm.o H3.o);clear hr
          go_region_with (first
           | (go_at_call 112;refine(Hp.o _).mono ?_;rintro e w' ⟨rfl,rfl⟩)
           | (go_at_call 63;refine Hr.o.mono ?_;rintro e w11 ⟨rfl,Ha⟩))
          all_goals
           have Hx:=zh (H9.o.drew.go Ha);clear Ha;go_wp2_with fail;go_ret;rw[Ja.o,HF.o,HL.o];exact⟨rfl,Hx.o.b⟩
        ·have Jh:¬(m:Int)<(k:Int):=by omega
         have HF:=zh (show Sx.rightXs NM (if Sx.flat kd then d else d-1) (d-1) x.parts=true by
          have h:=Hn.o
          rwa [yjZ (by have:=HK.o;omega)]at h)
         go_wp2_with fail
         go_ret;rw[Ja.o,HF.o,HL.o];exact⟨rfl,HW.o.b⟩
theorem zdxZ:∀(n:Nat) (x:Sx.Ex),Sx.sizeX x<=n->∀d,d<=64->RightXOk d x
 | 0,x,h=>by have:=Sx.sizeX_pos x;omega
 | n+1,x,h=>fun d hd=>zpyZ d hd x (fun p hp=>zdxZ n p (by
   have:=Sx.sizeX_mem hp;have:=Sx.sizeX_parts x
   omega))
end Go.Proofs.YtdncljdfmdgdaaaGreatDoor
