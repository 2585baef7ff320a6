/-
  The walk of rightExpr.
-/
import Derived.Test.YtdncljdfmdgdaaaGreatDoorM1
import Derived.Test.YtdncljdfmdgdaaaGreatDoorM20
import Derived.Test.YtdncljdfmdgdaaaGreatDoorM21
import Derived.IntWalk
import Derived.Test.YtdncljdfmdgdaaaGreatDoorM17
import Derived.Test.YtdncljdfmdgdaaaGreatDoorM18
import Derived.Test.YtdncljdfmdgdaaaGreatDoorM15
set_option linter.unusedSimpArgs false
set_option linter.unusedVariables false
set_option maxRecDepth 100000
set_option maxHeartbeats 16000000
namespace Go.Proofs.YtdncljdfmdgdaaaGreatDoor
open Go.RowKit Go.Shelf Go.WideMaps
structure Held2 (L:Nat) (W:World) (cs:Array Value) (t:TypeId) (L2:Nat) (cs2:Array Value) (t2:TypeId) (w:World):Prop where
 b:Below L W w
 b1:w.heap[L]? =some (.cells cs t (0,0))
 b2:w.heap[L2]? =some (.cells cs2 t2 (0,0))
theorem Held2.go {L L2:Nat} {W w w':World} {cs cs2:Array Value} {t t2:TypeId} (h:Held2 L W cs t L2 cs2 t2 w) (hb:Below w.heap.size w w'):Held2 L W cs t L2 cs2 t2 w':=
 ⟨h.b.trans (hb.mono (Nat.le_of_lt (zaZ h.b1))),(hb.block _ (zaZ h.b1)).trans h.b1,(hb.block _ (zaZ h.b2)).trans h.b2⟩
theorem Held2.lt {L L2:Nat} {W w:World} {cs cs2:Array Value} {t t2:TypeId} (h:Held2 L W cs t L2 cs2 t2 w):L<w.heap.size∧L2<w.heap.size:=⟨zaZ h.b1,zaZ h.b2⟩
theorem Held2.drew {L L2:Nat} {W w:World} {cs cs2:Array Value} {t t2:TypeId} (h:Held2 L W cs t L2 cs2 t2 w):Held2 L W cs t L2 cs2 t2 w.drew:=h.go (Below.drew (Below.refl _ _))
theorem zsZ {w:World} {g t:Nat} {a b c d e f:Value} (h:w.heap[g]? =some (.cells #[a,b,c,d,e,f] t (0,0))) :
  w.cell? ⟨g,0,none⟩=some a∧w.cell? ⟨g,1,none⟩=some b∧w.cell? ⟨g,2,none⟩=some c∧w.cell? ⟨g,3,none⟩=some d∧w.cell? ⟨g,4,none⟩=some e∧w.cell? ⟨g,5,none⟩=some f:=
 ⟨zdZ h 0,zdZ h 1,zdZ h 2,zdZ h 3,zdZ h 4,zdZ h 5⟩
theorem Sx.rightX_eq (d:Nat) (x:Sx.Ex):Sx.rightX NM d x=(decide (d≠0)&&(Sx.shapeX NM x.kind x.n x.s x.t x.names x.parts.length&&Sx.rightXs NM (if Sx.flat x.kind then d else d-1) (d-1) x.parts)):=by
 cases x with
 | mk pos k n s t ns ps=>
  cases d with
  | zero=>simp[Sx.rightX]
  | succ d=>
   rw[Sx.rightX]
   show _=(decide (d+1≠0)&&(Sx.shapeX NM k n s t ns ps.length&&Sx.rightXs NM (if Sx.flat k then d+1 else d+1-1) (d+1-1) ps))
   simp
theorem Sx.right0_head:∀(t:List Sx.Ty) (h:0<t.length),Sx.rightT NM 64 (t[0]'h)=Sx.right0 t
 | a::l,h=>rfl
theorem Sx.rightXs_snoc (N:Sx.Names):∀(l:List Sx.Ex) (d0 d:Nat) (x:Sx.Ex),Sx.rightXs N d0 d (l++[x])=(Sx.rightXs N d0 d l&&Sx.rightX N (if l.length=0 then d0 else d) x)
 | [],d0,d,x=>by simp[Sx.rightXs]
 | y::l,d0,d,x=>by
  rw[List.cons_append,Sx.rightXs,Sx.rightXs,Sx.rightXs_snoc N l d d x]
  simp[Bool.and_assoc]
theorem Sx.rightXs_pre (N:Sx.Names):∀(l m:List Sx.Ex) (d0 d:Nat),Sx.rightXs N d0 d l=false→Sx.rightXs N d0 d (l++m)=false
 | [],m,d0,d,h=>by simp[Sx.rightXs]at h
 | y::l,m,d0,d,h=>by
  rw[List.cons_append,Sx.rightXs]
  rw[Sx.rightXs]at h
  cases hy:Sx.rightX N d0 y with
  | false=>rfl
  | true=>
   rw[hy]at h
   rw[Sx.rightXs_pre N l m d d (by simpa using h)]
   rfl
def RightXOk (d:Nat) (x:Sx.Ex):Prop:=∀(v:Value) (W:World),GS W→NG≤W.heap.size→IsEx W v x→Sx.sizeX x≤1000000→
 Calls Tryz.prog 63 #[v,.int .i64 (d:Nat)] W fun e W'=>e=.returned (.bool (Sx.rightX NM d x))∧Below W.heap.size W W'
theorem zosZ (d:Nat) (hd:d≤64) (x:Sx.Ex) (ih:∀p∈x.parts,∀d,d≤64→RightXOk d p):RightXOk d x:=by
 intro v W hG hN Jb Jr
 obtain⟨At,ct,An,cn,Ap,cp,rfl,htt,hnn,hp,hn0,hn1⟩:=Jb.agg
 have Jn:=Sx.sizeX_parts x
 have Jm:=Sx.length_sizeXs x.parts
 have Hz:=Sx.length_size x.t
 have U2:=Sx.textX_len x
 have Hi:=Sx.good_eq (k:=x.kind) (n:=x.n) (s:=x.s) (t:=x.t) (ns:=x.names) (m:=x.parts.length) (by omega)
 have Hh:=Sx.rightX_eq d x
 obtain⟨⟨⟨hs,hn,ht,hnm,hl,hm⟩,ok⟩,hso⟩:∃r,Sx.shapeOf x.kind=r:=⟨_,rfl⟩
 have hSO:=zngZ x.kind
 rw[hso]at hSO
 have hRT:=fun X hX=>zkgZ ⟨hs,hn,ht,hnm,hl,hm⟩ x.s X (hG.below hX) (Nat.le_trans hN hX.size) (by omega)
 have hTY:=fun(p:Sx.Ty) (hp:p∈x.t) u X hX hu=>zeoZ 64 (by omega) p u X (hG.below hX) (Nat.le_trans hN hX.size) hu (by have:=Sx.size_mem hp;omega)
 have hUN:=fun X (hX:Below W.heap.size W X)=>zfkZ x.names (.slice An x.names.length cn) X (hG.below hX) (Nat.le_trans hN hX.size) (hnn.below hX) (by omega) (fun s hs=>by have:=Sx.nameX_len hs;omega)
 simp only[Sx.good,hso]at Hi
 simp only[Sx.Sh.v]at hSO hRT
 obtain⟨rt,hrt⟩:=zE (Sx.rightText ⟨hs,hn,ht,hnm,hl,hm⟩ x.s)
 obtain⟨ul,hul⟩:=zE (Sx.apart NM x.names)
 obtain⟨r0,hr0⟩:=zE (Sx.right0 x.t)
 obtain⟨k3,hk3⟩:=zE ((x.kind==3))
 obtain⟨nz,hnz⟩:=zE ((x.n != 0))
 obtain⟨nn,hnn1⟩:=zE (decide (x.n<0))
 obtain⟨n1,hn11⟩:=zE (decide (1<x.n))
 obtain⟨e,he⟩:∃e:Int,(d:Int)=e:=⟨_,rfl⟩
 obtain⟨d0,hd0⟩:=zE ((e==0))
 obtain⟨t1,ht1⟩:=zE (((x.t.length:Int)==1))
 obtain⟨t0,ht0'⟩:∃b,decide ((0:Int)<(x.t.length:Int))=b:=⟨_,rfl⟩
 obtain⟨nm,hnm1⟩:=zE (((x.parts.length:Int) != (x.names.length:Int)))
 obtain⟨n0,hn01⟩:=zE (decide ((0:Int)<(x.names.length:Int)))
 obtain⟨ls,hls⟩:=zE (decide ((x.parts.length:Int)<hl))
 obtain⟨ms,hms⟩:=zE (decide (hm<(x.parts.length:Int)))
 have et1:(x.t.length==1)=t1:=by rw[←ht1,Bool.eq_iff_iff,beq_iff_eq,beq_iff_eq];omega
 have et0:decide (0<x.t.length)=t0:=by rw[←ht0',Bool.eq_iff_iff,decide_eq_true_eq,decide_eq_true_eq];omega
 have enm:(x.parts.length != x.names.length)=nm:=by rw[←hnm1,Bool.eq_iff_iff,bne_iff_ne,bne_iff_ne];omega
 have en0:decide (0<x.names.length)=n0:=by rw[←hn01,Bool.eq_iff_iff,decide_eq_true_eq,decide_eq_true_eq];omega
 rw[hrt,hul,hr0,hk3,hnz,hnn1,hn11,et1,et0,enm,en0,hls,hms]at Hi
 have J4:decide (d≠0)=!d0:=by rw[←hd0,Bool.eq_iff_iff,decide_eq_true_eq];simp;omega
 have I2:Sx.b2 ok d0 rt hn nz nn k3 n1=true→Sx.rightX NM d x=false:=by
  intro h
  rw[Hh,Hi,J4]
  cases d0
  ·rw[h];rfl
  ·rfl
 have I4:Sx.b4 ht t1 t0 r0=true→Sx.rightX NM d x=false:=by
  intro h
  rw[Hh,Hi,h]
  simp
 have I7:Sx.b7 hnm nm ul n0 ls ms=true→Sx.rightX NM d x=false:=by
  intro h
  rw[Hh,Hi,h]
  simp
 have IR:Sx.b2 ok d0 rt hn nz nn k3 n1=false→Sx.b4 ht t1 t0 r0=false→Sx.b7 hnm nm ul n0 ls ms=false→Sx.rightX NM d x=Sx.rightXs NM (if Sx.flat x.kind then d else d-1) (d-1) x.parts∧1≤d:=by
  intro h1 h2 h3
  have Hw:d0=false:=by
   cases d0 with
   | false=>rfl
   | true=>cases ok <;> simp[Sx.b2]at h1
  subst Hw
  rw[Hh,Hi,h1,h2,h3]
  have:d≠0:=by simpa using J4
  exact⟨by simp[this],by omega⟩
 have hT0:∀(h:0<x.t.length),Sx.rightT NM 64 (x.t[0]'h)=r0:=fun h=>by rw[←hr0];exact Sx.right0_head _ h
 obtain⟨kd,hkd⟩:=zE (x.kind)
 obtain⟨nv,hnv⟩:=zE (x.n)
 obtain⟨tl,htl⟩:=zE (x.t.length)
 obtain⟨nl,hnl⟩:=zE (x.names.length)
 obtain⟨k,hk⟩:=zE (x.parts.length)
 have hFU:=fun(i:Nat) w=>znhZ kd i w
 have U8:(k:Int)≤1000000:=by omega
 have U9:(0:Int)≤(k:Int):=by omega
 have Ju:(0:Int)≤(nl:Int):=by omega
 have U1:(0:Int)≤(tl:Int):=by omega
 have U7:(nl:Int)≤1000000:=by omega
 have U6:(tl:Int)≤1000000:=by omega
 have Ub:(0:Int)≤e:=by omega
 have Jo:e≤64:=by omega
 rw[he,hkd,hnv,htl,hnl,hk]
 rw[hkd]at hk3 hSO IR
 rw[hnv]at hnz hnn1 hn11
 rw[htl]at ht1 ht0' htt
 rw[hnl,hk]at hnm1
 rw[hnl]at hn01 hnn
 rw[hk]at hls hms hp
 rw[hnl]at hUN
 have Jg:=zh ih
 have Ja:=zh hRT
 have Jl:=zh hTY
 have J9:=zh hUN
 have Ji:=zh hFU
 have Jy:=zh hSO
 have Jw:=zh I2
 have Jv:=zh I4
 have Jh:=zh I7
 have Jj:=zh IR
 have Jk:=zh hT0
 have Jq:=zh htt
 have HP:=zh hp
 have HG:=zh hG
 have HN:=zh hN
 have HE:=zh he
 have HK:=zh hk
 have U4:=zh htl
 have U0:=zh hd
 have Jp:=zh (show Sx.sizeXs x.parts≤1000000 by omega)
 rw[hrt]at Ja
 rw[hul]at J9
 obtain⟨L,hL⟩:=zE (W.heap.size)
 obtain⟨w2,hw2⟩:=zE (W.alloc (.cells #[.int .i64 x.pos,.int .i64 kd,.int .i64 nv,.string ⟨x.s.toArray⟩,.slice At tl ct,.slice An nl cn,.slice Ap k cp] 39))
 have Hg:w2.heap[L]? =some (.cells #[.int .i64 x.pos,.int .i64 kd,.int .i64 nv,.string ⟨x.s.toArray⟩,.slice At tl ct,.slice An nl cn,.slice Ap k cp] 39 (0,0)):=by rw[←hw2,←hL];exact heap_alloc_new W _
 have Hx:Below L W w2:=by rw[←hw2,←hL];exact zeZ (World.grownBy_alloc W _ none)
 have J0:L≤w2.heap.size:=by have:=Hx.size;omega
 obtain⟨x0,x1,x2,x3,x4,x5,x6⟩:=zbZ Hg
 have H0:=zaZ Hg
 have Js:=zh Hg
 have Jt:=zh Hx
 have HL:=zh hL
 clear hSO hRT hTY hUN hFU I2 I4 I7 IR hT0 htt hp hG hN he hk htl Jb Jr hnn hn0 hn1 Jn Jm Hz U2 Hi Hh hso hrt hul hr0 et1 et0 enm en0 J4 hkd hnv hnl ih Hg Hx hd
 go_enter Tryz.func63, Tryz.ntmps63
 go_upto_region 2 with(go_at_call 110;refine(Jy.o w2).mono ?_;rintro e w3 ⟨rfl,Hr⟩)
 clear x0 x1 x2 x3 x4 x5 x6
 obtain⟨w4,hw4⟩:=zE (w3.alloc (.cells #[.int .i64 hs,.bool hn,.bool ht,.bool hnm,.int .i64 hl,.int .i64 hm] 160))
 rw[hw4]
 obtain⟨L5,hL5⟩:=zE (w3.heap.size)
 have Jd:Held2 L W #[.int .i64 x.pos,.int .i64 kd,.int .i64 nv,.string ⟨x.s.toArray⟩,.slice At tl ct,.slice An nl cn,.slice Ap k cp] 39 L5 #[.int .i64 hs,.bool hn,.bool ht,.bool hnm,.int .i64 hl,.int .i64 hm] 160 w4:=by
  have h3:w3.heap[L]? =_:=(Hr.block L H0).trans Js.o
  have hg:=World.grownBy_alloc w3 (.cells #[.int .i64 hs,.bool hn,.bool ht,.bool hnm,.int .i64 hl,.int .i64 hm] 160) none
  refine⟨(Jt.o.trans (Hr.mono J0)).trans ?_,?_,?_⟩
  ·rw[←hw4];exact(zeZ hg).mono (Nat.le_trans J0 Hr.size)
  ·rw[←hw4];exact(hg.block L (zaZ h3) (fun e=>nomatch e)).trans h3
  ·rw[←hw4,←hL5];exact heap_alloc_new w3 _
 rw[hL5]
 have H4:=zh Jd
 clear hw4 Jd Hr H0 J0 hw2 hL5 hL
 obtain⟨x0,x1,x2,x3,x4,x5,x6⟩:=zbZ H4.o.b1
 obtain⟨y0,y1,y2,y3,y4,y5⟩:=zsZ H4.o.b2
 obtain⟨hl1,H0⟩:=H4.o.lt
 have H2:=zh (Ja.o w4 (by rw[HL.o];exact H4.o.b))
 go_cut [53] (fun v wx=>v=.bool (Sx.b2 ok d0 rt hn nz nn k3 n1)∧Held2 L W #[.int .i64 x.pos,.int .i64 kd,.int .i64 nv,.string ⟨x.s.toArray⟩,.slice At tl ct,.slice An nl cn,.slice Ap k cp] 39 L5 #[.int .i64 hs,.bool hn,.bool ht,.bool hnm,.int .i64 hl,.int .i64 hm] 160 wx)
 case first=>
  have h6:=HL.o
  cases ok with
  | true=>
   cases d0 with
   | true=>
    go_wp2_with fail
    go_meet
    exact⟨rfl,H4.o⟩
   | false=>
    cases rt with
    | true=>
     cases hn with
     | true=>
      cases nn with
      | true=>
       go_wp2_with (go_at_call 111;refine H2.o.mono ?_;rintro e w5 ⟨rfl,H1⟩;have H5:=zh (H4.o.go H1);clear H1;clear x0 x1 x2 x3 x4 x5 x6 y0 y1 y2 y3 y4 y5 hl1 H0;obtain⟨x0,x1,x2,x3,x4,x5,x6⟩:=zbZ H5.o.b1;obtain⟨y0,y1,y2,y3,y4,y5⟩:=zsZ H5.o.b2;obtain⟨hl1,H0⟩:=H5.o.lt)
       go_meet
       exact⟨rfl,H5.o⟩
      | false=>
       cases k3 with
       | true=>
        cases n1 with
        | true=>
         go_wp2_with (go_at_call 111;refine H2.o.mono ?_;rintro e w5 ⟨rfl,H1⟩;have H5:=zh (H4.o.go H1);clear H1;clear x0 x1 x2 x3 x4 x5 x6 y0 y1 y2 y3 y4 y5 hl1 H0;obtain⟨x0,x1,x2,x3,x4,x5,x6⟩:=zbZ H5.o.b1;obtain⟨y0,y1,y2,y3,y4,y5⟩:=zsZ H5.o.b2;obtain⟨hl1,H0⟩:=H5.o.lt)
         go_meet
         exact⟨rfl,H5.o⟩
        | false=>
         go_wp2_with (go_at_call 111;refine H2.o.mono ?_;rintro e w5 ⟨rfl,H1⟩;have H5:=zh (H4.o.go H1);clear H1;clear x0 x1 x2 x3 x4 x5 x6 y0 y1 y2 y3 y4 y5 hl1 H0;obtain⟨x0,x1,x2,x3,x4,x5,x6⟩:=zbZ H5.o.b1;obtain⟨y0,y1,y2,y3,y4,y5⟩:=zsZ H5.o.b2;obtain⟨hl1,H0⟩:=H5.o.lt)
         go_meet
         exact⟨rfl,H5.o⟩
       | false=>
        go_wp2_with (go_at_call 111;refine H2.o.mono ?_;rintro e w5 ⟨rfl,H1⟩;have H5:=zh (H4.o.go H1);clear H1;clear x0 x1 x2 x3 x4 x5 x6 y0 y1 y2 y3 y4 y5 hl1 H0;obtain⟨x0,x1,x2,x3,x4,x5,x6⟩:=zbZ H5.o.b1;obtain⟨y0,y1,y2,y3,y4,y5⟩:=zsZ H5.o.b2;obtain⟨hl1,H0⟩:=H5.o.lt)
        go_meet
        exact⟨rfl,H5.o⟩
     | false=>
      cases nz with
      | true=>
       go_wp2_with (go_at_call 111;refine H2.o.mono ?_;rintro e w5 ⟨rfl,H1⟩;have H5:=zh (H4.o.go H1);clear H1;clear x0 x1 x2 x3 x4 x5 x6 y0 y1 y2 y3 y4 y5 hl1 H0;obtain⟨x0,x1,x2,x3,x4,x5,x6⟩:=zbZ H5.o.b1;obtain⟨y0,y1,y2,y3,y4,y5⟩:=zsZ H5.o.b2;obtain⟨hl1,H0⟩:=H5.o.lt)
       go_meet
       exact⟨rfl,H5.o⟩
      | false=>
       cases nn with
       | true=>
        go_wp2_with (go_at_call 111;refine H2.o.mono ?_;rintro e w5 ⟨rfl,H1⟩;have H5:=zh (H4.o.go H1);clear H1;clear x0 x1 x2 x3 x4 x5 x6 y0 y1 y2 y3 y4 y5 hl1 H0;obtain⟨x0,x1,x2,x3,x4,x5,x6⟩:=zbZ H5.o.b1;obtain⟨y0,y1,y2,y3,y4,y5⟩:=zsZ H5.o.b2;obtain⟨hl1,H0⟩:=H5.o.lt)
        go_meet
        exact⟨rfl,H5.o⟩
       | false=>
        cases k3 with
        | true=>
         cases n1 with
         | true=>
          go_wp2_with (go_at_call 111;refine H2.o.mono ?_;rintro e w5 ⟨rfl,H1⟩;have H5:=zh (H4.o.go H1);clear H1;clear x0 x1 x2 x3 x4 x5 x6 y0 y1 y2 y3 y4 y5 hl1 H0;obtain⟨x0,x1,x2,x3,x4,x5,x6⟩:=zbZ H5.o.b1;obtain⟨y0,y1,y2,y3,y4,y5⟩:=zsZ H5.o.b2;obtain⟨hl1,H0⟩:=H5.o.lt)
          go_meet
          exact⟨rfl,H5.o⟩
         | false=>
          go_wp2_with (go_at_call 111;refine H2.o.mono ?_;rintro e w5 ⟨rfl,H1⟩;have H5:=zh (H4.o.go H1);clear H1;clear x0 x1 x2 x3 x4 x5 x6 y0 y1 y2 y3 y4 y5 hl1 H0;obtain⟨x0,x1,x2,x3,x4,x5,x6⟩:=zbZ H5.o.b1;obtain⟨y0,y1,y2,y3,y4,y5⟩:=zsZ H5.o.b2;obtain⟨hl1,H0⟩:=H5.o.lt)
          go_meet
          exact⟨rfl,H5.o⟩
        | false=>
         go_wp2_with (go_at_call 111;refine H2.o.mono ?_;rintro e w5 ⟨rfl,H1⟩;have H5:=zh (H4.o.go H1);clear H1;clear x0 x1 x2 x3 x4 x5 x6 y0 y1 y2 y3 y4 y5 hl1 H0;obtain⟨x0,x1,x2,x3,x4,x5,x6⟩:=zbZ H5.o.b1;obtain⟨y0,y1,y2,y3,y4,y5⟩:=zsZ H5.o.b2;obtain⟨hl1,H0⟩:=H5.o.lt)
         go_meet
         exact⟨rfl,H5.o⟩
    | false=>
     go_wp2_with (go_at_call 111;refine H2.o.mono ?_;rintro e w5 ⟨rfl,H1⟩;have H5:=zh (H4.o.go H1);clear H1;clear x0 x1 x2 x3 x4 x5 x6 y0 y1 y2 y3 y4 y5 hl1 H0;obtain⟨x0,x1,x2,x3,x4,x5,x6⟩:=zbZ H5.o.b1;obtain⟨y0,y1,y2,y3,y4,y5⟩:=zsZ H5.o.b2;obtain⟨hl1,H0⟩:=H5.o.lt)
     go_meet
     exact⟨rfl,H5.o⟩
  | false=>
   go_wp2_with fail
   go_meet
   exact⟨rfl,H4.o⟩
 case rest=>
  obtain⟨rfl,hheld⟩:=hcut
  have H6:=zh hheld
  clear hheld x0 x1 x2 x3 x4 x5 x6 y0 y1 y2 y3 y4 y5 hl1 H0
  obtain⟨x0,x1,x2,x3,x4,x5,x6⟩:=zbZ H6.o.b1
  obtain⟨y0,y1,y2,y3,y4,y5⟩:=zsZ H6.o.b2
  obtain⟨hl1,H0⟩:=H6.o.lt
  cases hB2:Sx.b2 ok d0 rt hn nz nn k3 n1 with
  | true=>
   have HF:=zh (Jw.o hB2)
   clear hB2
   go_wp2_with fail
   go_ret
   rw[HF.o,HL.o]
   exact⟨rfl,H6.o.b⟩
  | false=>
   have Hv:=zh hB2
   clear hB2
   go_upto_region 4 with fail
   go_cut [83] (fun v wx=>v=.bool (Sx.b4 ht t1 t0 r0)∧Held2 L W #[.int .i64 x.pos,.int .i64 kd,.int .i64 nv,.string ⟨x.s.toArray⟩,.slice At tl ct,.slice An nl cn,.slice Ap k cp] 39 L5 #[.int .i64 hs,.bool hn,.bool ht,.bool hnm,.int .i64 hl,.int .i64 hm] 160 wx)
   case first=>
    cases ht with
    | true=>
     cases t1 with
     | true=>
      obtain rfl:tl=1:=by have h9:=ht1;simp at h9;omega
      clear ht1
      have Hq:0<x.t.length:=by have:=U4.o;omega
      have Jz:(0:Int)<(1:Int):=by omega
      obtain⟨gT,offT,AnT,cnT,AeT,ceT,AqT,cqT,rfl,htyT,hcT⟩:=Jq.o.spot 0 Hq
      rw[HL.o]at hcT
      obtain⟨dg,q0,q1,q2,q3,q4⟩:=hcT _ H6.o.b
      rw[Nat.zero_mul,Nat.add_zero]at q0 q1 q2 q3 q4
      have Hs:=Jl.o _ (List.getElem_mem Hq) _ _ (by rw[HL.o];exact H6.o.b) (htyT.below (by rw[HL.o];exact H6.o.b))
      rw[Jk.o Hq]at Hs
      obtain⟨pT,hpT⟩:=zE (x.t[0]'Hq)
      rw[hpT]at q0 q1 q2 q3 q4 Hs
      have Jf:=zh Hs
      clear hcT htyT Hs hpT
      cases r0 with
      | true=>
       go_wp2_with (go_at_call 58;refine Jf.o.mono ?_;rintro e w7 ⟨rfl,Hp⟩;have H7:=zh (H6.o.go Hp);clear Hp;clear x0 x1 x2 x3 x4 x5 x6 y0 y1 y2 y3 y4 y5 hl1 H0;obtain⟨x0,x1,x2,x3,x4,x5,x6⟩:=zbZ H7.o.b1;obtain⟨y0,y1,y2,y3,y4,y5⟩:=zsZ H7.o.b2;obtain⟨hl1,H0⟩:=H7.o.lt)
       go_meet
       exact⟨rfl,H7.o⟩
      | false=>
       go_wp2_with (go_at_call 58;refine Jf.o.mono ?_;rintro e w7 ⟨rfl,Hp⟩;have H7:=zh (H6.o.go Hp);clear Hp;clear x0 x1 x2 x3 x4 x5 x6 y0 y1 y2 y3 y4 y5 hl1 H0;obtain⟨x0,x1,x2,x3,x4,x5,x6⟩:=zbZ H7.o.b1;obtain⟨y0,y1,y2,y3,y4,y5⟩:=zsZ H7.o.b2;obtain⟨hl1,H0⟩:=H7.o.lt)
       go_meet
       exact⟨rfl,H7.o⟩
     | false=>
      go_wp2_with fail
      go_meet
      exact⟨rfl,H6.o⟩
    | false=>
     cases t1 with
     | true=>
      obtain rfl:tl=1:=by have h9:=ht1;simp at h9;omega
      clear ht1
      go_wp2_with fail
      go_meet
      exact⟨rfl,H6.o⟩
     | false=>
      cases t0 with
      | true=>
       have U5:0<tl:=by have h9:=ht0';simp at h9;omega
       have U3:(0:Int)<(tl:Int):=by omega
       clear ht0'
       go_wp2_with fail
       go_meet
       exact⟨rfl,H6.o⟩
      | false=>
       obtain rfl:tl=0:=by have h9:=ht0';simp at h9;omega
       clear ht0'
       go_wp2_with fail
       go_meet
       exact⟨rfl,H6.o⟩
   case rest=>
    obtain⟨rfl,hheld⟩:=hcut
    have H8:=zh hheld
    clear hheld x0 x1 x2 x3 x4 x5 x6 y0 y1 y2 y3 y4 y5 hl1 H0
    obtain⟨x0,x1,x2,x3,x4,x5,x6⟩:=zbZ H8.o.b1
    obtain⟨y0,y1,y2,y3,y4,y5⟩:=zsZ H8.o.b2
    obtain⟨hl1,H0⟩:=H8.o.lt
    cases hB4:Sx.b4 ht t1 t0 r0 with
    | true=>
     have HF:=zh (Jv.o hB4)
     clear hB4
     go_wp2_with fail
     go_ret
     rw[HF.o,HL.o]
     exact⟨rfl,H8.o.b⟩
    | false=>
     have J3:=zh hB4
     clear hB4
     go_upto_region 7 with fail
     have Hf:=zh (J9.o _ (by rw[HL.o];exact H8.o.b))
     go_cut [124] (fun v wx=>v=.bool (Sx.b7 hnm nm ul n0 ls ms)∧Held2 L W #[.int .i64 x.pos,.int .i64 kd,.int .i64 nv,.string ⟨x.s.toArray⟩,.slice At tl ct,.slice An nl cn,.slice Ap k cp] 39 L5 #[.int .i64 hs,.bool hn,.bool ht,.bool hnm,.int .i64 hl,.int .i64 hm] 160 wx)
     case first=>
      cases hnm with
      | true=>
       cases nm with
       | true=>
        go_wp2_with fail
        go_meet
        exact⟨rfl,H8.o⟩
       | false=>
        obtain rfl:nl=k:=by have h9:=hnm1;simp at h9;omega
        clear hnm1
        cases ul with
        | true=>
         cases ls with
         | true=>
          go_wp2_with (go_at_call 108;refine Hf.o.mono ?_;rintro e w9 ⟨rfl,He⟩;have H9:=zh (H8.o.go He);clear He;clear x0 x1 x2 x3 x4 x5 x6 y0 y1 y2 y3 y4 y5 hl1 H0;obtain⟨x0,x1,x2,x3,x4,x5,x6⟩:=zbZ H9.o.b1;obtain⟨y0,y1,y2,y3,y4,y5⟩:=zsZ H9.o.b2;obtain⟨hl1,H0⟩:=H9.o.lt)
          go_meet
          exact⟨rfl,H9.o⟩
         | false=>
          cases ms with
          | true=>
           go_wp2_with (go_at_call 108;refine Hf.o.mono ?_;rintro e w9 ⟨rfl,He⟩;have H9:=zh (H8.o.go He);clear He;clear x0 x1 x2 x3 x4 x5 x6 y0 y1 y2 y3 y4 y5 hl1 H0;obtain⟨x0,x1,x2,x3,x4,x5,x6⟩:=zbZ H9.o.b1;obtain⟨y0,y1,y2,y3,y4,y5⟩:=zsZ H9.o.b2;obtain⟨hl1,H0⟩:=H9.o.lt)
           go_meet
           exact⟨rfl,H9.o⟩
          | false=>
           go_wp2_with (go_at_call 108;refine Hf.o.mono ?_;rintro e w9 ⟨rfl,He⟩;have H9:=zh (H8.o.go He);clear He;clear x0 x1 x2 x3 x4 x5 x6 y0 y1 y2 y3 y4 y5 hl1 H0;obtain⟨x0,x1,x2,x3,x4,x5,x6⟩:=zbZ H9.o.b1;obtain⟨y0,y1,y2,y3,y4,y5⟩:=zsZ H9.o.b2;obtain⟨hl1,H0⟩:=H9.o.lt)
           go_meet
           exact⟨rfl,H9.o⟩
        | false=>
         go_wp2_with (go_at_call 108;refine Hf.o.mono ?_;rintro e w9 ⟨rfl,He⟩;have H9:=zh (H8.o.go He);clear He;clear x0 x1 x2 x3 x4 x5 x6 y0 y1 y2 y3 y4 y5 hl1 H0;obtain⟨x0,x1,x2,x3,x4,x5,x6⟩:=zbZ H9.o.b1;obtain⟨y0,y1,y2,y3,y4,y5⟩:=zsZ H9.o.b2;obtain⟨hl1,H0⟩:=H9.o.lt)
         go_meet
         exact⟨rfl,H9.o⟩
      | false=>
       cases n0 with
       | true=>
        have U5:0<nl:=by have h9:=hn01;simp at h9;omega
        have U3:(0:Int)<(nl:Int):=by omega
        clear hn01
        go_wp2_with fail
        go_meet
        exact⟨rfl,H8.o⟩
       | false=>
        obtain rfl:nl=0:=by have h9:=hn01;simp at h9;omega
        clear hn01
        cases ls with
        | true=>
         go_wp2_with fail
         go_meet
         exact⟨rfl,H8.o⟩
        | false=>
         cases ms with
         | true=>
          go_wp2_with fail
          go_meet
          exact⟨rfl,H8.o⟩
         | false=>
          go_wp2_with fail
          go_meet
          exact⟨rfl,H8.o⟩
     case rest=>
      obtain⟨rfl,hheld⟩:=hcut
      have Hn:=zh hheld
      clear hheld x0 x1 x2 x3 x4 x5 x6 y0 y1 y2 y3 y4 y5 hl1 H0
      obtain⟨x0,x1,x2,x3,x4,x5,x6⟩:=zbZ Hn.o.b1
      obtain⟨y0,y1,y2,y3,y4,y5⟩:=zsZ Hn.o.b2
      obtain⟨hl1,H0⟩:=Hn.o.lt
      cases hB7:Sx.b7 hnm nm ul n0 ls ms with
      | true=>
       have HF:=zh (Jh.o hB7)
       clear hB7
       go_wp2_with fail
       go_ret
       rw[HF.o,HL.o]
       exact⟨rfl,Hn.o.b⟩
      | false=>
       have J1:=zh hB7
       clear hB7
       obtain⟨Hh,hd1⟩:=Jj.o Hv.o J3.o J1.o
       have Je:=zh Hh
       clear Hh
       go_wp2_with fail
       clear x0 x1 x2 x3 x4 x5 x6 y0 y1 y2 y3 y4 y5 hl1 H0
       go_loopg [128] k (fun i v wr=>∃(m:Nat),i=k-m∧v=.int .i64 (m:Int)∧m≤k∧Held2 L W #[.int .i64 x.pos,.int .i64 kd,.int .i64 nv,.string ⟨x.s.toArray⟩,.slice At tl ct,.slice An nl cn,.slice Ap k cp] 39 L5 #[.int .i64 hs,.bool hn,.bool ht,.bool hnm,.int .i64 hl,.int .i64 hm] 160 wr∧Sx.rightXs NM (if Sx.flat kd then d else d-1) (d-1) (x.parts.take m)=true)
       case atStart=>exact⟨0,rfl,rfl,Nat.zero_le _,Hn.o,by simp[Sx.rightXs]⟩
       case round=>
        obtain⟨m,hi,rfl,hmk,hheld,hall⟩:=hrel
        have HI:=zh hi
        have HW:=zh hheld
        have Hm:=zh hall
        have m0:(0:Int)≤(m:Int):=by omega
        clear hi hheld hall
        obtain⟨x0,x1,x2,x3,x4,x5,x6⟩:=zbZ HW.o.b1
        obtain⟨y0,y1,y2,y3,y4,y5⟩:=zsZ HW.o.b2
        obtain⟨hl1,H0⟩:=HW.o.lt
        by_cases hlt:m<k
        ·have Jx:(m:Int)<(k:Int):=by omega
         have Ho:m<x.parts.length:=by have:=HK.o;omega
         obtain⟨g,off,At1,ct1,An1,cn1,Aq,cq,rfl,hty,hc7⟩:=HP.o.spot m Ho
         rw[HL.o]at hc7
         obtain⟨hg,c0,c1,c2,c3,c4,c5,c6⟩:=hc7 wr HW.o.b
         have Hy:=List.take_succ_eq_append_getElem Ho
         obtain⟨p,hpe⟩:=zE (x.parts[m]'Ho)
         have Hj:p∈x.parts:=by rw[←hpe];exact List.getElem_mem Ho
         rw[hpe]at c0 c1 c2 c3 c4 c5 c6 Hy hty
         have J6:Sx.sizeX p≤1000000:=by have:=Sx.sizeX_mem Hj;have:=Jp.o;omega
         obtain⟨f,hf⟩:=zE (Sx.further kd m)
         have J2:=Ji.o m
         rw[hf]at J2
         have Hu:f≤1:=by rw[←hf];unfold Sx.further;split <;> omega
         have J8:(if(x.parts.take m).length=0 then(if Sx.flat kd then d else d-1)else d-1)=d-f:=by
          rw[List.length_take,Nat.min_eq_left (Nat.le_of_lt Ho),←hf]
          unfold Sx.further
          by_cases hz:m=0
          ·rw[if_pos hz]
           cases hfl:Sx.flat kd <;> simp[hz]
          ·rw[if_neg hz,if_neg (fun h=>hz h.2)]
         have Hd:=Sx.rightXs_snoc NM (x.parts.take m) (if Sx.flat kd then d else d-1) (d-1) p
         rw[Hm.o,J8,←Hy]at Hd
         have Hb:=Sx.rightXs_pre NM (x.parts.take (m+1)) (x.parts.drop (m+1)) (if Sx.flat kd then d else d-1) (d-1)
         rw[List.take_append_drop]at Hb
         obtain⟨q,hq⟩:∃q:Int,e-(f:Int)=q:=⟨_,rfl⟩
         have Ua:IntKind.i64.wrap (e-(f:Int))=q:=by rw[IntWalk.i64_in _ (by omega)];exact hq
         have Jc:q=((d-f:Nat):Int):=by have:=HE.o;omega
         have f0:(0:Int)≤(f:Int):=by omega
         have f1:(f:Int)≤1:=by omega
         obtain⟨L9,hL9⟩:=zE (wr.heap.size)
         obtain⟨w9,hw9⟩:=zE (wr.alloc (.cells #[.int .i64 p.pos,.int .i64 p.kind,.int .i64 p.n,.string ⟨p.s.toArray⟩,.slice At1 p.t.length ct1,.slice An1 p.names.length cn1,.slice Aq p.parts.length cq] 39))
         have Hc:w9.heap[L9]? =some (.cells #[.int .i64 p.pos,.int .i64 p.kind,.int .i64 p.n,.string ⟨p.s.toArray⟩,.slice At1 p.t.length ct1,.slice An1 p.names.length cn1,.slice Aq p.parts.length cq] 39 (0,0)):=by rw[←hw9,←hL9];exact heap_alloc_new wr _
         have H9:=zh (HW.o.go (by rw[←hw9];exact zeZ (World.grownBy_alloc wr _ none)):Held2 L W _ _ L5 _ _ w9)
         have J7:Calls Tryz.prog 63 #[.agg #[.int .i64 p.pos,.int .i64 p.kind,.int .i64 p.n,.string ⟨p.s.toArray⟩,.slice At1 p.t.length ct1,.slice An1 p.names.length cn1,.slice Aq p.parts.length cq],.int .i64 q] w9.drew fun e X'=>e=.returned (.bool (Sx.rightX NM (d-f) p))∧Below w9.drew.heap.size w9.drew X':=by
          rw[Jc]
          have hB:Below W.heap.size W w9.drew:=by rw[HL.o];exact H9.o.drew.b
          exact Jg.o p Hj (d-f) (by have:=U0.o;omega) _ w9.drew (HG.o.below hB) (Nat.le_trans HN.o hB.size) (hty.below hB) J6
         have Ht:=zh J7
         have H3:=zh Hd
         have Hl:=zh Hb
         have Hk:=zh J2
         clear x0 x1 x2 x3 x4 x5 x6 y0 y1 y2 y3 y4 y5 hl1 H0
         obtain⟨x0,x1,x2,x3,x4,x5,x6⟩:=zbZ H9.o.b1
         obtain⟨y0,y1,y2,y3,y4,y5⟩:=zsZ H9.o.b2
         obtain⟨hl1,H0⟩:=H9.o.lt
         obtain⟨z0,z1,z2,z3,z4,z5,z6⟩:=zbZ Hc
         have Uc:=zaZ Hc
         clear hq Jc J7 Hd Hb J2 J8 Hy hc7 hty hpe Hj J6 hf Hu Hc
         go_upto_region 12 with fail
         cases hr:Sx.rightX NM (d-f) p with
         | true=>
          rw[hr]at Ht H3
          clear hr
          go_region_with (first
           | (go_at_call 112;refine(Hk.o _).mono ?_;rintro e w' ⟨rfl,rfl⟩)
           | (go_at_call 63;refine Ht.o.mono ?_;rintro e w11 ⟨rfl,Ha⟩))
          all_goals
           have J5:=zh (H9.o.drew.go Ha)
           clear Ha
           go_wp2_with fail
           go_roundg (k-(m+1))
           case measure=>have:=HI.o;omega
           case rel=>exact⟨m+1,rfl,by simp,hlt,J5.o,H3.o⟩
         | false=>
          rw[hr]at Ht H3
          have HF:=zh (Hl.o H3.o)
          clear hr
          go_region_with (first
           | (go_at_call 112;refine(Hk.o _).mono ?_;rintro e w' ⟨rfl,rfl⟩)
           | (go_at_call 63;refine Ht.o.mono ?_;rintro e w11 ⟨rfl,Ha⟩))
          all_goals
           have J5:=zh (H9.o.drew.go Ha)
           clear Ha
           go_wp2_with fail
           go_ret
           rw[Je.o,HF.o,HL.o]
           exact⟨rfl,J5.o.b⟩
        ·have Jx:¬(m:Int)<(k:Int):=by omega
         have HF:=zh (show Sx.rightXs NM (if Sx.flat kd then d else d-1) (d-1) x.parts=true by
          have h:=Hm.o
          rwa [List.take_of_length_le (by have:=HK.o;omega)]at h)
         go_wp2_with fail
         go_ret
         rw[Je.o,HF.o,HL.o]
         exact⟨rfl,HW.o.b⟩
theorem zdqZ:∀(n:Nat) (x:Sx.Ex),Sx.sizeX x≤n→∀d,d≤64→RightXOk d x
 | 0,x,h=>by have:=Sx.sizeX_pos x;omega
 | n+1,x,h=>fun d hd=>zosZ d hd x (fun p hp=>zdqZ n p (by
   have:=Sx.sizeX_mem hp
   have:=Sx.sizeX_parts x
   omega))
end Go.Proofs.YtdncljdfmdgdaaaGreatDoor
namespace Go.Proofs.YtdncljdfmdgdaaaGreatDoor
open Go.RowKit Go.Shelf
mutual
def Sx.eqT:Sx.Ty→Sx.Ty→Bool
 | .mk k n ns es ps,.mk k' n' ns' es' ps'=>(k==k')&&((n==n')&&(decide (ns=ns')&&(decide (es=es')&&Sx.eqTs ps ps')))
def Sx.eqTs:List Sx.Ty→List Sx.Ty→Bool
 | [],[]=>true
 | t::l,u::m=>Sx.eqT t u&&Sx.eqTs l m
 | _,_=>false
end
mutual
theorem Sx.eqT_iff:∀(t u:Sx.Ty),Sx.eqT t u=true↔t=u
 | .mk k n ns es ps,.mk k' n' ns' es' ps'=>by
  rw[Sx.eqT]
  simp[Sx.eqTs_iff ps ps']
theorem Sx.eqTs_iff:∀(l m:List Sx.Ty),Sx.eqTs l m=true↔l=m
 | [],[]=>by simp[Sx.eqTs]
 | t::l,u::m=>by
  rw[Sx.eqTs,Bool.and_eq_true,Sx.eqT_iff t u,Sx.eqTs_iff l m]
  simp
 | [],u::m=>by simp[Sx.eqTs]
 | t::l,[]=>by simp[Sx.eqTs]
end
def KTyOk (t:Sx.Ty):Prop:=∀(u:Sx.Ty) (v x:Value) (W:World),Sx.size t≤1000000→Sx.size u≤1000000→IsTy W v t→IsTy W x u→
 Calls Tryz.prog 30 #[v,x] W fun e W'=>e=.returned (.bool (Sx.eqT t u))∧Below W.heap.size W W'
def KTysOk (l:List Sx.Ty):Prop:=∀(m:List Sx.Ty) (v x:Value) (W:World),Sx.sizeL l≤1000000→Sx.sizeL m≤1000000→TyRow W v l→TyRow W x m→
 Calls Tryz.prog 72 #[v,x] W fun e W'=>e=.returned (.bool (Sx.eqTs l m))∧Below W.heap.size W W'
theorem zinZ (l:List Sx.Ty) (ih:∀t∈l,KTyOk t):KTysOk l:=by
 intro m v x W Ha Hb hv hx
 have Hi:=Sx.length_size l
 have Hm:=Sx.length_size m
 obtain⟨A1,c1,rfl,hca,hra⟩:=hv
 obtain⟨A2,c2,rfl,hcb,hrb⟩:=hx
 have HV:=zh (show TyRow W (.slice A1 l.length c1) l from⟨A1,c1,rfl,hca,hra⟩)
 have HX:=zh (show TyRow W (.slice A2 m.length c2) m from⟨A2,c2,rfl,hcb,hrb⟩)
 clear hca hra hcb hrb
 obtain⟨k,hk⟩:=zE (l.length)
 obtain⟨j,hj⟩:=zE (m.length)
 rw[hk]at HV ⊢
 rw[hj]at HX ⊢
 have k0:(0:Int)≤(k:Int):=by omega
 have k1:(k:Int)≤1000000:=by omega
 have j0:(0:Int)≤(j:Int):=by omega
 have j1:(j:Int)≤1000000:=by omega
 have HK:=zh hk
 have HJ:=zh hj
 have Hk:=zh Ha
 have Hn:=zh Hb
 have Hj:=zh ih
 obtain⟨L,hL⟩:=zE (W.heap.size)
 have HL:=zh hL
 clear hk hj Hi Hm Ha Hb ih hL
 by_cases hkj:k=j
 ·subst hkj
  have Hc:=zh (show m.length=k from HJ.o)
  go_enter Tryz.func72, Tryz.ntmps72
  go_wp2_with fail
  go_loopg [5] k (fun i v wr=>∃(q:Nat),i=k-q∧v=.int .i64 (q:Int)∧q≤k∧l.take q=m.take q∧Below L W wr)
  case atStart=>exact⟨0,rfl,rfl,Nat.zero_le _,by simp,Below.refl _ _⟩
  case round=>
   obtain⟨q,hi,rfl,hq,he,hb⟩:=hrel
   have HI:=zh hi
   have HE:=zh he
   have HB:=zh hb
   have q0:(0:Int)≤(q:Int):=by omega
   have hLs:L≤wr.heap.size:=by have:=hb.size;have:=HL.o;omega
   clear hi he hb
   by_cases hlt:q<k
   ·have Hl:(q:Int)<(k:Int):=by omega
    have H0:q<l.length:=by have:=HK.o;omega
    have H2:q<m.length:=by have:=Hc.o;omega
    obtain⟨g,off,An,cn,Ae,ce,Aq,cq,rfl,hty,hc5⟩:=HV.o.spot q H0
    obtain⟨g2,off2,Bn,dn,Be,de,Bq,dq,rfl,hty2,hd5⟩:=HX.o.spot q H2
    rw[HL.o]at hc5 hd5
    obtain⟨hg,x0,x1,x2,x3,x4⟩:=hc5 wr HB.o
    obtain⟨hg2,y0,y1,y2,y3,y4⟩:=hd5 wr HB.o
    have H7:=fun h:l[q]'H0=m[q]'H2=>zduZ HE.o H0 H2 h
    have Hd:=Sx.size_mem (List.getElem_mem H0)
    have H3:=Sx.size_mem (List.getElem_mem H2)
    have H1:=List.getElem_mem H0
    have H9:l[q]'H0≠m[q]'H2→Sx.eqTs l m=false:=fun h=>by
     cases hh:Sx.eqTs l m with
     | false=>rfl
     | true=>have:=(Sx.eqTs_iff l m).1 hh;subst this;exact absurd rfl h
    obtain⟨p,hp⟩:=zE (l[q]'H0)
    obtain⟨p2,hp2⟩:=zE (m[q]'H2)
    rw[hp]at x0 x1 x2 x3 x4 hty Hd H1
    rw[hp2]at y0 y1 y2 y3 y4 hty2 H3
    rw[hp,hp2]at H7 H9
    have H6:Below W.heap.size W wr.drew:=by rw[HL.o];exact Below.drew HB.o
    have He:=Hj.o p H1 p2 _ _ wr.drew (by have:=Hk.o;omega) (by have:=Hn.o;omega) (IsTy.below H6 _ _ hty) (IsTy.below H6 _ _ hty2)
    have H5:=zh He
    have Hg:=zh H7
    have Hf:=zh H9
    clear hty hty2 hc5 hd5 Hd H3 H1 hp hp2 H6 He H7 H9
    go_upto_region 6 with fail
    cases hc:Sx.eqT p p2 with
    | true=>
     rw[hc]at H5
     have Hh:=zh (Hg.o ((Sx.eqT_iff p p2).1 hc))
     clear hc
     go_region_with (go_at_call 30;refine H5.o.mono ?_;rintro e w5 ⟨rfl,H4⟩)
     all_goals
      have H8:=zh ((Below.drew HB.o).trans (H4.mono hLs))
      clear H4
      go_wp2_with fail
      go_roundg (k-(q+1))
      case measure=>have:=HI.o;omega
      case rel=>exact⟨q+1,rfl,by simp,hlt,Hh.o,H8.o⟩
    | false=>
     rw[hc]at H5
     have HF:=zh (Hf.o (fun h=>by have:=(Sx.eqT_iff p p2).2 h;rw[hc]at this;cases this))
     clear hc
     go_region_with (go_at_call 30;refine H5.o.mono ?_;rintro e w5 ⟨rfl,H4⟩)
     all_goals
      have H8:=zh ((Below.drew HB.o).trans (H4.mono hLs))
      clear H4
      go_wp2_with fail
      go_ret
      rw[HF.o,HL.o]
      exact⟨rfl,H8.o⟩
   ·have Hl:¬(q:Int)<(k:Int):=by omega
    have HF:=zh (show Sx.eqTs l m=true by
     have h:=HE.o
     rw[List.take_of_length_le (by have:=HK.o;omega),List.take_of_length_le (by have:=Hc.o;omega)]at h
     exact(Sx.eqTs_iff l m).2 h)
    go_wp2_with fail
    go_ret
    rw[HF.o,HL.o]
    exact⟨rfl,HB.o⟩
 ·have hb:((k:Int) != (j:Int))=true:=by rw[bne_iff_ne];omega
  have HF:=zh (show Sx.eqTs l m=false by
   cases hh:Sx.eqTs l m with
   | false=>rfl
   | true=>have:=(Sx.eqTs_iff l m).1 hh;subst this;have:=HK.o;have:=HJ.o;omega)
  go_enter Tryz.func72, Tryz.ntmps72
  go_wp2_with fail
  go_ret
  rw[HF.o]
  exact⟨rfl,Below.refl _ _⟩
theorem Sx.eqT_parts (t u:Sx.Ty):Sx.eqT t u=((t.kind==u.kind)&&((t.name==u.name)&&(decide (t.names=u.names)&&(decide (t.embeds=u.embeds)&&Sx.eqTs t.parts u.parts)))):=by
 cases t;cases u;rw[Sx.eqT];rfl
theorem zotZ (t:Sx.Ty) (ih:KTysOk t.parts):KTyOk t:=by
 intro u v x W H8 Ha hv hx
 have Hc:=Sx.size_parts t
 have Hd:=Sx.size_parts u
 have H9:=Sx.length_size t.parts
 have Hb:=Sx.length_size u.parts
 have H7:=Sx.eqT_parts t u
 obtain⟨An,cn,Ae,ce,Ap,cp,rfl,h1,h2,h3⟩:=hv.agg
 obtain⟨Bn,dn,Be,de,Bp,dp,rfl,h4,h5,h6⟩:=hx.agg
 have hT:=fun X (hX:Below W.heap.size W X)=>zilZ t.names u.names _ _ X (h1.below hX) (h4.below hX) (by omega) (by omega)
 have hB:=fun X (hX:Below W.heap.size W X)=>zoiZ t.embeds u.embeds _ _ X (h2.below hX) (h5.below hX) (by omega) (by omega)
 have hP:=fun X (hX:Below W.heap.size W X)=>ih u.parts _ _ X (by omega) (by omega) (h3.below hX) (h6.below hX)
 obtain⟨b1,e1⟩:=zE ((t.kind==u.kind))
 obtain⟨b2,e2⟩:=zE ((t.name==u.name))
 obtain⟨b3,e3⟩:=zE (decide (t.names=u.names))
 obtain⟨b4,e4⟩:=zE (decide (t.embeds=u.embeds))
 obtain⟨b5,e5⟩:=zE (Sx.eqTs t.parts u.parts)
 rw[e1,e2,e3,e4,e5]at H7
 rw[e3]at hT
 rw[e4]at hB
 rw[e5]at hP
 rw[H7]
 obtain⟨kt,hkt⟩:=zE (t.kind)
 obtain⟨ku,hku⟩:=zE (u.kind)
 obtain⟨nt,hnt⟩:=zE (t.name)
 obtain⟨nu,hnu⟩:=zE (u.name)
 rw[hkt,hku]at e1
 rw[hnt,hnu]at e2
 rw[hkt,hku,hnt,hnu]
 obtain⟨L,hL⟩:=zE (W.heap.size)
 obtain⟨w2,hw2⟩:=zE (W.alloc (.cells #[.int .i64 kt,.string ⟨nt.toArray⟩,.slice An t.names.length cn,.slice Ae t.embeds.length ce,.slice Ap t.parts.length cp] 26))
 obtain⟨L5,hL5⟩:=zE (w2.heap.size)
 obtain⟨w3,hw3⟩:=zE (w2.alloc (.cells #[.int .i64 ku,.string ⟨nu.toArray⟩,.slice Bn u.names.length dn,.slice Be u.embeds.length de,.slice Bp u.parts.length dp] 26))
 have g2:=World.grownBy_alloc W (.cells #[.int .i64 kt,.string ⟨nt.toArray⟩,.slice An t.names.length cn,.slice Ae t.embeds.length ce,.slice Ap t.parts.length cp] 26) none
 have x2:=heap_alloc_new W (.cells #[.int .i64 kt,.string ⟨nt.toArray⟩,.slice An t.names.length cn,.slice Ae t.embeds.length ce,.slice Ap t.parts.length cp] 26)
 rw[hw2]at g2 x2
 have g3:=World.grownBy_alloc w2 (.cells #[.int .i64 ku,.string ⟨nu.toArray⟩,.slice Bn u.names.length dn,.slice Be u.embeds.length de,.slice Bp u.parts.length dp] 26) none
 have x3:=heap_alloc_new w2 (.cells #[.int .i64 ku,.string ⟨nu.toArray⟩,.slice Bn u.names.length dn,.slice Be u.embeds.length de,.slice Bp u.parts.length dp] 26)
 rw[hw3]at g3 x3
 rw[hL]at x2
 rw[hL5]at x3
 have H3:=zh (show Held2 L W #[.int .i64 kt,.string ⟨nt.toArray⟩,.slice An t.names.length cn,.slice Ae t.embeds.length ce,.slice Ap t.parts.length cp] 26 L5 #[.int .i64 ku,.string ⟨nu.toArray⟩,.slice Bn u.names.length dn,.slice Be u.embeds.length de,.slice Bp u.parts.length dp] 26 w3 from⟨by rw[←hL];exact(zeZ g2).trans ((zeZ g3).mono g2.size),(g3.block L (zaZ x2) (fun e=>nomatch e)).trans x2,x3⟩)
 have HT:=zh hT
 have HB:=zh hB
 have HP:=zh hP
 have HL:=zh hL
 clear hT hB hP g2 g3 x2 x3 H7 Hc Hd H9 Hb h1 h2 h3 h4 h5 h6 e3 e4 e5 hkt hku hnt hnu hv hx ih H8 Ha
 have h6:=HL.o
 obtain⟨x0,x1,x2,x3,x4⟩:=zcZ H3.o.b1
 obtain⟨y0,y1,y2,y3,y4⟩:=zcZ H3.o.b2
 obtain⟨l1,l2⟩:=H3.o.lt
 cases b1 with
 | false=>
  go_enter Tryz.func30, Tryz.ntmps30
  go_wp2_with fail
  go_ret
  refine⟨by first | rfl | simp,?_⟩
  first | exact H3.o.b | (rw[HL.o];exact H3.o.b)
 | true=>
  obtain rfl:kt=ku:=by simpa using e1
  clear e1
  cases b2 with
  | false=>
   go_enter Tryz.func30, Tryz.ntmps30
   go_wp2_with fail
   go_ret
   refine⟨by first | rfl | simp,?_⟩
   first | exact H3.o.b | (rw[HL.o];exact H3.o.b)
  | true=>
   obtain rfl:nt=nu:=by simpa using e2
   clear e2
   cases b3 with
   | false=>
    go_enter Tryz.func30, Tryz.ntmps30
    go_wp2_with (go_at_call 46;refine(HT.o _ (by first | exact H3.o.b | (rw[HL.o];exact H3.o.b))).mono ?_;rintro e w4 ⟨rfl,H0⟩;have H4:=zh (H3.o.go H0);clear H0;clear x0 x1 x2 x3 x4 y0 y1 y2 y3 y4 l1 l2;obtain⟨x0,x1,x2,x3,x4⟩:=zcZ H4.o.b1;obtain⟨y0,y1,y2,y3,y4⟩:=zcZ H4.o.b2;obtain⟨l1,l2⟩:=H4.o.lt)
    go_ret
    refine⟨by first | rfl | simp,?_⟩
    first | exact H4.o.b | (rw[HL.o];exact H4.o.b)
   | true=>
    cases b4 with
    | false=>
     go_enter Tryz.func30, Tryz.ntmps30
     go_wp2_with (first | (go_at_call 46;refine(HT.o _ (by first | exact H3.o.b | (rw[HL.o];exact H3.o.b))).mono ?_;rintro e w4 ⟨rfl,H0⟩;have H4:=zh (H3.o.go H0);clear H0;clear x0 x1 x2 x3 x4 y0 y1 y2 y3 y4 l1 l2;obtain⟨x0,x1,x2,x3,x4⟩:=zcZ H4.o.b1;obtain⟨y0,y1,y2,y3,y4⟩:=zcZ H4.o.b2;obtain⟨l1,l2⟩:=H4.o.lt) | (go_at_call 71;refine(HB.o _ (by first | exact H4.o.b | (rw[HL.o];exact H4.o.b))).mono ?_;rintro e w5 ⟨rfl,H1⟩;have H5:=zh (H4.o.go H1);clear H1;clear x0 x1 x2 x3 x4 y0 y1 y2 y3 y4 l1 l2;obtain⟨x0,x1,x2,x3,x4⟩:=zcZ H5.o.b1;obtain⟨y0,y1,y2,y3,y4⟩:=zcZ H5.o.b2;obtain⟨l1,l2⟩:=H5.o.lt))
     go_ret
     refine⟨by first | rfl | simp,?_⟩
     first | exact H5.o.b | (rw[HL.o];exact H5.o.b)
    | true=>
     cases b5 with
     | false=>
      go_enter Tryz.func30, Tryz.ntmps30
      go_wp2_with (first | (go_at_call 46;refine(HT.o _ (by first | exact H3.o.b | (rw[HL.o];exact H3.o.b))).mono ?_;rintro e w4 ⟨rfl,H0⟩;have H4:=zh (H3.o.go H0);clear H0;clear x0 x1 x2 x3 x4 y0 y1 y2 y3 y4 l1 l2;obtain⟨x0,x1,x2,x3,x4⟩:=zcZ H4.o.b1;obtain⟨y0,y1,y2,y3,y4⟩:=zcZ H4.o.b2;obtain⟨l1,l2⟩:=H4.o.lt) | (go_at_call 71;refine(HB.o _ (by first | exact H4.o.b | (rw[HL.o];exact H4.o.b))).mono ?_;rintro e w5 ⟨rfl,H1⟩;have H5:=zh (H4.o.go H1);clear H1;clear x0 x1 x2 x3 x4 y0 y1 y2 y3 y4 l1 l2;obtain⟨x0,x1,x2,x3,x4⟩:=zcZ H5.o.b1;obtain⟨y0,y1,y2,y3,y4⟩:=zcZ H5.o.b2;obtain⟨l1,l2⟩:=H5.o.lt) | (go_at_call 72;refine(HP.o _ (by first | exact H5.o.b | (rw[HL.o];exact H5.o.b))).mono ?_;rintro e w6 ⟨rfl,H2⟩;have H6:=zh (H5.o.go H2);clear H2;clear x0 x1 x2 x3 x4 y0 y1 y2 y3 y4 l1 l2;obtain⟨x0,x1,x2,x3,x4⟩:=zcZ H6.o.b1;obtain⟨y0,y1,y2,y3,y4⟩:=zcZ H6.o.b2;obtain⟨l1,l2⟩:=H6.o.lt))
      go_ret
      refine⟨by first | rfl | simp,?_⟩
      first | exact H6.o.b | (rw[HL.o];exact H6.o.b)
     | true=>
      go_enter Tryz.func30, Tryz.ntmps30
      go_wp2_with (first | (go_at_call 46;refine(HT.o _ (by first | exact H3.o.b | (rw[HL.o];exact H3.o.b))).mono ?_;rintro e w4 ⟨rfl,H0⟩;have H4:=zh (H3.o.go H0);clear H0;clear x0 x1 x2 x3 x4 y0 y1 y2 y3 y4 l1 l2;obtain⟨x0,x1,x2,x3,x4⟩:=zcZ H4.o.b1;obtain⟨y0,y1,y2,y3,y4⟩:=zcZ H4.o.b2;obtain⟨l1,l2⟩:=H4.o.lt) | (go_at_call 71;refine(HB.o _ (by first | exact H4.o.b | (rw[HL.o];exact H4.o.b))).mono ?_;rintro e w5 ⟨rfl,H1⟩;have H5:=zh (H4.o.go H1);clear H1;clear x0 x1 x2 x3 x4 y0 y1 y2 y3 y4 l1 l2;obtain⟨x0,x1,x2,x3,x4⟩:=zcZ H5.o.b1;obtain⟨y0,y1,y2,y3,y4⟩:=zcZ H5.o.b2;obtain⟨l1,l2⟩:=H5.o.lt) | (go_at_call 72;refine(HP.o _ (by first | exact H5.o.b | (rw[HL.o];exact H5.o.b))).mono ?_;rintro e w6 ⟨rfl,H2⟩;have H6:=zh (H5.o.go H2);clear H2;clear x0 x1 x2 x3 x4 y0 y1 y2 y3 y4 l1 l2;obtain⟨x0,x1,x2,x3,x4⟩:=zcZ H6.o.b1;obtain⟨y0,y1,y2,y3,y4⟩:=zcZ H6.o.b2;obtain⟨l1,l2⟩:=H6.o.lt))
      go_ret
      refine⟨by first | rfl | simp,?_⟩
      first | exact H6.o.b | (rw[HL.o];exact H6.o.b)
theorem zgfZ:∀(n:Nat) (t:Sx.Ty),Sx.size t≤n→KTyOk t
 | 0,t,h=>by have:=Sx.size_pos t;omega
 | n+1,t,h=>zotZ t (zinZ t.parts fun p hp=>zgfZ n p (by
   have:=Sx.size_mem hp
   have:=Sx.size_parts t
   omega))
end Go.Proofs.YtdncljdfmdgdaaaGreatDoor
