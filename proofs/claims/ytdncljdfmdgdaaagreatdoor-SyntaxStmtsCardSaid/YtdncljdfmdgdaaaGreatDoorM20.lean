/-
  The walk of syntax.Same.
-/
import Derived.Test.YtdncljdfmdgdaaaGreatDoorM19
set_option linter.unusedSimpArgs false
set_option linter.unusedVariables false
set_option maxRecDepth 100000
set_option maxHeartbeats 4000000
namespace Go.Proofs.YtdncljdfmdgdaaaGreatDoor
open Go.RowKit Go.Shelf
end Go.Proofs.YtdncljdfmdgdaaaGreatDoor
namespace Go.Proofs.YtdncljdfmdgdaaaGreatDoor
open Go.RowKit
theorem zhmZ:∀(n:Nat) (l:List Sx.Ty) (v:Value) (W:World),Sx.sizeL l<=n->n<=1000000->TyRow W v l->
  Calls Tryz.prog 15 #[v] W fun e W'=>e=.returned (.int .i64 (Sx.nodesL l:Nat))/\Below W.heap.size W W':=by
 intro n
 induction n using Nat.strongRecOn with
 | _ n ih=>
  intro l v W hn Hn hv;obtain⟨A,c,rfl,hcap,hl⟩:=hv;have Hg:=Sx.length_size l;have Ho:=Sx.nodesL_size l;have Hq:(l.length:Int)<=1000000:=(by omega);have HL:=zh hl;have Hk:=zh ih;clear ih hl;go_enter Tryz.func15, Tryz.ntmps15;go_wp2_with fail;go_loopg [3,8] (l.length) (fun i u v wr=>∃(m k:Nat),i=l.length-m/\v=.int .i64 (m:Int)/\u=.int .i64 (k:Int)/\k=Sx.nodesL (l.take m)/\m<=l.length/\Below W.heap.size W wr)
  case atStart=>exact⟨0,0,rfl,rfl,rfl,rfl,yxZ _,yqZ _ _⟩
  case round=>
   obtain⟨m,k,hi,rfl,rfl,hk,hm,hb⟩:=hrel;have HI:=zh hi;have HK:=zh hk;have HB:=zh hb;have m0:(0:Int)<=(m:Int):=(by omega);have k0:(0:Int)<=(k:Int):=(by omega);have Hp:k<=1000000:=(by have:=Sx.nodesL_take_le l m;omega);have Hl:(k:Int)<=1000000:=(by omega);clear hi hk hb;by_cases hlt:m<l.length
   ·have Hf:(m:Int)<(l.length:Int):=(by omega);obtain⟨g,off,v0,v1,v2,v3,v4,rfl,c0,c1,c2,c3,c4,ht⟩:=IsTys.at (IsTys.below HB.o l _ 0 HL.o) m hlt;obtain⟨t,hte⟩:=zE (l[m]'hlt);have H2:t∈l:=(by rw[<-hte];exact yfZ hlt);rw[hte]at ht;have H8:=zh (Sx.parts_mem H2);have HT:=zh (Sx.nodes_take hlt);have H9:=zh hte;obtain⟨vn,ve,vp,hagg,hsn,hse,hsp⟩:=ht.limbs;obtain⟨An,cn,hvn,-⟩:=id hsn;obtain⟨Ae,ce,hve,-⟩:=id hse;obtain⟨Ap,cp,hvp,-,-⟩:=id hsp;subst hvn hve hvp;injection hagg with hagg;simp only[ykbZ,ygbZ,ymbZ]at hagg;obtain⟨rfl,rfl,rfl,rfl,rfl⟩:=hagg;rw[yGZ]at c0 c1 c2 c3 c4;have Hj:=World.block_lt_of_cell? wr ⟨g,_,none⟩ c0;simp only at Hj;have HP:=zh hsp;have Hi:=Sx.nodesL_size t.parts;obtain⟨np,hnpe⟩:=zE (Sx.nodesL t.parts);have He:(np:Int)<=1000000:=(by have:=H8.o;omega);have Hh:(0:Int)<=(np:Int):=(by omega);have Ha:=Sx.nodes_parts t;have Hb:=zh Ha;have H5:=zh hnpe;have H1:∀X,Below wr.heap.size wr X->Calls Tryz.prog 15 #[.slice Ap t.parts.length cp] X fun e X'=>e=.returned (.int .i64 (np:Int))/\Below X.heap.size X X':=by intro X hX;have:=Hk.o (Sx.sizeL t.parts) (by have:=H8.o;omega) t.parts _ X (ybZ _) (by have:=H8.o;omega) (HP.o.below hX);rw[H5.o]at this;exact this
    have H6:=zh H1;obtain⟨kd,hkd⟩:=zE (t.kind);have Hc:=zh hkd;rw[hkd]at c0;clear hsn hse hsp ht Hi hnpe Ha H1 hkd hte;have H0:Below wr.heap.size wr (wr.alloc (.cells #[.int .i64 kd,.string ⟨t.name.toArray⟩,.slice An t.names.length cn,.slice Ae t.embeds.length ce,.slice Ap t.parts.length cp] 26)):=zeZ (yeZ _ _ _);have H3:=H6.o _ H0;by_cases h4:kd=4
    ·have Hd:(kd != 4)=false:=(by simp[h4]);have H4:=zh h4;clear h4;go_wp2_with (go_at_call 15;refine H3.mono ?_;clear H3;rintro e W5 ⟨rfl,H7⟩);go_roundg (l.length-(m+1))
     case measure=>have:=HI.o;omega
     case rel=>refine⟨m+1,k+np,rfl,by simp,by simp,?_,hlt,(HB.o.trans (H0.mono HB.o.size)).trans (H7.mono (ymZ HB.o.size H0.size))⟩;rw[HT.o,H9.o,Hb.o,Hc.o,H4.o,H5.o,<-HK.o];simp
    ·have Hd:(kd != 4)=true:=(by simp[h4]);have H4:=zh h4;clear h4;go_wp2_with (go_at_call 15;refine H3.mono ?_;clear H3;rintro e W5 ⟨rfl,H7⟩);go_roundg (l.length-(m+1))
     case measure=>have:=HI.o;omega
     case rel=>refine⟨m+1,k+1+np,rfl,by simp,by simp,?_,hlt,(HB.o.trans (H0.mono HB.o.size)).trans (H7.mono (ymZ HB.o.size H0.size))⟩;rw[HT.o,H9.o,Hb.o,Hc.o,if_neg H4.o,H5.o,<-HK.o];omega
   ·have Hf:¬(m:Int)<(l.length:Int):=(by omega);go_wp2_with fail;go_ret;refine⟨?_,HB.o⟩;rw[HK.o,yjZ (by omega)];rfl
theorem zloZ:∀(n:Nat) (l:List Sx.Ty) (v:Value) (W:World),Sx.sizeL l<=n->n<=1000000->TyRow W v l->
  Calls Tryz.prog 18 #[v] W fun e W'=>e=.returned (.int .i64 (Sx.depthL l:Nat))/\Below W.heap.size W W':=by
 intro n
 induction n using Nat.strongRecOn with
 | _ n ih=>
  intro l v W hn Hm hv;obtain⟨A,c,rfl,hcap,hl⟩:=hv;have Hd:=Sx.length_size l;have Ho:=Sx.depthL_size l;have Hq:(l.length:Int)<=1000000:=(by omega);have HL:=zh hl;have Hj:=zh ih;clear ih hl;go_enter Tryz.func18, Tryz.ntmps18;go_wp2_with fail;go_loopg [3,8] (l.length) (fun i u v wr=>∃(m k:Nat),i=l.length-m/\v=.int .i64 (m:Int)/\u=.int .i64 (k:Int)/\k=Sx.depthL (l.take m)/\m<=l.length/\Below W.heap.size W wr)
  case atStart=>exact⟨0,0,rfl,rfl,rfl,rfl,yxZ _,yqZ _ _⟩
  case round=>
   obtain⟨m,k,hi,rfl,rfl,hk,hm,hb⟩:=hrel;have HI:=zh hi;have HK:=zh hk;have HB:=zh hb;have m0:(0:Int)<=(m:Int):=(by omega);have k0:(0:Int)<=(k:Int):=(by omega);have Hp:k<=1000000:=(by have:=Sx.depthL_take_le l m;omega);have Hk:(k:Int)<=1000000:=(by omega);clear hi hk hb;by_cases hlt:m<l.length
   ·have Hc:(m:Int)<(l.length:Int):=(by omega);obtain⟨g,off,v0,v1,v2,v3,v4,rfl,c0,c1,c2,c3,c4,ht⟩:=IsTys.at (IsTys.below HB.o l _ 0 HL.o) m hlt;obtain⟨t,hte⟩:=zE (l[m]'hlt);have H1:t∈l:=(by rw[<-hte];exact yfZ hlt);rw[hte]at ht;have H4:=zh (Sx.parts_mem H1);have HT:=zh (Sx.depth_take hlt);have Hb:=zh hte;obtain⟨vn,ve,vp,hagg,hsn,hse,hsp⟩:=ht.limbs;obtain⟨An,cn,hvn,-⟩:=id hsn;obtain⟨Ae,ce,hve,-⟩:=id hse;obtain⟨Ap,cp,hvp,-,-⟩:=id hsp;subst hvn hve hvp;injection hagg with hagg;simp only[ykbZ,ygbZ,ymbZ]at hagg;obtain⟨rfl,rfl,rfl,rfl,rfl⟩:=hagg;rw[yGZ]at c0 c1 c2 c3 c4;have Hi:=World.block_lt_of_cell? wr ⟨g,_,none⟩ c0;simp only at Hi;have HP:=zh hsp;have Hh:=Sx.depthL_size t.parts;obtain⟨np,hnpe⟩:=zE (Sx.depthL t.parts);have Ha:(np:Int)<=1000000:=(by have:=H4.o;omega);have He:(0:Int)<=(np:Int):=(by omega);have H6:=Sx.depth_parts t;have Hg:=zh H6;have H5:=zh hnpe;have H0:∀X,Below wr.heap.size wr X->Calls Tryz.prog 18 #[.slice Ap t.parts.length cp] X fun e X'=>e=.returned (.int .i64 (np:Int))/\Below X.heap.size X X':=by intro X hX;have:=Hj.o (Sx.sizeL t.parts) (by have:=H4.o;omega) t.parts _ X (ybZ _) (by have:=H4.o;omega) (HP.o.below hX);rw[H5.o]at this;exact this
    have H3:=zh H0;obtain⟨kd,hkd⟩:=zE (t.kind);rw[hkd]at c0;clear hsn hse hsp ht Hh hnpe H6 H0 hkd hte;have H2:Below wr.heap.size wr (wr.alloc (.cells #[.int .i64 kd,.string ⟨t.name.toArray⟩,.slice An t.names.length cn,.slice Ae t.embeds.length ce,.slice Ap t.parts.length cp] 26)):=zeZ (yeZ _ _ _);have H8:=H3.o _ H2;have H7:max (k:Int) (1+(np:Int))=((max k (1+np):Nat):Int):=(by omega);have H9:=zh H7;clear H7;go_wp2_with (go_at_call 18;refine H8.mono ?_;clear H8;rintro e W5 ⟨rfl,Hf⟩);go_roundg (l.length-(m+1))
    case measure=>have:=HI.o;omega
    case rel=>
     refine⟨m+1,max k (1+np),rfl,by simp,?_,?_,hlt,(HB.o.trans (H2.mono HB.o.size)).trans (Hf.mono (ymZ HB.o.size H2.size))⟩
     ·rw[H9.o]
     ·rw[HT.o,Hb.o,Hg.o,H5.o,<-HK.o]
   ·have Hc:¬(m:Int)<(l.length:Int):=(by omega);go_wp2_with fail;go_ret;refine⟨?_,HB.o⟩;rw[HK.o,yjZ (by omega)];rfl
end Go.Proofs.YtdncljdfmdgdaaaGreatDoor
namespace Go.Proofs.YtdncljdfmdgdaaaGreatDoor.Lx
open Go
/-! ### quoted, case by case -/
theorem zbtZ (p:Nat) (c:UInt8) (t acc:Bytes) (k:Nat):quoted p (92::c::t) acc k=(if c.toNat==110 then quoted p t (acc++[10]) (k+2)else if c.toNat==34||c.toNat==92 then quoted p t (acc++[c]) (k+2)else .bad 12 (p+k+1)):=rfl
theorem zekZ (p:Nat) (c:UInt8) (t acc:Bytes) (k:Nat) (e34:c≠34) (e92:c≠92):quoted p (c::t) acc k=(if c.toNat<32||126<c.toNat then Res.bad 12 (p+k)else quoted p t (acc++[c]) (k+1)):=by
 rw[quoted.eq_def];split
 ·cases ‹_::_=[]›
 ·rename_i h1;injection h1 with h1 h2;exact absurd h1 e34
 ·rename_i h1;injection h1 with h1 h2;exact absurd h1 e92
 ·rename_i h1;injection h1 with h1 h2;exact absurd h1 e92
 ·rename_i h1;injection h1 with h1 h2;subst h1;subst h2;rfl
def saidB (c:UInt8):Bool:=c.toNat==10||(decide (32<=c.toNat)&&decide (c.toNat<=126))
theorem quoteIn_cons' (c:UInt8) (t:Bytes):quoteIn (c::t)=(if c.toNat==10 then [92,110]else if c.toNat==34||c.toNat==92 then [92,c]else [c])++quoteIn t:=rfl
theorem u8ne {c:UInt8} {d:UInt8} : (c.toNat==d.toNat)=(c==d):=by
 rw[yEZ];simp[ybbZ]
theorem zdaZ (p:Nat) (t:Tok) (n:Nat):∀(m:Nat) (l acc:Bytes) (k:Nat),l.length<=m->quoted p l acc k=.ok t n->
  ∃u x,l=quoteIn u++34::x/\(∀c∈u,saidB c=true)/\t=⟨p,5,acc++u,0⟩/\n=k+(quoteIn u).length+1
 | m,[],acc,k,hm,h=>by simp[quoted]at h
 | 0,c::t',acc,k,hm,h=>by simp at hm
 | m+1,c::t',acc,k,hm,h=>by
  have H3:t'.length<=m:=(by simpa using hm);by_cases e34:c=34
  ·subst e34;simp[quoted]at h;exact⟨[],t',by simp[quoteIn],by simp,by simp[h.1],by simp[quoteIn,h.2]⟩
  ·by_cases e92:c=92
   ·subst e92
    cases t' with
    | nil=>simp[quoted]at h
    | cons d t''=>
     have H1:t''.length<=m:=(by simp at H3;omega);rw[zbtZ]at h;split at h
     ·rename_i hd;obtain⟨u,x,e1,e2,e3,e4⟩:=zdaZ p t n m t'' _ _ H1 h;have H5:d=110:=ybbZ.1 (by simpa using hd);subst H5;refine⟨10::u,x,?_,?_,?_,?_⟩
      ·rw[quoteIn_cons',e1];simp
      ·intro c hc;rcases yTZ.1 hc with rfl | hc
       ·rfl
       ·exact e2 c hc
      ·rw[e3];simp
      ·rw[quoteIn_cons',e4];simp;omega
     ·split at h
      ·rename_i hn hd;obtain⟨u,x,e1,e2,e3,e4⟩:=zdaZ p t n m t'' _ _ H1 h;have H0:(d.toNat==10)=false:=(by simp only[yKZ,ytZ]at hd;simp;omega);refine⟨d::u,x,?_,?_,?_,?_⟩
       ·rw[quoteIn_cons',e1,H0,hd];simp
       ·intro c hc;rcases yTZ.1 hc with rfl | hc
        ·simp only[yKZ,ytZ]at hd;unfold saidB;rcases hd with hd | hd <;> rw[hd] <;> rfl
        ·exact e2 c hc
       ·rw[e3];simp
       ·rw[quoteIn_cons',e4,H0,hd];simp;omega
      ·cases h
   ·rw[zekZ p c t' acc k e34 e92]at h;split at h
    ·cases h
    ·rename_i hc0;obtain⟨u,x,e1,e2,e3,e4⟩:=zdaZ p t n m t' _ _ H3 h;have H4:(c.toNat==34)=false:=(by have:=@u8ne c 34;rw[show(34:UInt8).toNat=34 from rfl]at this;rw[this];simpa using e34);have H2:(c.toNat==92)=false:=(by have:=@u8ne c 92;rw[show(92:UInt8).toNat=92 from rfl]at this;rw[this];simpa using e92);have hr:32<=c.toNat/\c.toNat<=126:=(by simp only[yKZ,yCZ]at hc0;omega);have H0:(c.toNat==10)=false:=(by simp;omega);refine⟨c::u,x,?_,?_,?_,?_⟩
     ·rw[quoteIn_cons',e1,H0,H4,H2];simp
     ·intro d hd;rcases yTZ.1 hd with rfl | hd
      ·unfold saidB;simp[hr]
      ·exact e2 d hd
     ·rw[e3];simp
     ·rw[quoteIn_cons',e4,H0,H4,H2];simp;omega
theorem zdbZ (p:Nat) (x:Bytes):∀(u acc:Bytes) (k:Nat),(∀c∈u,saidB c=true)->quoted p (quoteIn u++34::x) acc k=.ok ⟨p,5,acc++u,0⟩ (k+(quoteIn u).length+1)
 | [],acc,k,_=>by simp[quoteIn,quoted]
 | c::u,acc,k,h=>by
  have hc:=h c (ysZ ..);have hu:∀c∈u,saidB c=true:=fun d hd=>h d (ywZ _ hd);rw[quoteIn_cons'];by_cases h10:(c.toNat==10)=true
  ·have H0:c=10:=ybbZ.1 (by simpa using h10);subst H0;show quoted p (92::110::(quoteIn u++34::x)) acc k=_;rw[zbtZ,if_pos (by rfl),zdbZ p x u _ _ hu]
   congr 1
   ·simp
   ·simp;omega
  ·rw[if_neg h10];by_cases hq:(c.toNat==34||c.toNat==92)=true
   ·rw[if_pos hq];show quoted p (92::c::(quoteIn u++34::x)) acc k=_;have hn:¬(c.toNat==110)=true:=(by simp only[yKZ,ytZ]at hq ⊢;omega);rw[zbtZ,if_neg hn,if_pos hq,zdbZ p x u _ _ hu]
    congr 1
    ·simp
    ·simp;omega
   ·rw[if_neg hq];have e34:c≠34:=(by rintro rfl;exact hq rfl);have e92:c≠92:=(by rintro rfl;exact hq rfl);show quoted p (c::(quoteIn u++34::x)) acc k=_;have hr:¬(decide (c.toNat<32)||decide (126<c.toNat))=true:=by
     unfold saidB at hc;simp only[yKZ,ygZ,yCZ]at hc ⊢;rcases hc with hc | hc
     ·exact absurd hc h10
     ·omega
    rw[zekZ p c _ acc k e34 e92,if_neg hr,zdbZ p x u _ _ hu]
    congr 1
    ·simp
    ·simp;omega
/-! ### a token's text -/
def Tok.bare (t:Tok):Tok:={ t with pos:=0 }
inductive Form:Bytes->Tok->Prop
 | name (c:UInt8) (s:Bytes) (hc:letter c=true) (hs:∀d∈c::s,within d=true) (hl:(c::s).length<=32):Form (c::s) ⟨0,nameKind (c::s),c::s,0⟩
 | number (c:UInt8) (s:Bytes) (hs:∀d∈c::s,digit d=true) (hv:value (c::s)<=9223372036854775807) (hz:c=48->s=[]):Form (c::s) ⟨0,4,[],value (c::s)⟩
 | text (u:Bytes) (hu:∀c∈u,saidB c=true):Form (quote u) ⟨0,5,u,0⟩
 | two:Form [61,61] ⟨0,6,[61,61],0⟩
 | sign (c:UInt8) (hc:signs.contains c=true):Form [c] ⟨0,6,[c],0⟩
def Sep (x:Bytes):Prop:=∀c,x.head? =some c->within c=false/\c≠61
def After (s x:Bytes) (t:Tok):Prop:=(t.kind≠5->t.kind≠6->∀c,x.head? =some c->within c=false)/\(s=[61]->x.head? ≠some 61)
theorem Sep.after {x:Bytes} (h:Sep x) (s:Bytes) (t:Tok):After s x t:=⟨fun _ _ c hc=>(h c hc).1,fun _ hc=>(h 61 hc).2 rfl⟩
theorem znkZ:Sep []:=fun c h=>by cases h
theorem zdkZ (f:UInt8->Bool):∀(s x:Bytes),(∀c∈s,f c=true)->(∀c,x.head? =some c->f c=false)->(s++x).takeWhile f=s
 | [],x,_,h=>by
  cases x with
  | nil=>rfl
  | cons c x=>simp[yFZ,h c rfl]
 | a::s,x,hs,h=>by simp[yFZ,hs a (ysZ ..),zdkZ f s x (fun c hc=>hs c (ywZ _ hc)) h]
theorem zcrZ (f:UInt8->Bool):∀(l:Bytes),∃x,l=l.takeWhile f++x/\(∀c∈l.takeWhile f,f c=true)/\(∀c,x.head? =some c->f c=false)
 | []=>⟨[],rfl,by simp,by simp⟩
 | a::l=>by
  by_cases ha:f a=true
  ·obtain⟨x,e1,e2,e3⟩:=zcrZ f l;refine⟨x,?_,?_,e3⟩
   ·rw[yFZ,if_pos ha,yHZ,<-e1]
   ·rw[yFZ,if_pos ha];intro c hc;rcases yTZ.1 hc with rfl | hc
    ·exact ha
    ·exact e2 c hc
  ·refine⟨a::l,by rw[yFZ,if_neg ha];rfl,by rw[yFZ,if_neg ha];simp,?_⟩;intro c hc;injection hc with hc;subst hc;simpa using ha
theorem zkiZ {c:UInt8} (h:letter c=true):within c=true:=by simp[within,h]
theorem zhnZ {c:UInt8} (h:letter c=true):digit c=false:=by
 simp only[letter,small,great,digit,yKZ,ygZ,yCZ]at *;simp;omega
theorem zhoZ {c:UInt8} (h:digit c=true):letter c=false:=by
 rw[<-Bool.not_eq_true];intro h';rw[zhnZ h']at h;cases h
theorem zfcZ {c:UInt8} (h:signs.contains c=true):letter c=false/\digit c=false/\(c.toNat==34)=false/\c≠47/\blank c=false:=by
 have:c=40\/c=41\/c=123\/c=125\/c=59\/c=58\/c=44\/c=46\/c=61\/c=60\/c=43\/c=45\/c=42:=by simpa[signs]using h
 rcases this with rfl | rfl | rfl | rfl | rfl | rfl | rfl | rfl | rfl | rfl | rfl | rfl | rfl <;> decide
theorem zlpZ {s x:Bytes} {t:Tok} (h:Form s t) (ha:After s x t) (p:Nat):cut p (s++x)=.ok { t with pos:=p } s.length:=by
 cases h with
 | name c s hc hs hl=>
  have hk:nameKind (c::s)≠5/\nameKind (c::s)≠6:=by
   unfold nameKind;split
   ·decide
   ·split <;> decide
  have ht:=zdkZ within (c::s) x hs (ha.1 (by have:=hk.1;show((nameKind (c::s):Nat):Int)≠5;omega) (by have:=hk.2;show((nameKind (c::s):Nat):Int)≠6;omega));show cut p (c::(s++x))=_;simp only[cut,hc,ycbZ,cutName];rw[show c::(s++x)=(c::s)++x from rfl,ht];rw[if_neg (by omega)]
 | number c s hs hv hz=>
  have hd:=hs c (ysZ ..);have hx:=ha.1 (by simp) (by simp)
  have ht:=zdkZ digit (c::s) x hs (fun d hd'=>by
   have:=hx d hd';simp only[within,Bool.or_eq_false_iff]at this
   exact this.1.2)
  show cut p (c::(s++x))=_;simp only[cut,zhoZ hd,hd,ycbZ,cutNumber,Bool.false_eq_true,yXZ];rw[show c::(s++x)=(c::s)++x from rfl,ht];rw[if_neg];simp only[List.drop_left,yKZ,not_or,ygZ,yCZ];refine⟨⟨by omega,?_⟩,?_⟩
  ·rintro⟨h1,h2⟩;have:c=48:=(by simpa using h1);rw[hz this]at h2;simp at h2
  ·cases hx':x.head? with
   | none=>simp
   | some d=>simp[hx d hx']
 | text u hu=>show cut p (34::(quoteIn u++[34]++x))=_;have:cut p (34::(quoteIn u++[34]++x))=quoted p (quoteIn u++[34]++x) [] 1:=rfl;rw[this,show quoteIn u++[34]++x=quoteIn u++34::x by simp,zdbZ p x u [] 1 hu];simp[quote];omega
 | two=>rfl
 | sign c hc=>
  obtain⟨h1,h2,h3,-⟩:=zfcZ hc;show cut p (c::x)=_;simp only[cut,h1,h2,h3,Bool.false_eq_true,yXZ];rw[if_neg]
  ·rfl
  ·simp only[ygZ,ytZ,not_and];intro H0;have:c=61:=ybbZ.1 H0;subst this;exact ha.2 rfl
theorem zlqZ {p:Nat} {l:Bytes} {t:Tok} {n:Nat} (hb:∀c,l.head? =some c->begins c=true) (h:cut p l=.ok t n) :
  ∃s x,l=s++x/\s.length=n/\Form s t.bare/\After s x t.bare/\t={ t.bare with pos:=p } :=by
 cases l with
 | nil=>simp[cut]at h
 | cons b l=>
  have H4:=hb b rfl;simp only[cut]at h;split at h
  ·rename_i hl;unfold cutName at h;simp only at h;obtain⟨x,e1,e2,e3⟩:=zcrZ within (b::l);have H0:(b::l).takeWhile within=b::l.takeWhile within:=(by rw[yFZ,if_pos (zkiZ hl)]);rw[H0]at e1 e2 h;split at h
   ·cases h
   ·rename_i hle;injection h with h1 h2;subst h1
    exact⟨_,x,e1,h2,.name b _ hl e2 (by omega),⟨fun _ _=>e3,fun h61 hx=>by
     injection h61 with h61 _;subst h61
     cases hl⟩,rfl⟩
  ·rename_i hl;split at h
   ·rename_i hd;unfold cutNumber at h;simp only at h;obtain⟨x,e1,e2,e3⟩:=zcrZ digit (b::l);have H0:(b::l).takeWhile digit=b::l.takeWhile digit:=(by rw[yFZ,if_pos hd]);rw[H0]at e1 e2 h;split at h
    ·cases h
    ·rename_i hno;injection h with h1 h2;subst h1;simp only[yKZ,not_or,ygZ,yCZ]at hno;obtain⟨⟨hv,hz⟩,hw⟩:=hno;have H1:(b::l).drop (b::l.takeWhile digit).length=x:=by
      conv=>lhs;rw[e1]
      rw[List.drop_left]
     rw[H1]at hw;refine⟨_,x,e1,h2,.number b _ e2 (by omega) ?_,⟨fun _ _ c hc=>?_,fun h61 hx=>?_⟩,rfl⟩
     ·intro H6;subst H6
      cases hts:l.takeWhile digit with
      | nil=>rfl
      | cons=>exact absurd ⟨rfl,by rw[hts];simp⟩ hz
     ·rw[hc]at hw;simpa using hw
     ·injection h61 with h61 _;subst h61;cases hd
   ·rename_i hd;split at h
    ·rename_i h34;have H2:b=34:=ybbZ.1 (by simpa using h34);subst H2;obtain⟨u,x,e1,e2,e3,e4⟩:=zdaZ p t n _ l [] 1 (ybZ _) h;refine⟨quote u,x,?_,?_,?_,?_,?_⟩
     ·rw[e1];simp[quote]
     ·rw[e4];simp[quote];omega
     ·rw[e3];exact .text u e2
     ·refine⟨fun h5=>absurd (by rw[e3];rfl) h5,fun h61=>?_⟩;injection h61 with h61 _;cases h61
     ·rw[e3];rfl
    ·rename_i h34;have H5:signs.contains b=true:=by
      unfold begins at H4;simp only[yKZ]at H4;rcases H4 with((h | h) | h) | h
      ·exact absurd h hl
      ·exact absurd h hd
      ·exact absurd h h34
      ·exact h
     split at h
     ·rename_i h61;injection h with h1 h2;subst h1;simp only[ygZ,ytZ]at h61;have H3:b=61:=ybbZ.1 h61.1;subst H3
      cases l with
      | nil=>cases h61.2
      | cons d l=>have:d=61:=(by simpa using h61.2);subst this;exact⟨[61,61],l,rfl,h2,.two,⟨fun _ h6=>absurd rfl h6,fun he=>by cases he⟩,rfl⟩
     ·rename_i h61;injection h with h1 h2;subst h1;refine⟨[b],l,rfl,h2,.sign b H5,⟨fun _ h6=>absurd rfl h6,fun he hx=>?_⟩,rfl⟩;injection he with he;subst he;exact h61 (by simp[hx])
/-! ### decimal digits -/
theorem decDigits_step (u:Nat) (h:10<=u):Lib.decDigits u=Lib.decDigits (u / 10)++[UInt8.ofNat (48+u % 10)]:=by
 conv=>lhs;rw[Lib.decDigits,dif_neg (by omega)]
theorem zikZ {c:UInt8} (h:digit c=true):UInt8.ofNat (48+(c.toNat-48))=c:=by
 simp only[digit,ygZ,yCZ]at h;rw[show 48+(c.toNat-48)=c.toNat by omega];exact UInt8.ofNat_toNat
theorem zepZ:∀(l:Bytes) (v:Nat),1<=v->(∀c∈l,digit c=true)->Lib.decDigits (l.foldl (fun v c=>v * 10+(c.toNat-48)) v)=Lib.decDigits v++l
 | [],v,_,_=>by simp
 | c::l,v,hv,hl=>by have hc:=hl c (ysZ ..);have H0:=hc;simp only[digit,ygZ,yCZ]at H0;rw[List.foldl_cons,zepZ l _ (by omega) (fun d hd=>hl d (ywZ _ hd)),decDigits_step _ (by omega)];rw[show(v * 10+(c.toNat-48)) / 10=v by omega,show(v * 10+(c.toNat-48)) % 10=c.toNat-48 by omega,zikZ hc];simp
theorem zefZ {c:UInt8} {s:Bytes} (hs:∀d∈c::s,digit d=true) (hz:c=48->s=[]):Lib.decDigits (value (c::s))=c::s:=by
 have hc:=hs c (ysZ ..);have H0:=hc;simp only[digit,ygZ,yCZ]at H0;have h1:Lib.decDigits (c.toNat-48)=[c]:=by rw[Lib.decDigits_one (by omega),zikZ hc]
 unfold value;rw[List.foldl_cons,show 0 * 10+(c.toNat-48)=c.toNat-48 by omega];by_cases h48:c=48
 ·rw[hz h48];exact h1
 ·have:c.toNat≠48:=fun e=>h48 (ybbZ.1 e);rw[zepZ s _ (by omega) (fun d hd=>hs d (ywZ _ hd)),h1];rfl
theorem zeqZ (u:Nat):∃c s,Lib.decDigits u=c::s/\(∀d∈c::s,digit d=true)/\value (c::s)=u/\(c=48->s=[]/\u=0):=by
 induction u using Nat.strongRecOn with
 | _ u ih=>
  have hd:∀m,m<10->digit (UInt8.ofNat (48+m))=true/\(UInt8.ofNat (48+m)).toNat=48+m:=(by intro m hm;have:(UInt8.ofNat (48+m)).toNat=48+m:=(by rw[UInt8.toNat_ofNat',Nat.mod_eq_of_lt (by omega)]);refine⟨?_,this⟩;simp only[digit,this,ygZ,yCZ];omega);by_cases h:u<10
  ·refine⟨UInt8.ofNat (48+u),[],Lib.decDigits_one h,?_,?_,?_⟩
   ·intro d hd';rw[yWZ]at hd';subst hd';exact(hd u h).1
   ·unfold value;rw[List.foldl_cons,List.foldl_nil,(hd u h).2];omega
   ·intro e;refine⟨rfl,?_⟩;have:=(hd u h).2;rw[e]at this;have H0:(48:UInt8).toNat=48:=rfl;omega
  ·obtain⟨c,s,e1,e2,e3,e4⟩:=ih (u / 10) (by omega);refine⟨c,s++[UInt8.ofNat (48+u % 10)],?_,?_,?_,?_⟩
   ·rw[decDigits_step u (by omega),e1];simp
   ·intro d hd';rw[<-yHZ,yfbZ]at hd';rcases hd' with hd' | hd'
    ·exact e2 d hd'
    ·rw[yWZ]at hd';subst hd';exact(hd _ (by omega)).1
   ·rw[<-yHZ];unfold value at e3 ⊢;rw[List.foldl_append,e3];rw[List.foldl_cons,List.foldl_nil,(hd (u % 10) (by omega)).2];omega
   ·intro e;have:=(e4 e).2;omega
/-! ### written -/
theorem form_begins {s:Bytes} {t:Tok} (h:Form s t):∃c l,s=c::l/\begins c=true:=by
 cases h with
 | name c s hc _ _=>exact⟨c,s,rfl,by simp[begins,hc]⟩
 | number c s hs _ _=>exact⟨c,s,rfl,by simp[begins,hs c (ysZ ..)]⟩
 | text u _=>exact⟨34,_,rfl,rfl⟩
 | two=>exact⟨61,_,rfl,rfl⟩
 | sign c hc=>exact⟨c,[],rfl,by simp only[begins,hc,Bool.or_true]⟩
theorem form_raw {s:Bytes} {t:Tok} (h:Form s t):raw t=some s:=by
 cases h with
 | name c s hc hs hl=>
  unfold raw;rw[if_pos];unfold nameKind;split
  ·simp
  ·split <;> simp
 | number c s hs hv hz=>unfold raw;rw[if_neg (by simp),if_pos rfl,if_neg (by simp)];show some (Lib.decDigits (value (c::s)))=_;rw[zefZ hs hz]
 | text u hu=>rfl
 | two=>rfl
 | sign c hc=>rfl
theorem raw_bare (t:Tok):raw t.bare=raw t:=rfl
theorem zlrZ {s:Bytes} {t:Tok} (h:Form s t):t.pos=0:=by cases h <;> rfl
theorem written_of_form {s:Bytes} {t:Tok} (h:Form s t.bare):written t=(s,true):=by
 have hr:=form_raw h;obtain⟨c,l,rfl,hb⟩:=form_begins h;rw[raw_bare]at hr;have hc:=zlpZ h (znkZ.after _ _) 0;rw[List.append_nil]at hc;unfold written;rw[hr];simp only[hb,ycbZ,held,hc];simp[Tok.bare]
theorem form_of_written {t:Tok} (h:(written t).2=true):Form (written t).1 t.bare:=by
 unfold written at h ⊢
 cases hr:raw t with
 | none=>rw[hr]at h;cases h
 | some s=>
  rw[hr]at h
  cases s with
  | nil=>cases h
  | cons c l=>
   simp only at h ⊢;by_cases hb:begins c=true
   ·rw[if_pos hb]at h ⊢;unfold held at h
    cases hcut:cut 0 (c::l)with
    | bad y x=>simp[hcut]at h
    | ok x n=>simp only[hcut,ygZ,ytZ]at h;obtain⟨s,x',e1,e2,e3,e4,e5⟩:=zlqZ (fun d hd=>by injection hd with hd;subst hd;exact hb) hcut;have hx:x'=[]:=(by have:=congrArg List.length e1;rw[ycZ]at this;exact yabZ.1 (by omega));rw[hx,List.append_nil]at e1;rw[e1];have:x.bare=t.bare:=(by rw[h.2];rfl);rw[<-this];exact e3
   ·rw[if_neg hb]at h;cases h
/-! ### blanks -/
theorem zilZ {c:UInt8} (h:begins c=true):blank c=false/\c≠47:=by
 unfold begins at h;simp only[yKZ]at h;have H0:∀n:Nat,c.toNat=n->(n≠9/\n≠10/\n≠13/\n≠32/\n≠47)->blank c=false/\c≠47:=by
  rintro n hn ⟨h1,h2,h3,h4,h5⟩;refine⟨?_,?_⟩
  ·unfold blank;simp only[hn,Bool.or_eq_false_iff,yaZ];exact⟨⟨⟨h1,h2⟩,h3⟩,h4⟩
  ·rintro rfl;exact h5 hn.symm
 rcases h with((h | h) | h) | h
 ·simp only[letter,small,great,yKZ,ygZ,yCZ]at h;exact H0 _ rfl (by omega)
 ·simp only[digit,ygZ,yCZ]at h;exact H0 _ rfl (by omega)
 ·simp only[ytZ]at h;exact H0 _ rfl (by omega)
 ·exact⟨(zfcZ h).2.2.2.2,(zfcZ h).2.2.2.1⟩
theorem zmrZ {c:UInt8} {l:Bytes} (h:begins c=true):skip false (c::l)=c::l:=skip_stays (zilZ h).1 (fun e=>(zilZ h).2 (ybbZ.1 e.1))
/-! ### one round -/
theorem zwrZ {f p i:Nat} {l:Bytes} (h:skip false l=[]):go (f+1) p i l=([],none):=by
 simp[go,h]
theorem zwsZ {f p i:Nat} {l s x:Bytes} {t:Tok} (hs:skip false l=s++x) (hf:Form s t) (ha:After s x t) (hi:i≠4096) :
  go (f+1) p i l=({ t with pos:=((p+(l.length-(s++x).length):Nat):Int) } ::(go f (p+(l.length-(s++x).length)+s.length) (i+1) x).1,(go f (p+(l.length-(s++x).length)+s.length) (i+1) x).2):=by
 obtain⟨c,r,e,hb⟩:=form_begins hf;have hcut:=zlpZ hf ha (p+(l.length-(s++x).length));rw[go];simp only[hs];rw[e,yHZ]at *;simp only[hb,Bool.not_true,Bool.false_eq_true,yXZ,hi,ytZ];rw[hcut];simp only;rw[show(c::(r++x)).drop (c::r).length=x from List.drop_left (l₁:=c::r)]
theorem zwtZ {f p i:Nat} {l:Bytes} {ts:List Tok} (h:go (f+1) p i l=(ts,none)):(skip false l=[]/\ts=[])\/
  ∃s x t ts',skip false l=s++x/\Form s t/\After s x t/\i≠4096/\ts={ t with pos:=((p+(l.length-(s++x).length):Nat):Int) } ::ts'/\go f (p+(l.length-(s++x).length)+s.length) (i+1) x=(ts',none):=by
 rw[go]at h;simp only at h;split at h
 ·rename_i hr;injection h with h1 h2;exact .inl ⟨hr,h1.symm⟩
 ·rename_i b r hr;right;by_cases hb:begins b=true
  ·rw[hb]at h;simp only[Bool.not_true,Bool.false_eq_true,yXZ]at h;by_cases hi:i=4096
   ·simp[hi]at h
   ·simp only[ytZ,hi,yXZ]at h;split at h
    ·injection h with h1 h2;cases h2
    ·rename_i t n hcut;rw[hr]at hcut;obtain⟨s,x,e1,e2,e3,e4,e5⟩:=zlqZ (fun d hd=>by injection hd with hd;subst hd;exact hb) hcut;subst e2;rw[hr,e1]at h;rw[List.drop_left]at h;injection h with h1 h2;refine⟨s,x,t.bare,_,by rw[hr,e1],e3,e4,hi,?_,Prod.ext rfl h2⟩;rw[<-h1]
     congr 1
     rw[e5];rw[e1];rfl
  ·simp[hb]at h
theorem zsrZ {s:Bytes} {t:Tok} (h:Form s t):0<s.length:=by
 obtain⟨c,r,e,-⟩:=form_begins h;rw[e];simp
/-! ### a rest behind a line's end -/
/-! ### what every cut token is -/
theorem zlsZ:∀(f p i:Nat) (l:Bytes) (ts:List Tok),go f p i l=(ts,none)->i<=4096->i+ts.length<=4096/\∀t∈ts,Form (written t).1 t.bare/\(written t).2=true/\(written t).1.length<=l.length/\(p:Int)<=t.pos/\t.pos<p+l.length
 | 0,p,i,l,ts,h,hi=>by rw[go]at h;injection h with h1 h2;subst h1;exact⟨by simpa using hi,by simp⟩
 | f+1,p,i,l,ts,h,hi=>by
  rcases zwtZ h with⟨hs,rfl⟩ | ⟨s,x,t,ts',hs,hf,ha,hi',rfl,hg⟩
  ·exact⟨by simpa using hi,by simp⟩
  ·obtain⟨h1,h2⟩:=zlsZ f _ _ x ts' hg (by omega);have H0:=zemZ false l;have H1:=zsrZ hf;rw[hs,ycZ]at H0;refine⟨by rw[yhZ];omega,?_⟩;intro u hu;rcases yTZ.1 hu with rfl | hu
   ·have hb:Tok.bare { t with pos:=((p+(l.length-(s++x).length):Nat):Int) } =t:=(by have:=zlrZ hf;cases t;simp only[Tok.bare]at *;subst this;rfl);have hw:=written_of_form (t:={ t with pos:=((p+(l.length-(s++x).length):Nat):Int) }) (s:=s) (by rw[hb];exact hf);rw[hw,hb];refine⟨hf,rfl,by simp only;omega,by simp only;omega,?_⟩;simp only[ycZ];omega
   ·obtain⟨a1,a2,a3,a4,a5⟩:=h2 u hu;rw[ycZ]at a4 a5;exact⟨a1,a2,by omega,by omega,by omega⟩
/-! ### join -/
theorem join_one_bad {t:Tok} (h:(written t).2=false):join [t]=([],1):=by
 have hj:joinFrom 0 [] [t]=none:=by unfold joinFrom;rw[if_neg (by simp[h])]
 unfold join;rw[hj]
theorem zssZ {s:Bytes} {t:Tok} (h:Form s t) (hl:s.length<=65536):toks s=([t],none):=by
 obtain⟨c,r,e,hb⟩:=form_begins h;have hs:skip false s=s++[]:=by rw[e,zmrZ hb,List.append_nil]
 unfold toks;rw[if_neg (by omega),zwsZ hs h (znkZ.after _ _) (by decide)];have hp:=zlrZ h;obtain⟨f,hf⟩:∃f,s.length=f+1:=⟨s.length-1,by rw[e];simp⟩;rw[List.append_nil,Nat.sub_self,hf,zwrZ (skip_end _)];cases t;simp only at hp;subst hp;rfl
/-! ### texts -/
theorem zmsZ (s:Bytes):1<=nameKind s/\nameKind s<=3:=by
 unfold nameKind;split
 ·decide
 ·split <;> decide
theorem zqaZ {q:Bytes} {t:Tok} (h:Form q t) (hk:t.kind=5):∀c∈t.s,saidB c=true:=by
 cases h with
 | name c s _ _ _=>have:=zmsZ (c::s);simp only at hk;omega
 | number=>cases hk
 | text u hu=>exact hu
 | two=>cases hk
 | sign=>cases hk
theorem text_written (s:Bytes):(written ⟨0,5,s,0⟩).2=s.all saidB:=by
 rw[yEZ];constructor
 ·intro h;have hf:=form_of_written h;have hb:(Tok.bare ⟨0,5,s,0⟩)=⟨0,5,s,0⟩:=rfl;rw[hb]at hf;generalize (written ⟨0,5,s,0⟩).1=q at hf;rw[yZZ];exact zqaZ hf rfl
 ·intro h;have hf:Form (quote s) (Tok.bare ⟨0,5,s,0⟩):=.text s (yZZ.1 h);rw[written_of_form hf]
theorem quote_len (s:Bytes):(quote s).length<=2 * s.length+2:=by
 have:=quoteIn_len s;simp[quote];omega
/-! ### numbers -/
theorem number_form (n:Nat) (hn:n<=9223372036854775807):Form (Lib.decDigits n) ⟨0,4,[],n⟩:=by
 obtain⟨c,s,e1,e2,e3,e4⟩:=zeqZ n;have:=Form.number c s e2 (by omega) (fun h=>(e4 h).1);rw[e3,<-e1]at this;exact this
end Go.Proofs.YtdncljdfmdgdaaaGreatDoor.Lx
