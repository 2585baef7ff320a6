/-
  The walk of coilref2.RightStmts.
-/
import Derived.Test.YtdncljdfmdgdaaaGreatDoorM41
set_option linter.unusedSimpArgs false
set_option linter.unusedVariables false
set_option maxRecDepth 100000
set_option maxHeartbeats 16000000
namespace Go.Proofs.YtdncljdfmdgdaaaGreatDoor
open Go.RowKit Go.Shelf
attribute [local go_sem] opWp zoZ zvZ zpZ
theorem refS5 {e kd:Int} {x:List Sx.Ex} {rx:Bool} (he:(e==0)=false) (h:∀h:x.length=1,rx=Sx.rightX NM 64 (x[0]'(by omega))) {xi:Int} (hx:((x.length:Nat):Int)=xi) :
  (decide (1<=kd/\kd<=7)&&(x.length==1&&Sx.rightXs NM 64 64 x))=!(((((e==0)||(decide (kd<1)))||(decide (7<kd)))||(xi != 1))||(!rx)):=by
 subst hx;rw[he,yEZ];rcases x with _ | ⟨x0,_ | ⟨x1,xs⟩⟩
 ·simp
 ·have h1:=h rfl;simp at h1;subst h1;simp[Sx.rightXs]
  all_goals omega
 ·simp
  all_goals omega
theorem refS8 {kd:Int} {nm:Lx.Bytes} {t:List Sx.Ty} {nb ne sm rt:Bool} (hnb:nb=(kd==1||kd==2)) (hne:ne=!nm.isEmpty) (hsm:sm=NM.small nm) (h:∀h:t.length=1,rt=Sx.rightT NM 64 (t[0]'(by omega))) {ti:Int} (ht:((t.length:Nat):Int)=ti) :
  ((if kd=1\/kd=2 then NM.small nm else nm.isEmpty)&&(t.isEmpty||(decide (kd=1)&&(t.length==1&&Sx.rightTs NM 64 t))))=!((((nb != ne)||(nb&&(!sm)))||(decide (1<ti)))||((ti==1)&&((kd != 1)||(!rt)))):=by
 subst ht;have h0:sm=true->nm.isEmpty=false:=fun h=>by
  have:=NM.ok.small nm (by rw[<-hsm];exact h)
  cases nm with
  | nil=>exact absurd rfl this
  | cons a l=>rfl
 rw[<-hsm];subst hnb hne;generalize nm.isEmpty=em at *;by_cases hk:kd=1\/kd=2
 ·rw[if_pos hk];have H0:(kd==1||kd==2)=true:=(by simpa using hk);rw[H0];rcases t with _ | ⟨t0,_ | ⟨t1,ts⟩⟩
  ·cases em <;> cases sm <;> simp at h0 ⊢
  ·have h1:=h rfl;simp at h1;subst h1;rw[yEZ];cases em <;> cases sm <;> simp[Sx.rightTs]at h0 ⊢
  ·rw[yEZ];cases em <;> cases sm <;> simp at h0 ⊢ <;> omega
 ·rw[if_neg hk];have H0:(kd==1||kd==2)=false:=(by simpa using hk);rw[H0];rcases t with _ | ⟨t0,_ | ⟨t1,ts⟩⟩
  ·cases em <;> simp
  ·rw[yEZ];cases em <;> simp <;> omega
  ·rw[yEZ];cases em <;> simp <;> omega
theorem zydZ {kd:Int} {b e:List Sx.St} {rb re:Bool} {bi ei:Int} (hb:((b.length:Nat):Int)=bi) (he:((e.length:Nat):Int)=ei) :
  (((decide (kd=4\/kd=5)||b.isEmpty)&&(decide (kd=4)||e.isEmpty))&&(rb&&re))=!((((((decide (0<bi))&&(kd != 4))&&(kd != 5))||((decide (0<ei))&&(kd != 4)))||(!rb))||(!re)):=by
 subst hb he;rw[yEZ];cases b <;> cases e <;> cases rb <;> cases re <;> simp <;> omega
theorem Sx.rightS_ref (d:Nat) (s:Sx.St):Sx.rightS NM (d+1) s=((decide (1<=s.kind/\s.kind<=7)&&(s.x.length==1&&Sx.rightXs NM 64 64 s.x))&&(((if s.kind=1\/s.kind=2 then NM.small s.name else s.name.isEmpty)&&(s.t.isEmpty||(decide (s.kind=1)&&(s.t.length==1&&Sx.rightTs NM 64 s.t))))&&
  (((decide (s.kind=4\/s.kind=5)||s.body.isEmpty)&&(decide (s.kind=4)||s.els.isEmpty))&&(Sx.rightSs NM d s.body&&Sx.rightSs NM d s.els)))):=by
 cases s with
 | mk pos k nm t x b e=>rw[Sx.rightS];unfold Sx.shapeS;simp only[Bool.and_assoc];rfl
theorem Sx.rightSs_iff {N:Sx.Names} {d:Nat} : ∀(l:List Sx.St),Sx.rightSs N d l=true↔∀(i:Nat) (h:i<l.length),Sx.rightS N d (l[i]'h)=true
 | []=>by simp[Sx.rightSs]
 | x::l=>by
  rw[Sx.rightSs,ygZ,Sx.rightSs_iff l];constructor
  ·rintro⟨h1,h2⟩ i h
   cases i with
   | zero=>exact h1
   | succ i=>exact h2 i (by simpa using h)
  ·intro h;exact⟨h 0 (yVZ _),fun i hi=>h (i+1) (by simpa using hi)⟩
def RefSsOk (l:List Sx.St):Prop:=∀(d:Nat) (v:Value) (w0 W:World),d<=64->LW w0 W->StRow W v l->Sx.sizeSs l<=1000000->
 Calls Tryz.prog 38 #[v,.int .i64 (d:Nat)] W fun e W'=>e=.returned (.bool (Sx.rightSs NM d l))/\LW W W'
theorem znaZ (l:List Sx.St) (ih:∀s∈l,RefSsOk s.body/\RefSsOk s.els):RefSsOk l:=by
 intro d v w0 W hd h0 hv Hq;have hG:=h0.self;have J9:=Sx.length_sizeSs l;obtain⟨A1,c1,rfl,hca,hra⟩:=hv;have HV:=zh (show StRow W (.slice A1 l.length c1) l from⟨A1,c1,rfl,hca,hra⟩);obtain⟨k,hk⟩:=zE (l.length);rw[hk]at HV ⊢;have k0:(0:Int)<=(k:Int):=by omega
 have k1:(k:Int)<=1000000:=by omega
 obtain⟨e,he⟩:∃e:Int,((d:Nat):Int)=e:=⟨_,rfl⟩;rw[he];have Jd:IntKind.i64.wrap (e-1)=e-1:=by rw[yQZ];omega
 have H7:=zh (And.intro he hd);have HK:=zh hk;have J3:=zh Hq;have J7:=zh ih;have HG:=zh hG;clear hca hra J9 he hd hk Hq ih hG h0;go_enter Tryz.func38, Tryz.ntmps38;go_wp2_with fail;go_loopg [5,7] k (fun i v5 v7 wr=>∃m:Nat,i=k-m/\v5=.int .i64 (m:Int)/\m<=k/\(∀(j:Nat) (h:j<l.length),j<m->Sx.rightS NM d (l[j]'h)=true)/\LW W wr)
 case atStart=>exact⟨0,rfl,rfl,yxZ _,fun j h hj=>by omega,HG.o⟩
 case round=>
  obtain⟨m,hi,rfl,hm,hr,hb⟩:=hrel;have HI:=zh hi;have HR:=zh hr;have HB:=zh hb;have m0:(0:Int)<=(m:Int):=(by omega);clear hi hr hb;by_cases hlt:m<k
  ·have Hv:(m:Int)<(k:Int):=(by omega);have H4:m<l.length:=(by have:=HK.o;omega);obtain⟨g,off,At,ct,Ax,cx,Ab,cb,Ae,ce,rfl,hty,hc5⟩:=HV.o.spot m H4;have Hl:=Sx.sizeS_mem (yfZ H4);have H5:=yfZ H4
   have Hk:=zh (fun(hh:Sx.rightS NM d (l[m]'H4)=true) j (h:j<l.length) (hj:j<m+1)=>(show Sx.rightS NM d (l[j]'h)=true by
    by_cases hji:j<m
    ·exact HR.o j h hji
    ·obtain rfl:j=m:=by omega
     exact hh))
   have Hb:=zh (fun(hh:Sx.rightS NM d (l[m]'H4)=false)=>(show Sx.rightSs NM d l=false by
    cases hq:Sx.rightSs NM d l with
    | false=>rfl
    | true=>have:=(Sx.rightSs_iff l).1 hq m H4;rw[hh]at this;cases this))
   obtain⟨s,hse⟩:=zE (l[m]'H4);rw[hse]at hc5 hty Hl H5 Hk Hb;have Hw:=Sx.sizeS_parts s;have Hc:=J3.o;have Hd:=J7.o s H5;have Hz:=Sx.length_sizeXs s.x;have Hf:=Sx.length_size s.t;have J1:=Sx.length_sizeSs s.body;have J8:=Sx.length_sizeSs s.els;obtain⟨At',ct',Ax',cx',Ab',cb',Ae',ce',hagg,h1,h2,h3,h4⟩:=hty.agg;injection hagg with hagg;simp only[ykbZ,ygbZ,Value.slice.injEq,ymbZ,true_and]at hagg;obtain⟨⟨rfl,rfl⟩,⟨rfl,rfl⟩,⟨rfl,rfl⟩,⟨rfl,rfl⟩⟩:=hagg;obtain⟨rx,hrx⟩:∃r,∀h:s.x.length=1,r=Sx.rightX NM 64 (s.x[0]'(by omega)):=by
    by_cases h:s.x.length=1
    ·exact⟨Sx.rightX NM 64 (s.x[0]'(by omega)),fun _=>rfl⟩
    ·exact⟨false,fun h'=>absurd h' h⟩
   obtain⟨rt,hrt⟩:∃r,∀h:s.t.length=1,r=Sx.rightT NM 64 (s.t[0]'(by omega)):=by
    by_cases h:s.t.length=1
    ·exact⟨Sx.rightT NM 64 (s.t[0]'(by omega)),fun _=>rfl⟩
    ·exact⟨false,fun h'=>absurd h' h⟩
   obtain⟨gx,ox,p,Atp,ctp,Anp,cnp,App,cpp,hxf⟩:∃gx ox p Atp ctp Anp cnp App cpp,∀h:s.x.length=1,s.x[0]'(by omega)=p/\p∈s.x/\Ax=some ⟨gx,ox,none⟩/\IsEx W (.agg #[.int .i64 p.pos,.int .i64 p.kind,.int .i64 p.n,.string ⟨p.s.toArray⟩,.slice Atp p.t.length ctp,.slice Anp p.names.length cnp,.slice App p.parts.length cpp]) p/\∀X,Below W.heap.size W X->CellsEx X gx ox (.int .i64 p.pos) (.int .i64 p.kind) (.int .i64 p.n) (.string ⟨p.s.toArray⟩) (.slice Atp p.t.length ctp) (.slice Anp p.names.length cnp) (.slice App p.parts.length cpp):=by
    by_cases h:s.x.length=1
    ·obtain⟨gx,ox,Atp,ctp,Anp,cnp,App,cpp,e1,e2,e3⟩:=h2.spot 0 (by omega);rw[yrZ,ypZ]at e3;exact⟨gx,ox,_,Atp,ctp,Anp,cnp,App,cpp,fun _=>⟨rfl,yfZ _,e1,e2,e3⟩⟩
    ·exact⟨0,0,.mk 0 0 0 [] [] [] [],none,0,none,0,none,0,fun h'=>absurd h' h⟩
   obtain⟨gt,ot,t,Atn,ctn,Atm,ctm,Att,ctt,htf⟩:∃gx ox t Atn ctn Atm ctm Att ctt,∀h:s.t.length=1,s.t[0]'(by omega)=t/\t∈s.t/\At=some ⟨gx,ox,none⟩/\IsTy W (.agg #[.int .i64 t.kind,.string ⟨t.name.toArray⟩,.slice Atn t.names.length ctn,.slice Atm t.embeds.length ctm,.slice Att t.parts.length ctt]) t/\∀X,Below W.heap.size W X->Cells5 X gx ox t.kind t.name (.slice Atn t.names.length ctn) (.slice Atm t.embeds.length ctm) (.slice Att t.parts.length ctt):=by
    by_cases h:s.t.length=1
    ·obtain⟨gx,ox,Atp,ctp,Anp,cnp,App,cpp,e1,e2,e3⟩:=h1.spot 0 (by omega);rw[yrZ,ypZ]at e3;exact⟨gx,ox,_,Atp,ctp,Anp,cnp,App,cpp,fun _=>⟨rfl,yfZ _,e1,e2,e3⟩⟩
    ·exact⟨0,0,.mk 0 [] [] [] [],none,0,none,0,none,0,fun h'=>absurd h' h⟩
   obtain⟨kd,hkd⟩:=zE (s.kind);obtain⟨tl,htl⟩:=zE (s.t.length);obtain⟨xl,hxl⟩:=zE (s.x.length);obtain⟨bl,hbl⟩:=zE (s.body.length);obtain⟨el,hel⟩:=zE (s.els.length);obtain⟨xi,hxi⟩:∃q:Int,((xl:Nat):Int)=q:=⟨_,rfl⟩;obtain⟨ti,hti⟩:∃q:Int,((tl:Nat):Int)=q:=⟨_,rfl⟩;obtain⟨bi,hbi⟩:∃q:Int,((bl:Nat):Int)=q:=⟨_,rfl⟩;obtain⟨ei,hei⟩:∃q:Int,((el:Nat):Int)=q:=⟨_,rfl⟩;obtain⟨sm,hsmv⟩:=zE (NM.small s.name);obtain⟨ne,hne⟩:=zE (((⟨s.name.toArray⟩:ByteArray) != ⟨#[]⟩));obtain⟨nb,hnb⟩:=zE ((kd==1||kd==2));have H1:ne=!s.name.isEmpty:=by
    rw[<-hne]
    cases s.name with
    | nil=>rfl
    | cons a b=>show(!((a::b).toArray==#[]))=true;simp
   have Ho:=zh (show ∀z:Bool,(true&&((z||(xi != 1))==false))=true->Ax=some ⟨gx,ox,none⟩/\(0:Int)<xi/\∀X,Below W.heap.size W X->CellsEx X gx ox (.int .i64 p.pos) (.int .i64 p.kind) (.int .i64 p.n) (.string ⟨p.s.toArray⟩) (.slice Atp p.t.length ctp) (.slice Anp p.names.length cnp) (.slice App p.parts.length cpp)from fun z hz=>by
    have h:s.x.length=1:=by simp at hz;omega
    exact⟨(hxf h).2.2.1,by omega,(hxf h).2.2.2.2⟩)
   have J4:=zh (show ∀z:Bool,(true&&((z||(xi != 1))==false))=true->∀X,LW W X->Calls Tryz.prog 33 #[.agg #[.int .i64 p.pos,.int .i64 p.kind,.int .i64 p.n,.string ⟨p.s.toArray⟩,.slice Atp p.t.length ctp,.slice Anp p.names.length cnp,.slice App p.parts.length cpp],.int .i64 64] X fun e w2=>e=.returned (.bool rx)/\Below X.heap.size X w2 from fun z hz X hX=>by
    have h:s.x.length=1:=(by simp at hz;omega);obtain⟨q1,q2,q3,q4,q5⟩:=hxf h;have hq:=Sx.sizeX_mem q2;rw[hrx h,q1]
    exact(zjzZ _ p (ybZ _) 64 _ X X (ybZ _) hX.self (IsEx.below hX.b _ _ q4) (by omega)).mono fun e w2 h=>⟨h.1,h.2.b⟩)
   have Hr:=zh (show ∀z u:Bool,(((z&&((ti==1)==true))&&u))=true->At=some ⟨gt,ot,none⟩/\(0:Int)<ti/\∀X,Below W.heap.size W X->Cells5 X gt ot t.kind t.name (.slice Atn t.names.length ctn) (.slice Atm t.embeds.length ctm) (.slice Att t.parts.length ctt)from fun z u hz=>by
    have h:s.t.length=1:=by simp at hz;omega
    exact⟨(htf h).2.2.1,by omega,(htf h).2.2.2.2⟩)
   have Jb:=zh (show ∀z u:Bool,(((z&&((ti==1)==true))&&u))=true->∀X,LW W X->Calls Tryz.prog 27 #[.agg #[.int .i64 t.kind,.string ⟨t.name.toArray⟩,.slice Atn t.names.length ctn,.slice Atm t.embeds.length ctm,.slice Att t.parts.length ctt],.int .i64 64] X fun e w2=>e=.returned (.bool rt)/\Below X.heap.size X w2 from fun z u hz X hX=>by
    have h:s.t.length=1:=(by simp at hz;omega);obtain⟨q1,q2,q3,q4,q5⟩:=htf h;have hq:=Sx.size_mem q2;rw[hrt h,q1]
    exact(zibZ 64 (ybZ _) t _ X X hX.self (IsTy.below hX.b _ _ q4) (by omega)).mono fun e w2 h=>⟨h.1,h.2.b⟩)
   have J0:=zh (fun X (hX:LW W X)=>(zgtZ hX.self s.name (by omega)).mono fun e w2 h=>(show e=.returned (.bool sm)/\Below X.heap.size X w2 from⟨by rw[h.1,hsmv],h.2.b⟩));have H6:=zh (fun(d':Nat) (hd':d=d'+1) X (hX:LW W X)=>(Hd.1 d' _ X X (by have:=H7.o.2;omega) hX.self (h3.below hX.b) (by omega)).mono fun e w2 h=>(show e=.returned (.bool (Sx.rightSs NM d' s.body))/\Below X.heap.size X w2 from⟨h.1,h.2.b⟩));have H3:=zh (fun(d':Nat) (hd':d=d'+1) X (hX:LW W X)=>(Hd.2 d' _ X X (by have:=H7.o.2;omega) hX.self (h4.below hX.b) (by omega)).mono fun e w2 h=>(show e=.returned (.bool (Sx.rightSs NM d' s.els))/\Below X.heap.size X w2 from⟨h.1,h.2.b⟩));obtain⟨b5,hb5⟩:=zE ((((((e==0)||(decide (kd<1)))||(decide (7<kd)))||(xi != 1))||(!rx)));obtain⟨b8,hb8⟩:=zE (((((nb != ne)||(nb&&(!sm)))||(decide (1<ti)))||((ti==1)&&((kd != 1)||(!rt)))))
   have J5:=zh (show b5=true->Sx.rightS NM d s=false from fun hh=>by
    cases d with
    | zero=>cases s;rfl
    | succ d=>
     have Hh:(e==0)=false:=(by rw[yaZ];have:=H7.o.1;omega);rw[Sx.rightS_ref,refS5 Hh hrx (by rw[hxl,hxi]),hkd,hb5,hh]
     rfl)
   have Ja:=zh (show b8=true->Sx.rightS NM d s=false from fun hh=>by
    cases d with
    | zero=>cases s;rfl
    | succ d=>
     rw[Sx.rightS_ref,refS8 (nb:=nb) (by first | exact hnb.symm | (rw[hkd];exact hnb.symm)) H1 hsmv.symm hrt (by rw[htl,hti]),hkd,hb8,hh]
     simp)
   have Hi:=zh (show b5=false->b8=false->∀d',d=d'+1->Sx.rightS NM d s=(((decide (s.kind=4\/s.kind=5)||s.body.isEmpty)&&(decide (s.kind=4)||s.els.isEmpty))&&(Sx.rightSs NM d' s.body&&Sx.rightSs NM d' s.els))from fun q5 q8 d' hd'=>by
    have Hh:(e==0)=false:=(by rw[yaZ];have:=H7.o.1;omega);rw[hd',Sx.rightS_ref,refS5 Hh hrx (by rw[hxl,hxi]),refS8 (nb:=nb) (by first | exact hnb.symm | (rw[hkd];exact hnb.symm)) H1 hsmv.symm hrt (by rw[htl,hti]),hkd,hb5,hb8,q5,q8]
    simp)
   have HD:=zh (show b5=false->∃d',d=d'+1 from fun q5=>by
    cases d with
    | zero=>rw[<-H7.o.1]at hb5;rw[<-hb5]at q5;simp at q5
    | succ d'=>exact⟨d',rfl⟩)
   have H8:=zh (show((s.body.length:Nat):Int)=bi/\((s.els.length:Nat):Int)=ei from⟨by rw[hbl,hbi],by rw[hel,hei]⟩);have Hx:=zh hkd;have J2:=zh H1;have Hu:=zh hb5;have Hy:=zh hb8;have J6:=zh hnb;rw[hkd,htl,hxl,hbl,hel]at hc5;rw[hbl]at H6;rw[hel]at H3;have xl0:(xl:Int)<=1000000:=(by omega);have tl0:(tl:Int)<=1000000:=(by omega);have bl0:(bl:Int)<=1000000:=(by omega);have el0:(el:Int)<=1000000:=(by omega);obtain⟨K,hK⟩:=zE (wr.heap.size);obtain⟨w2,hw2⟩:=zE (wr.alloc (.cells #[.int .i64 s.pos,.int .i64 kd,.string ⟨s.name.toArray⟩,.slice At tl ct,.slice Ax xl cx,.slice Ab bl cb,.slice Ae el ce] 69));have hS2:(fun X=>LW W X/\X.heap[K]? =some (.cells #[.int .i64 s.pos,.int .i64 kd,.string ⟨s.name.toArray⟩,.slice At tl ct,.slice Ax xl cx,.slice Ab bl cb,.slice Ae el ce] 69 (0,0))) w2:=⟨by rw[<-hw2];exact HB.o.alloc _,by rw[<-hw2,<-hK];exact ydZ wr _⟩;have H2:=zh hS2;have Hm:=zh hw2;have H9:=zh (show ∀X X',(fun X=>LW W X/\X.heap[K]? =some (.cells #[.int .i64 s.pos,.int .i64 kd,.string ⟨s.name.toArray⟩,.slice At tl ct,.slice Ax xl cx,.slice Ab bl cb,.slice Ae el ce] 69 (0,0))) X->Below X.heap.size X X'->(fun X=>LW W X/\X.heap[K]? =some (.cells #[.int .i64 s.pos,.int .i64 kd,.string ⟨s.name.toArray⟩,.slice At tl ct,.slice Ax xl cx,.slice Ab bl cb,.slice Ae el ce] 69 (0,0))) X' from fun X X2 h hb=>⟨h.1.go hb,(hb.block _ (zaZ h.2)).trans h.2⟩);obtain⟨hg,x0,x1,x2,x3,x4,x5,x6⟩:=hc5 wr HB.o.b;clear hty hc5 Hl H5 hse Hw Hc Hd Hz Hf J1 J8 h1 h2 h3 h4 hrx hrt hxf htf hkd htl hxl hbl hel hsmv H1 hne hb5 hb8 hnb hw2 hS2;go_upto_region 5 with fail
   rw[Hm.o];clear Hm hg x0 x1 x2 x3 x4 x5 x6;have hS0:=H2.o;obtain⟨Fs,hFs⟩:∃F:List (Value->World->Value->Nat->Prop),(let b2:Bool:=(e==0);let p0:Bool:=(true&&(b2==false));let b7:Bool:=(b2||(decide (kd<1)));let p1:Bool:=(true&&(b7==false));let b12:Bool:=(b7||(decide (7<kd)));let p2:Bool:=(true&&(b12==false));let b18:Bool:=(b12||(xi != 1));let p3:Bool:=(true&&(b18==false));[IsF (.int .i64 e),IsF (.bool (e==0)),IsF (.bool (e==0)),IsF (gv p0 (.pointer (some ⟨K,1,none⟩))),IsF (gv p0 (.int .i64 kd)),IsF (gv p0 (.bool (decide (kd<1)))),IsF (.bool (b2||(decide (kd<1)))),IsF (.bool (b2||(decide (kd<1)))),IsF (gv p1 (.pointer (some ⟨K,1,none⟩))),IsF (gv p1 (.int .i64 kd)),IsF (gv p1 (.bool (decide (7<kd)))),IsF (.bool (b7||(decide (7<kd)))),IsF (.bool (b7||(decide (7<kd)))),IsF (gv p2 (.pointer (some ⟨K,4,none⟩))),IsF (gv p2 (.slice Ax xl cx)),IsF (gv p2 (.int .i64 xi)),IsF (gv p2 (.bool (xi != 1))),IsF (.bool (b12||(xi != 1))),IsF (.bool (b12||(xi != 1))),IsF (gv p3 (.pointer (some ⟨K,4,none⟩))),IsF (gv p3 (.slice Ax xl cx)),IsF (gv p3 (.pointer (some ⟨gx,ox,none⟩))),IsF (gv p3 (.agg #[.int .i64 p.pos,.int .i64 p.kind,.int .i64 p.n,.string ⟨p.s.toArray⟩,.slice Atp p.t.length ctp,.slice Anp p.names.length cnp,.slice App p.parts.length cpp])),IsF (gv p3 (.bool rx)),IsF (gv p3 (.bool (!rx))),IsF (.bool (b18||(!rx)))])=F:=⟨_,rfl⟩;obtain⟨F0,F1,F2,F3,F4,F5,F6,F7,F8,F9,F10,F11,F12,F13,F14,F15,F16,F17,F18,F19,F20,F21,F22,F23,F24,F25,-⟩:=zcgZ hFs;have H0:AllStay StM Fs:=(by rw[<-hFs];repeat first | exact .nil | refine .cons IsF.stays ?_);clear hFs;have HB:=Bx.mk (P:= Tryz.prog) (I:=StI (fun X=>LW W X/\X.heap[K]? =some (.cells #[.int .i64 s.pos,.int .i64 kd,.string ⟨s.name.toArray⟩,.slice At tl ct,.slice Ax xl cx,.slice Ab bl cb,.slice Ae el ce] 69 (0,0)))) flS ldA fun _ w _=>(fun w h=>h.2) w;refine zwZ [] (StI (fun X=>LW W X/\X.heap[K]? =some (.cells #[.int .i64 s.pos,.int .i64 kd,.string ⟨s.name.toArray⟩,.slice At tl ct,.slice Ax xl cx,.slice Ab bl cb,.slice Ae el ce] 69 (0,0)))) StM Fs undef (by kernel_rfl) (by kernel_rfl) (by kernel_rfl) (by kernel_rfl) (by kernel_rfl) H0 (n:=26) (by kernel_rfl) (hS0) ?_ ?_
   ·repeat' first | refine OpsOk.cons ?_ ?_ | fail
    ·exact .m F0 (.n 1)
    ·exact .v1 F1 (.f 18 F0)
    ·exact .m F2 (.f 19 F1)
    ·exact .gfl HB (g0 F2) F3 (.n 6)
    ·exact .gld HB (g0 F2) F4 (.g 21 F3)
    ·exact .gv1 (g0 F2) F5 (.g 22 F4)
    ·exact .pO F6 (.f 20 F2) (.g 23 F5)
    ·exact .m F7 (.f 24 F6)
    ·exact .gfl HB (g0 F7) F8 (.n 6)
    ·exact .gld HB (g0 F7) F9 (.g 26 F8)
    ·exact .gv1 (g0 F7) F10 (.g 27 F9)
    ·exact .pO F11 (.f 25 F7) (.g 28 F10)
    ·exact .m F12 (.f 29 F11)
    ·exact .gfl HB (g0 F12) F13 (.n 6)
    ·exact .gld HB (g0 F12) F14 (.g 31 F13)
    ·exact .gv1 (g0 F12) F15 (.g 32 F14)
    ·exact .gv1 (g0 F12) F16 (.g 33 F15)
    ·exact .pO F17 (.f 30 F12) (.g 34 F16)
    ·exact .m F18 (.f 35 F17)
    ·exact .gfl HB (g0 F18) F19 (.n 6)
    ·exact .gld HB (g0 F18) F20 (.g 37 F19)
    ·refine OpOk.gval rfl rfl (by kernel_rfl) (by kernel_rfl) (g0 F18) F21 StM.rf fun hp ρ w r ka E hI K hK=>?_;have e38:=(E.e 38 20 (by kernel_rfl) F20).trans (zbaZ hp);have c:=E.c;obtain⟨rfl,h1,hcx⟩:=Ho.o _ hp;go_simp;exact hK
    ·refine OpOk.gval rfl rfl (by kernel_rfl) (by kernel_rfl) (g0 F18) F22 StM.rf fun hp ρ w r ka E hI K hK=>?_;have e39:=(E.e 39 21 (by kernel_rfl) F21).trans (zbaZ hp);obtain⟨h0,h1,hcx⟩:=Ho.o _ hp;obtain⟨hg,c0,c1,c2,c3,c4,c5,c6⟩:=hcx w hI.1.b;go_simp;exact hK
    ·exact OpOk.gcall (args:=#[.agg #[.int .i64 p.pos,.int .i64 p.kind,.int .i64 p.n,.string ⟨p.s.toArray⟩,.slice Atp p.t.length ctp,.slice Anp p.names.length cnp,.slice App p.parts.length cpp],.int .i64 64]) rfl (by kernel_rfl) (by kernel_rfl) (g0 F18) F23 H9.o rfl Tryz.func33 (by kernel_rfl) rfl (fun hp ρ w r ka E=>by simp only[yIZ,yPZ,yRZ,(show ρ (.tmp 40)=.agg #[.int .i64 p.pos,.int .i64 p.kind,.int .i64 p.n,.string ⟨p.s.toArray⟩,.slice Atp p.t.length ctp,.slice Anp p.names.length cnp,.slice App p.parts.length cpp]from(E.e 40 22 (by kernel_rfl) F22).trans (zbaZ hp)),E.c]) fun hp w hS=>J4.o _ hp w hS.1
    ·exact .gv1 (g0 F18) F24 (.g 41 F23)
    ·exact .pO F25 (.f 36 F18) (.g 42 F24)
    ·exact .nil
   ·intro uq wq rq hI hF;have hSz:=hI;have f25:uq 25=.bool (((((e==0)||(decide (kd<1)))||(decide (7<kd)))||(xi != 1))||(!rx)):=zbqZ F25 (hF 25 (by decide));simp only[yyZ,fillAct,Act.put,yoZ,yzZ,yAZ,f25];clear hI hF F0 F1 F2 F3 F4 F5 F6 F7 F8 F9 F10 F11 F12 F13 F14 F15 F16 F17 F18 F19 F20 F21 F22 F23 F24 F25 H0 f25;rw[Hu.o];have HS:=zh hSz;clear hSz
    cases b5 with
    | true=>have HF:=zh (J5.o rfl);go_wp2_with fail;go_ret;exact⟨by rw[Hb.o HF.o];rfl,HS.o.1⟩
    | false=>
     obtain⟨d',hd'⟩:=HD.o rfl;have Hg:=zh (H6.o d' hd');have He:=zh (H3.o d' hd');have Ha:=zh (fun q8=>Hi.o rfl q8 d' hd');have Hs:e-1=((d':Nat):Int):=(by have:=H7.o.1;omega);rw[<-Hs]at Hg He;obtain⟨rb,hrb⟩:=zE (Sx.rightSs NM d' s.body);obtain⟨re,hre⟩:=zE (Sx.rightSs NM d' s.els);rw[hrb]at Hg Ha;rw[hre]at He Ha;clear hrb hre Hs hd' Hi H6 H3 HD;go_upto_region 7 with fail;have hS0:=HS.o;obtain⟨Fs,hFs⟩:∃F:List (Value->World->Value->Nat->Prop),(let b3:Bool:=(kd==1);let p0:Bool:=(true&&(b3==false));[IsF (.pointer (some ⟨K,1,none⟩)),IsF (.int .i64 kd),IsF (.bool (kd==1)),IsF (.bool (kd==1)),IsF (gv p0 (.pointer (some ⟨K,1,none⟩))),IsF (gv p0 (.int .i64 kd)),IsF (gv p0 (.bool (kd==2))),IsF (.bool (b3||(kd==2))),IsF (.bool (b3||(kd==2)))])=F:=⟨_,rfl⟩;obtain⟨F0,F1,F2,F3,F4,F5,F6,F7,F8,-⟩:=zcgZ hFs;have H0:AllStay StM Fs:=(by rw[<-hFs];repeat first | exact .nil | refine .cons IsF.stays ?_);clear hFs;have HB:=Bx.mk (P:= Tryz.prog) (I:=StI (fun X=>LW W X/\X.heap[K]? =some (.cells #[.int .i64 s.pos,.int .i64 kd,.string ⟨s.name.toArray⟩,.slice At tl ct,.slice Ax xl cx,.slice Ab bl cb,.slice Ae el ce] 69 (0,0)))) flS ldA fun _ w _=>(fun w h=>h.2) w;refine zwZ [] (StI (fun X=>LW W X/\X.heap[K]? =some (.cells #[.int .i64 s.pos,.int .i64 kd,.string ⟨s.name.toArray⟩,.slice At tl ct,.slice Ax xl cx,.slice Ab bl cb,.slice Ae el ce] 69 (0,0)))) StM Fs undef (by kernel_rfl) (by kernel_rfl) (by kernel_rfl) (by kernel_rfl) (by kernel_rfl) H0 (n:=9) (by kernel_rfl) (hS0) ?_ ?_
     ·repeat' first | refine OpsOk.cons ?_ ?_ | fail
      ·exact .fl HB F0 (.n 6)
      ·exact .ld HB F1 (.f 44 F0)
      ·exact .v1 F2 (.f 45 F1)
      ·exact .m F3 (.f 46 F2)
      ·exact .gfl HB (g0 F3) F4 (.n 6)
      ·exact .gld HB (g0 F3) F5 (.g 48 F4)
      ·exact .gv1 (g0 F3) F6 (.g 49 F5)
      ·exact .pO F7 (.f 47 F3) (.g 50 F6)
      ·exact .s F8 (.f 51 F7)
      ·exact .nil
     ·intro uq wq rq hI hF;have hSz:=hI;have f8:uq 8=.bool ((kd==1)||(kd==2)):=zbqZ F8 (hF 8 (by decide));simp only[yyZ,fillAct,Act.put,yoZ,yzZ,yAZ,f8];clear hI hF F0 F1 F2 F3 F4 F5 F6 F7 F8 H0 f8;rw[J6.o];have Hn:=zh hSz;clear hSz HS;go_upto_region 8 with fail
      have hS0:=Hn.o;obtain⟨Fs,hFs⟩:∃F:List (Value->World->Value->Nat->Prop),(let b5:Bool:=(nb != ne);let p0:Bool:=(true&&(b5==false));let b7:Bool:=nb;let p1:Bool:=(p0&&(b7==true));let b14:Bool:=(b5||(nb&&(!sm)));let p2:Bool:=(true&&(b14==false));let b20:Bool:=(b14||(decide (1<ti)));let p3:Bool:=(true&&(b20==false));let b25:Bool:=(ti==1);let p4:Bool:=(p3&&(b25==true));let b29:Bool:=(kd != 1);let p5:Bool:=(p4&&(b29==false));[IsF (.bool nb),IsF (.pointer (some ⟨K,2,none⟩)),IsF (.string ⟨s.name.toArray⟩),IsF (.bool ne),IsF (.bool (nb != ne)),IsF (.bool (nb != ne)),IsF (gv p0 (.bool nb)),IsF (gv p0 (.bool nb)),IsF (gv p1 (.pointer (some ⟨K,2,none⟩))),IsF (gv p1 (.string ⟨s.name.toArray⟩)),IsF (gv p1 (.bool sm)),IsF (gv p1 (.bool (!sm))),IsF (gv p0 (.bool (nb&&(!sm)))),IsF (.bool (b5||(nb&&(!sm)))),IsF (.bool (b5||(nb&&(!sm)))),IsF (gv p2 (.pointer (some ⟨K,3,none⟩))),IsF (gv p2 (.slice At tl ct)),IsF (gv p2 (.int .i64 ti)),IsF (gv p2 (.bool (decide (1<ti)))),IsF (.bool (b14||(decide (1<ti)))),IsF (.bool (b14||(decide (1<ti)))),IsF (gv p3 (.pointer (some ⟨K,3,none⟩))),IsF (gv p3 (.slice At tl ct)),IsF (gv p3 (.int .i64 ti)),IsF (gv p3 (.bool (ti==1))),IsF (gv p3 (.bool (ti==1))),IsF (gv p4 (.pointer (some ⟨K,1,none⟩))),IsF (gv p4 (.int .i64 kd)),IsF (gv p4 (.bool (kd != 1))),IsF (gv p4 (.bool (kd != 1))),IsF (gv p5 (.pointer (some ⟨K,3,none⟩))),IsF (gv p5 (.slice At tl ct)),IsF (gv p5 (.pointer (some ⟨gt,ot,none⟩))),IsF (gv p5 (.agg #[.int .i64 t.kind,.string ⟨t.name.toArray⟩,.slice Atn t.names.length ctn,.slice Atm t.embeds.length ctm,.slice Att t.parts.length ctt])),IsF (gv p5 (.bool rt)),IsF (gv p5 (.bool (!rt))),IsF (gv p4 (.bool (b29||(!rt)))),IsF (gv p3 (.bool (b25&&(b29||(!rt))))),IsF (.bool (b20||(b25&&(b29||(!rt)))))])=F:=⟨_,rfl⟩;obtain⟨F0,F1,F2,F3,F4,F5,F6,F7,F8,F9,F10,F11,F12,F13,F14,F15,F16,F17,F18,F19,F20,F21,F22,F23,F24,F25,F26,F27,F28,F29,F30,F31,F32,F33,F34,F35,F36,F37,F38,-⟩:=zcgZ hFs;have H0:AllStay StM Fs:=(by rw[<-hFs];repeat first | exact .nil | refine .cons IsF.stays ?_);clear hFs;have HB:=Bx.mk (P:= Tryz.prog) (I:=StI (fun X=>LW W X/\X.heap[K]? =some (.cells #[.int .i64 s.pos,.int .i64 kd,.string ⟨s.name.toArray⟩,.slice At tl ct,.slice Ax xl cx,.slice Ab bl cb,.slice Ae el ce] 69 (0,0)))) flS ldA fun _ w _=>(fun w h=>h.2) w;refine zwZ [] (StI (fun X=>LW W X/\X.heap[K]? =some (.cells #[.int .i64 s.pos,.int .i64 kd,.string ⟨s.name.toArray⟩,.slice At tl ct,.slice Ax xl cx,.slice Ab bl cb,.slice Ae el ce] 69 (0,0)))) StM Fs undef (by kernel_rfl) (by kernel_rfl) (by kernel_rfl) (by kernel_rfl) (by kernel_rfl) H0 (n:=39) (by kernel_rfl) (hS0) ?_ ?_
      ·repeat' first | refine OpsOk.cons ?_ ?_ | fail
       ·exact .m F0 (.n 7)
       ·exact .fl HB F1 (.n 6)
       ·exact .ld HB F2 (.f 53 F1)
       ·refine OpOk.val rfl rfl F3 StM.rf fun ρ w r ka E hI K hK=>?_;have e54:=E.e 54 2 (by kernel_rfl) F2;have c:=E.c;go_simp;rw[<-J2.o];exact hK
       ·exact .v2 F4 (.f 52 F0) (.f 55 F3)
       ·exact .m F5 (.f 56 F4)
       ·exact .gm (g0 F5) F6 (.n 7)
       ·exact .gm (g0 F5) F7 (.g 58 F6)
       ·exact .gfl HB F7 F8 (.n 6)
       ·exact .gld HB F7 F9 (.g 60 F8)
       ·exact OpOk.gcall (args:=#[.string ⟨s.name.toArray⟩]) rfl (by kernel_rfl) (by kernel_rfl) F7 F10 H9.o rfl Tryz.func83 (by kernel_rfl) rfl (fun hp ρ w r ka E=>by simp only[yIZ,yPZ,yRZ,(show ρ (.tmp 61)=.string ⟨s.name.toArray⟩from(E.e 61 9 (by kernel_rfl) F9).trans (zbaZ hp))]) fun hp w hS=>J0.o w hS.1
       ·exact .gv1 F7 F11 (.g 62 F10)
       ·exact .gpA (g0 F5) F12 (.g 59 F7) (.g 63 F11)
       ·exact .pO F13 (.f 57 F5) (.g 64 F12)
       ·exact .m F14 (.f 65 F13)
       ·exact .gfl HB (g0 F14) F15 (.n 6)
       ·exact .gld HB (g0 F14) F16 (.g 67 F15)
       ·exact .gv1 (g0 F14) F17 (.g 68 F16)
       ·exact .gv1 (g0 F14) F18 (.g 69 F17)
       ·exact .pO F19 (.f 66 F14) (.g 70 F18)
       ·exact .m F20 (.f 71 F19)
       ·exact .gfl HB (g0 F20) F21 (.n 6)
       ·exact .gld HB (g0 F20) F22 (.g 73 F21)
       ·exact .gv1 (g0 F20) F23 (.g 74 F22)
       ·exact .gv1 (g0 F20) F24 (.g 75 F23)
       ·exact .gm (g0 F20) F25 (.g 76 F24)
       ·exact .gfl HB F25 F26 (.n 6)
       ·exact .gld HB F25 F27 (.g 78 F26)
       ·exact .gv1 F25 F28 (.g 79 F27)
       ·exact .gm F25 F29 (.g 80 F28)
       ·exact .gfl HB F29 F30 (.n 6)
       ·exact .gld HB F29 F31 (.g 82 F30)
       ·refine OpOk.gval rfl rfl (by kernel_rfl) (by kernel_rfl) F29 F32 StM.rf fun hp ρ w r ka E hI K hK=>?_;have e83:=(E.e 83 31 (by kernel_rfl) F31).trans (zbaZ hp);have c:=E.c;obtain⟨rfl,h1,hct⟩:=Hr.o _ _ hp;go_simp;exact hK
       ·refine OpOk.gval rfl rfl (by kernel_rfl) (by kernel_rfl) F29 F33 StM.rf fun hp ρ w r ka E hI K hK=>?_;have e84:=(E.e 84 32 (by kernel_rfl) F32).trans (zbaZ hp);obtain⟨h0,h1,hct⟩:=Hr.o _ _ hp;obtain⟨hg,c0,c1,c2,c3,c4⟩:=hct w hI.1.b;go_simp;exact hK
       ·exact OpOk.gcall (args:=#[.agg #[.int .i64 t.kind,.string ⟨t.name.toArray⟩,.slice Atn t.names.length ctn,.slice Atm t.embeds.length ctm,.slice Att t.parts.length ctt],.int .i64 64]) rfl (by kernel_rfl) (by kernel_rfl) F29 F34 H9.o rfl Tryz.func27 (by kernel_rfl) rfl (fun hp ρ w r ka E=>by simp only[yIZ,yPZ,yRZ,(show ρ (.tmp 85)=.agg #[.int .i64 t.kind,.string ⟨t.name.toArray⟩,.slice Atn t.names.length ctn,.slice Atm t.embeds.length ctm,.slice Att t.parts.length ctt]from(E.e 85 33 (by kernel_rfl) F33).trans (zbaZ hp)),E.c]) fun hp w hS=>Jb.o _ _ hp w hS.1
       ·exact .gv1 F29 F35 (.g 86 F34)
       ·exact .gpO F25 F36 (.g 81 F29) (.g 87 F35)
       ·exact .gpA (g0 F20) F37 (.g 77 F25) (.g 88 F36)
       ·exact .pO F38 (.f 72 F20) (.g 89 F37)
       ·exact .nil
      ·intro uq wq rq hI hF;have hSz:=hI;have f38:uq 38=.bool ((((nb != ne)||(nb&&(!sm)))||(decide (1<ti)))||((ti==1)&&((kd != 1)||(!rt)))):=zbqZ F38 (hF 38 (by decide));simp only[yyZ,fillAct,Act.put,yoZ,yzZ,yAZ,f38];clear hI hF F0 F1 F2 F3 F4 F5 F6 F7 F8 F9 F10 F11 F12 F13 F14 F15 F16 F17 F18 F19 F20 F21 F22 F23 F24 F25 F26 F27 F28 F29 F30 F31 F32 F33 F34 F35 F36 F37 F38 H0 f38;rw[Hy.o];have HS:=zh hSz;clear hSz Hn
       cases b8 with
       | true=>have HF:=zh (Ja.o rfl);go_wp2_with fail;go_ret;exact⟨by rw[Hb.o HF.o];rfl,HS.o.1⟩
       | false=>
        have Hp:=zh (Ha.o rfl);clear Ha;go_upto_region 10 with fail
        have hS0:=HS.o;obtain⟨Fs,hFs⟩:∃F:List (Value->World->Value->Nat->Prop),(let b4:Bool:=(decide (0<bi));let p0:Bool:=(true&&(b4==true));let b9:Bool:=(b4&&(kd != 4));let p1:Bool:=(true&&(b9==true));let b14:Bool:=(b9&&(kd != 5));let p2:Bool:=(true&&(b14==false));let b19:Bool:=(decide (0<ei));let p3:Bool:=(p2&&(b19==true));let b25:Bool:=(b14||(b19&&(kd != 4)));let p4:Bool:=(true&&(b25==false));let b33:Bool:=(b25||(!rb));let p5:Bool:=(true&&(b33==false));[IsF (.pointer (some ⟨K,5,none⟩)),IsF (.slice Ab bl cb),IsF (.int .i64 bi),IsF (.bool (decide (0<bi))),IsF (.bool (decide (0<bi))),IsF (gv p0 (.pointer (some ⟨K,1,none⟩))),IsF (gv p0 (.int .i64 kd)),IsF (gv p0 (.bool (kd != 4))),IsF (.bool (b4&&(kd != 4))),IsF (.bool (b4&&(kd != 4))),IsF (gv p1 (.pointer (some ⟨K,1,none⟩))),IsF (gv p1 (.int .i64 kd)),IsF (gv p1 (.bool (kd != 5))),IsF (.bool (b9&&(kd != 5))),IsF (.bool (b9&&(kd != 5))),IsF (gv p2 (.pointer (some ⟨K,6,none⟩))),IsF (gv p2 (.slice Ae el ce)),IsF (gv p2 (.int .i64 ei)),IsF (gv p2 (.bool (decide (0<ei)))),IsF (gv p2 (.bool (decide (0<ei)))),IsF (gv p3 (.pointer (some ⟨K,1,none⟩))),IsF (gv p3 (.int .i64 kd)),IsF (gv p3 (.bool (kd != 4))),IsF (gv p2 (.bool (b19&&(kd != 4)))),IsF (.bool (b14||(b19&&(kd != 4)))),IsF (.bool (b14||(b19&&(kd != 4)))),IsF (gv p4 (.pointer (some ⟨K,5,none⟩))),IsF (gv p4 (.slice Ab bl cb)),IsF (gv p4 (.int .i64 e)),IsF (gv p4 (.int .i64 (e-1))),IsF (gv p4 (.bool rb)),IsF (gv p4 (.bool (!rb))),IsF (.bool (b25||(!rb))),IsF (.bool (b25||(!rb))),IsF (gv p5 (.pointer (some ⟨K,6,none⟩))),IsF (gv p5 (.slice Ae el ce)),IsF (gv p5 (.int .i64 e)),IsF (gv p5 (.int .i64 (e-1))),IsF (gv p5 (.bool re)),IsF (gv p5 (.bool (!re))),IsF (.bool (b33||(!re)))])=F:=⟨_,rfl⟩;obtain⟨F0,F1,F2,F3,F4,F5,F6,F7,F8,F9,F10,F11,F12,F13,F14,F15,F16,F17,F18,F19,F20,F21,F22,F23,F24,F25,F26,F27,F28,F29,F30,F31,F32,F33,F34,F35,F36,F37,F38,F39,F40,-⟩:=zcgZ hFs;have H0:AllStay StM Fs:=(by rw[<-hFs];repeat first | exact .nil | refine .cons IsF.stays ?_);clear hFs;have HB:=Bx.mk (P:= Tryz.prog) (I:=StI (fun X=>LW W X/\X.heap[K]? =some (.cells #[.int .i64 s.pos,.int .i64 kd,.string ⟨s.name.toArray⟩,.slice At tl ct,.slice Ax xl cx,.slice Ab bl cb,.slice Ae el ce] 69 (0,0)))) flS ldA fun _ w _=>(fun w h=>h.2) w;refine zwZ [] (StI (fun X=>LW W X/\X.heap[K]? =some (.cells #[.int .i64 s.pos,.int .i64 kd,.string ⟨s.name.toArray⟩,.slice At tl ct,.slice Ax xl cx,.slice Ab bl cb,.slice Ae el ce] 69 (0,0)))) StM Fs undef (by kernel_rfl) (by kernel_rfl) (by kernel_rfl) (by kernel_rfl) (by kernel_rfl) H0 (n:=41) (by kernel_rfl) (hS0) ?_ ?_
        ·repeat' first | refine OpsOk.cons ?_ ?_ | fail
         ·exact .fl HB F0 (.n 6)
         ·exact .ld HB F1 (.f 91 F0)
         ·exact .v1 F2 (.f 92 F1)
         ·exact .v1 F3 (.f 93 F2)
         ·exact .m F4 (.f 94 F3)
         ·exact .gfl HB (g0 F4) F5 (.n 6)
         ·exact .gld HB (g0 F4) F6 (.g 96 F5)
         ·exact .gv1 (g0 F4) F7 (.g 97 F6)
         ·exact .pA F8 (.f 95 F4) (.g 98 F7)
         ·exact .m F9 (.f 99 F8)
         ·exact .gfl HB (g0 F9) F10 (.n 6)
         ·exact .gld HB (g0 F9) F11 (.g 101 F10)
         ·exact .gv1 (g0 F9) F12 (.g 102 F11)
         ·exact .pA F13 (.f 100 F9) (.g 103 F12)
         ·exact .m F14 (.f 104 F13)
         ·exact .gfl HB (g0 F14) F15 (.n 6)
         ·exact .gld HB (g0 F14) F16 (.g 106 F15)
         ·exact .gv1 (g0 F14) F17 (.g 107 F16)
         ·exact .gv1 (g0 F14) F18 (.g 108 F17)
         ·exact .gm (g0 F14) F19 (.g 109 F18)
         ·exact .gfl HB F19 F20 (.n 6)
         ·exact .gld HB F19 F21 (.g 111 F20)
         ·exact .gv1 F19 F22 (.g 112 F21)
         ·exact .gpA (g0 F14) F23 (.g 110 F19) (.g 113 F22)
         ·exact .pO F24 (.f 105 F14) (.g 114 F23)
         ·exact .m F25 (.f 115 F24)
         ·exact .gfl HB (g0 F25) F26 (.n 6)
         ·exact .gld HB (g0 F25) F27 (.g 117 F26)
         ·exact .gm (g0 F25) F28 (.n 1)
         ·exact .gv1 (g0 F25) F29 (.g 119 F28)
         ·exact OpOk.gcall (args:=#[.slice Ab bl cb,.int .i64 (e-1)]) rfl (by kernel_rfl) (by kernel_rfl) (g0 F25) F30 H9.o rfl Tryz.func38 (by kernel_rfl) rfl (fun hp ρ w r ka E=>by simp only[yIZ,yPZ,yRZ,(show ρ (.tmp 118)=.slice Ab bl cb from(E.e 118 27 (by kernel_rfl) F27).trans (zbaZ hp)),(show ρ (.tmp 120)=.int .i64 (e-1)from(E.e 120 29 (by kernel_rfl) F29).trans (zbaZ hp))]) fun hp w hS=>Hg.o w hS.1
         ·exact .gv1 (g0 F25) F31 (.g 121 F30)
         ·exact .pO F32 (.f 116 F25) (.g 122 F31)
         ·exact .m F33 (.f 123 F32)
         ·exact .gfl HB (g0 F33) F34 (.n 6)
         ·exact .gld HB (g0 F33) F35 (.g 125 F34)
         ·exact .gm (g0 F33) F36 (.n 1)
         ·exact .gv1 (g0 F33) F37 (.g 127 F36)
         ·exact OpOk.gcall (args:=#[.slice Ae el ce,.int .i64 (e-1)]) rfl (by kernel_rfl) (by kernel_rfl) (g0 F33) F38 H9.o rfl Tryz.func38 (by kernel_rfl) rfl (fun hp ρ w r ka E=>by simp only[yIZ,yPZ,yRZ,(show ρ (.tmp 126)=.slice Ae el ce from(E.e 126 35 (by kernel_rfl) F35).trans (zbaZ hp)),(show ρ (.tmp 128)=.int .i64 (e-1)from(E.e 128 37 (by kernel_rfl) F37).trans (zbaZ hp))]) fun hp w hS=>He.o w hS.1
         ·exact .gv1 (g0 F33) F39 (.g 129 F38)
         ·exact .pO F40 (.f 124 F33) (.g 130 F39)
         ·exact .nil
        ·intro uq wq rq hI hF;have hSz:=hI;have f40:uq 40=.bool ((((((decide (0<bi))&&(kd != 4))&&(kd != 5))||((decide (0<ei))&&(kd != 4)))||(!rb))||(!re)):=zbqZ F40 (hF 40 (by decide));simp only[yyZ,fillAct,Act.put,yoZ,yzZ,yAZ,f40];clear hI hF F0 F1 F2 F3 F4 F5 F6 F7 F8 F9 F10 F11 F12 F13 F14 F15 F16 F17 F18 F19 F20 F21 F22 F23 F24 F25 F26 F27 F28 F29 F30 F31 F32 F33 F34 F35 F36 F37 F38 F39 F40 H0 f40;obtain⟨b10,hb10⟩:=zE (((((((decide (0<bi))&&(kd != 4))&&(kd != 5))||((decide (0<ei))&&(kd != 4)))||(!rb))||(!re)));rw[hb10];have Ht:=zh hSz;have Hj:=zh (show Sx.rightS NM d s=!b10 by rw[Hp.o,zydZ H8.o.1 H8.o.2,Hx.o,hb10]);clear hSz HS hb10 Hp
         cases b10 with
         | true=>have HS:=Ht;have HF:=zh (show Sx.rightS NM d s=false from Hj.o);go_wp2_with fail;go_ret;exact⟨by rw[Hb.o HF.o];rfl,HS.o.1⟩
         | false=>
          go_wp2_with fail
          go_roundg (k-(m+1))
          case measure=>have:=HI.o;omega
          case rel=>exact⟨m+1,rfl,by simp,hlt,Hk.o Hj.o,Ht.o.1⟩
  ·have Hv:¬(m:Int)<(k:Int):=(by omega);have HF:=zh (show Sx.rightSs NM d l=true from(Sx.rightSs_iff l).2 fun j h=>HR.o j h (by have:=HK.o;omega));go_wp2_with fail;go_ret;exact⟨by rw[HF.o];rfl,HB.o⟩
theorem zflZ:∀(n:Nat) (l:List Sx.St),Sx.sizeSs l<n->RefSsOk l
 | 0,l,h=>by omega
 | n+1,l,h=>znaZ l fun s hs=>by have:=Sx.sizeS_mem hs;have:=Sx.sizeS_parts s;exact⟨zflZ n s.body (by omega),zflZ n s.els (by omega)⟩
end Go.Proofs.YtdncljdfmdgdaaaGreatDoor
namespace Go.Proofs.YtdncljdfmdgdaaaGreatDoor
open Go.RowKit Go.Shelf
def KXOk (x:Sx.Ex):Prop:=∀(v v':Value) (W:World),Sx.sizeX x<=1000000->IsEx W v x->IsEx W v' x->
 Calls Tryz.prog 35 #[v,v',.bool true] W fun e W'=>e=.returned (.bool true)/\Below W.heap.size W W'
def KXsOk (l:List Sx.Ex):Prop:=∀(v v':Value) (W:World),Sx.sizeXs l<=1000000->ExRow W v l->ExRow W v' l->
 Calls Tryz.prog 82 #[v,v',.bool true] W fun e W'=>e=.returned (.bool true)/\Below W.heap.size W W'
theorem zkaZ (l:List Sx.Ex) (ih:∀t∈l,KXOk t):KXsOk l:=by
 intro v x W H6 hv hx;have Hc:=Sx.length_sizeXs l;obtain⟨A1,c1,rfl,hca,hra⟩:=hv;obtain⟨A2,c2,rfl,hcb,hrb⟩:=hx;have HV:=zh (show ExRow W (.slice A1 l.length c1) l from⟨A1,c1,rfl,hca,hra⟩);have HX:=zh (show ExRow W (.slice A2 l.length c2) l from⟨A2,c2,rfl,hcb,hrb⟩);clear hca hra hcb hrb;obtain⟨k,hk⟩:=zE (l.length);rw[hk]at HV HX ⊢;have k0:(0:Int)<=(k:Int):=by omega
 have k1:(k:Int)<=1000000:=by omega
 have HK:=zh hk;have H9:=zh H6;have Ha:=zh ih;obtain⟨L,hL⟩:=zE (W.heap.size);have HL:=zh hL;clear hk Hc H6 ih hL;go_enter Tryz.func82, Tryz.ntmps82;go_wp2_with fail;go_loopg [7] k (fun i v wr=>∃(q:Nat),i=k-q/\v=.int .i64 (q:Int)/\q<=k/\Below L W wr)
 case atStart=>exact⟨0,rfl,rfl,yxZ _,yqZ _ _⟩
 case round=>
  obtain⟨q,hi,rfl,hq,hb⟩:=hrel;have HI:=zh hi;have HB:=zh hb;have q0:(0:Int)<=(q:Int):=(by omega);have hLs:L<=wr.heap.size:=(by have:=hb.size;have:=HL.o;omega);clear hi hb;by_cases hlt:q<k
  ·have H8:(q:Int)<(k:Int):=(by omega);have H1:q<l.length:=(by have:=HK.o;omega);obtain⟨g,off,At,ct,An,cn,Ap,cp,rfl,hty,hc5⟩:=HV.o.spot q H1;obtain⟨g2,off2,Bt,dt,Bn,dn,Bp,dp,rfl,hty2,hd5⟩:=HX.o.spot q H1;rw[HL.o]at hc5 hd5;obtain⟨hg,x0,x1,x2,x3,x4,x5,x6⟩:=hc5 wr HB.o;obtain⟨hg2,y0,y1,y2,y3,y4,y5,y6⟩:=hd5 wr HB.o;have H4:=Sx.sizeX_mem (yfZ H1);have H0:=yfZ H1;obtain⟨p,hp⟩:=zE (l[q]'H1);rw[hp]at x0 x1 x2 x3 x4 x5 x6 hty H4 H0 y0 y1 y2 y3 y4 y5 y6 hty2;have H2:Below W.heap.size W wr.drew:=(by rw[HL.o];exact Below.drew HB.o);have H3:=Ha.o p H0 _ _ wr.drew (by have:=H9.o;omega) (IsEx.below H2 _ _ hty) (IsEx.below H2 _ _ hty2);have Hb:=zh H3;clear hty hty2 hc5 hd5 H4 H0 hp H2 H3;go_upto_region 6 with fail
   go_region_with (go_at_call 35;refine Hb.o.mono ?_;rintro e w5 ⟨rfl,H5⟩)
   all_goals
    have H7:=zh ((Below.drew HB.o).trans (H5.mono hLs));clear H5;go_wp2_with fail;go_roundg (k-(q+1))
    case measure=>have:=HI.o;omega
    case rel=>exact⟨q+1,rfl,by simp,hlt,H7.o⟩
  ·have H8:¬(q:Int)<(k:Int):=(by omega);go_wp2_with fail;go_ret;rw[HL.o];exact⟨rfl,HB.o⟩
theorem zrjZ (t:Sx.Ex) (ih:KXsOk t.parts):KXOk t:=by
 intro v x W Ha hv hx;have H9:=Sx.sizeX_parts t;have H7:=Sx.length_sizeXs t.parts;have H8:=Sx.length_size t.t;obtain⟨At,ct,An,cn,Ap,cp,rfl,h1,h2,h3,-,-⟩:=hv.agg;obtain⟨Bt,dt,Bn,dn,Bp,dp,rfl,h4,h5,h6,-,-⟩:=hx.agg;have hT:=fun X (hX:Below W.heap.size W X)=>(zjsZ t.names t.names _ _ X (h2.below hX) (h5.below hX) (by omega) (by omega)).mono fun e w' h=>(show e=.returned (.bool true)/\Below X.heap.size X w' from⟨by rw[h.1];simp,h.2⟩);have hB:=fun X (hX:Below W.heap.size W X)=>(zgeZ t.t (fun p _=>zejZ _ p (ybZ _)) t.t _ _ X (by omega) (by omega) (h1.below hX) (h4.below hX)).mono fun e w' h=>(show e=.returned (.bool true)/\Below X.heap.size X w' from⟨by rw[h.1,(Sx.eqTs_iff t.t t.t).2 rfl],h.2⟩);have hP:=fun X (hX:Below W.heap.size W X)=>ih _ _ X (by omega) (h3.below hX) (h6.below hX);obtain⟨w2,hw2⟩:=zE (W.alloc (.cells #[.int .i64 t.pos,.int .i64 t.kind,.int .i64 t.n,.string ⟨t.s.toArray⟩,.slice At t.t.length ct,.slice An t.names.length cn,.slice Ap t.parts.length cp] 39));obtain⟨L,hL⟩:=zE (W.heap.size);obtain⟨L5,hL5⟩:=zE (w2.heap.size);obtain⟨w3,hw3⟩:=zE (w2.alloc (.cells #[.int .i64 t.pos,.int .i64 t.kind,.int .i64 t.n,.string ⟨t.s.toArray⟩,.slice Bt t.t.length dt,.slice Bn t.names.length dn,.slice Bp t.parts.length dp] 39));have g2:=yeZ W (.cells #[.int .i64 t.pos,.int .i64 t.kind,.int .i64 t.n,.string ⟨t.s.toArray⟩,.slice At t.t.length ct,.slice An t.names.length cn,.slice Ap t.parts.length cp] 39) none;have x2:=ydZ W (.cells #[.int .i64 t.pos,.int .i64 t.kind,.int .i64 t.n,.string ⟨t.s.toArray⟩,.slice At t.t.length ct,.slice An t.names.length cn,.slice Ap t.parts.length cp] 39);rw[hw2]at g2 x2;have g3:=yeZ w2 (.cells #[.int .i64 t.pos,.int .i64 t.kind,.int .i64 t.n,.string ⟨t.s.toArray⟩,.slice Bt t.t.length dt,.slice Bn t.names.length dn,.slice Bp t.parts.length dp] 39) none;have x3:=ydZ w2 (.cells #[.int .i64 t.pos,.int .i64 t.kind,.int .i64 t.n,.string ⟨t.s.toArray⟩,.slice Bt t.t.length dt,.slice Bn t.names.length dn,.slice Bp t.parts.length dp] 39);rw[hw3]at g3 x3;rw[hL]at x2;rw[hL5]at x3;have H3:=zh (show Held2 L W #[.int .i64 t.pos,.int .i64 t.kind,.int .i64 t.n,.string ⟨t.s.toArray⟩,.slice At t.t.length ct,.slice An t.names.length cn,.slice Ap t.parts.length cp] 39 L5 #[.int .i64 t.pos,.int .i64 t.kind,.int .i64 t.n,.string ⟨t.s.toArray⟩,.slice Bt t.t.length dt,.slice Bn t.names.length dn,.slice Bp t.parts.length dp] 39 w3 from⟨by rw[<-hL];exact(zeZ g2).trans ((zeZ g3).mono g2.size),(g3.block L (zaZ x2) (fun e=>nomatch e)).trans x2,x3⟩);have HT:=zh hT;have HB:=zh hB;have HP:=zh hP;have HL:=zh hL;clear hT hB hP g2 g3 x2 x3 H9 H7 H8 h1 h2 h3 h4 h5 h6 hv hx ih Ha;have h6:=HL.o;obtain⟨x0,x1,x2,x3,x4,x5,x6⟩:=zbZ H3.o.b1;obtain⟨y0,y1,y2,y3,y4,y5,y6⟩:=zbZ H3.o.b2;obtain⟨l1,l2⟩:=H3.o.lt;go_enter Tryz.func35, Tryz.ntmps35
 go_wp2_with (first
  | (go_at_call 72;refine(HB.o _ (by first | exact H3.o.b | (rw[HL.o];exact H3.o.b))).mono ?_;rintro e w4 ⟨rfl,H2⟩;have H4:=zh (H3.o.go H2);clear H2;clear x0 x1 x2 x3 x4 x5 x6 y0 y1 y2 y3 y4 y5 y6 l1 l2;obtain⟨x0,x1,x2,x3,x4,x5,x6⟩:=zbZ H4.o.b1;obtain⟨y0,y1,y2,y3,y4,y5,y6⟩:=zbZ H4.o.b2;obtain⟨l1,l2⟩:=H4.o.lt)
  | (go_at_call 46;refine(HT.o _ (by first | exact H4.o.b | (rw[HL.o];exact H4.o.b))).mono ?_;rintro e w5 ⟨rfl,H1⟩;have H5:=zh (H4.o.go H1);clear H1;clear x0 x1 x2 x3 x4 x5 x6 y0 y1 y2 y3 y4 y5 y6 l1 l2;obtain⟨x0,x1,x2,x3,x4,x5,x6⟩:=zbZ H5.o.b1;obtain⟨y0,y1,y2,y3,y4,y5,y6⟩:=zbZ H5.o.b2;obtain⟨l1,l2⟩:=H5.o.lt)
  | (go_at_call 82;refine(HP.o _ (by first | exact H5.o.b | (rw[HL.o];exact H5.o.b))).mono ?_;rintro e w6 ⟨rfl,H0⟩;have H6:=zh (H5.o.go H0);clear H0))
 go_ret;refine⟨by first | rfl | simp,?_⟩
 first | exact H6.o.b | (rw[HL.o];exact H6.o.b)
theorem zhjZ:∀(n:Nat) (t:Sx.Ex),Sx.sizeX t<=n->KXOk t
 | 0,t,h=>by have:=Sx.sizeX_pos t;omega
 | n+1,t,h=>zrjZ t (zkaZ t.parts fun p hp=>zhjZ n p (by
   have:=Sx.sizeX_mem hp;have:=Sx.sizeX_parts t
   omega))
end Go.Proofs.YtdncljdfmdgdaaaGreatDoor
