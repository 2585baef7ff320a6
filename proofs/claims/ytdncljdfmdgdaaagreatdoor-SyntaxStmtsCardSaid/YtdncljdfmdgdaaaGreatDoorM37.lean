/-
  Plain laws: what coilref1.One answers is what lex writes; Lx.toks, round by round, as coilref1.Tokens goes.
-/
import Derived.Test.YtdncljdfmdgdaaaGreatDoorM36
set_option linter.unusedSimpArgs false
set_option linter.unusedVariables false
set_option maxRecDepth 100000
set_option maxHeartbeats 4000000
namespace Go.Proofs.YtdncljdfmdgdaaaGreatDoor
open Go.RowKit
namespace Lx
def nameOk (t:Tok):Bool:=
 match toks t.s with
 | ([x],none)=>x.kind==t.kind&&(x.s==t.s&&t.n==0)
 | _=>false
def oneR (t:Tok):Bytes×Bool:=
 if t.kind=1\/t.kind=2\/t.kind=3 then(t.s,nameOk t)
 else if t.kind=4 then(if t.n<0\/t.s≠[]then([],false)else(Lib.decDigits t.n.toNat,true))
 else if t.kind=5 then(if t.s.all saidB then(quote t.s,t.n==0)else([],false))
 else if t.kind=6 then(if sgs.contains t.s then(t.s,t.n==0)else([],false))
 else([],false)
theorem zjjZ (l:Bytes):nameKind l=1\/nameKind l=2\/nameKind l=3:=by
 unfold nameKind;split
 ·exact .inr (.inr rfl)
 ·split
  ·exact .inr (.inl rfl)
  ·exact .inl rfl
theorem ztuZ (c:UInt8) (h:signs.contains c=true):sgs.contains [c]=true:=by
 have H0:∀x∈signs,sgs.contains [x]=true:=by decide
 exact H0 c (ySZ.1 h)
theorem ztvZ {s:Bytes} (h:sgs.contains s=true):s=[61,61]\/∃c,s=[c]/\signs.contains c=true:=by
 have H0:∀x∈sgs,x=[61,61]\/∃c∈signs,x=[c]:=by decide
 rcases H0 s (ySZ.1 h)with h | ⟨c,hc,e⟩
 ·exact .inl h
 ·exact .inr ⟨c,e,ySZ.2 hc⟩
theorem ztwZ {s:Bytes} {t:Tok} (h:Form s t.bare):oneR t=(s,true):=by
 obtain⟨p,k,u,n⟩:=t;simp only[Tok.bare]at h;generalize hb:(⟨0,k,u,n⟩:Tok)=b at h
 cases h with
 | name c s hc hs hl=>have hf:=Form.name c s hc hs hl;injection hb with _ hk hu hn;subst hk hu hn;have ht:=zssZ hf (by omega);unfold oneR nameOk;rw[if_pos (by rcases zjjZ (c::s)with h | h | h <;> rw[h] <;> simp)];simp[ht]
 | number c s hs hv hz=>injection hb with _ hk hu hn;subst hk hu hn;unfold oneR;rw[if_neg (by simp),if_pos rfl,if_neg (by simp)];show(Lib.decDigits (value (c::s)),true)=_;rw[zefZ hs hz]
 | text v hv=>injection hb with _ hk hu hn;subst hk hu hn;unfold oneR;rw[if_neg (by simp),if_neg (by simp),if_pos rfl,if_pos (by simpa using hv)];rfl
 | two=>injection hb with _ hk hu hn;subst hk hu hn;rfl
 | sign c hc=>injection hb with _ hk hu hn;subst hk hu hn;unfold oneR;rw[if_neg (by simp),if_neg (by simp),if_neg (by simp),if_pos rfl,if_pos (ztuZ c hc)];rfl
theorem ztxZ {t:Tok} (h1:t.n<=9223372036854775807) (h:(oneR t).2=true):Form (oneR t).1 t.bare:=by
 obtain⟨p,k,u,n⟩:=t;unfold oneR at h ⊢;simp only[Tok.bare]at *;by_cases hk:k=1\/k=2\/k=3
 ·rw[if_pos hk]at h ⊢;unfold nameOk at h;simp only at h ⊢
  cases ht:toks u with
  | mk l o=>
   rw[ht]at h
   match l,o,h,ht with
   | [x],none,h,ht=>
    simp only[ygZ,ytZ]at h;obtain⟨h2,h3,h4⟩:=h;have H0:go (u.length+1) 0 0 u=([x],none):=by
     unfold toks at ht;split at ht
     ·injection ht with _ h;cases h
     ·exact ht
    obtain⟨-,hp⟩:=zlsZ _ _ _ _ _ H0 (by omega);obtain⟨hf,-⟩:=hp x (yWZ.2 rfl);obtain⟨q,k',u',n'⟩:=x;simp only[Tok.bare]at *;subst h2 h3 h4;generalize hb:(⟨0,k',u',n'⟩:Tok)=b at hf;generalize (written _).1=S at hf
    cases hf with
    | name c s hc hs hl=>injection hb with _ hk hu hn;subst hk hu;exact Form.name c s hc hs hl
    | number c s hs hv hz=>injection hb with _ hk' hu hn;omega
    | text v hv=>injection hb with _ hk' hu hn;omega
    | two=>injection hb with _ hk' hu hn;omega
    | sign c hc=>injection hb with _ hk' hu hn;omega
   | [],none,h,_=>cases h
   | _::_::_,none,h,_=>cases h
   | [],some _,h,_=>cases h
   | _::_,some _,h,_=>simp at h
 ·rw[if_neg hk]at h ⊢;by_cases h4:k=4
  ·rw[if_pos h4]at h ⊢;by_cases hn:n<0\/u≠[]
   ·rw[if_pos hn]at h;cases h
   ·rw[if_neg hn]at h ⊢;have hu:u=[]:=by
     cases u with
     | nil=>rfl
     | cons a l=>exact absurd (.inr (by simp)) hn
    have H1:0<=n:=by
     rcases Int.lt_or_le n 0 with h | h
     ·exact absurd (.inl h) hn
     ·exact h
    subst hu h4;obtain⟨c,s,e1,e2,e3,e4⟩:=zeqZ n.toNat;have hf:=Form.number c s e2 (by omega) (fun h=>(e4 h).1);simp only;rw[e1];rw[e3]at hf;rw[show((n.toNat:Nat):Int)=n by omega]at hf;exact hf
  ·rw[if_neg h4]at h ⊢;by_cases h5:k=5
   ·rw[if_pos h5]at h ⊢;by_cases ha:u.all saidB=true
    ·rw[if_pos ha]at h ⊢;simp only[ytZ]at h;subst h h5;exact Form.text u (by simpa using ha)
    ·rw[if_neg ha]at h;cases h
   ·rw[if_neg h5]at h ⊢;by_cases h6:k=6
    ·rw[if_pos h6]at h ⊢;by_cases ha:sgs.contains u=true
     ·rw[if_pos ha]at h ⊢;simp only[ytZ]at h;subst h h6;rcases ztvZ ha with rfl | ⟨c,rfl,hc⟩
      ·exact Form.two
      ·exact Form.sign c hc
     ·rw[if_neg ha]at h;cases h
    ·rw[if_neg h6]at h;cases h
theorem one_written {t:Tok} (h1:t.n<=9223372036854775807):(oneR t).2=(written t).2/\((written t).2=true->oneR t=written t):=by
 have hw:(written t).2=true->oneR t=written t:=fun h=>by have hf:=form_of_written h;rw[ztwZ hf];exact Prod.ext rfl h.symm
 refine⟨?_,hw⟩
 cases h2:(written t).2 with
 | true=>rw[hw h2,h2]
 | false=>
  cases h:(oneR t).2 with
  | false=>rfl
  | true=>have:=written_of_form (ztxZ h1 h);rw[this]at h2;cases h2
theorem zdoZ (p:Nat):∀(m:Nat) (l acc:Bytes) (k y x:Nat),l.length<=m->quoted p l acc k=.bad y x->y=12
 | m,[],acc,k,y,x,_,h=>by simp only[quoted]at h;injection h with h1 h2;exact h1.symm
 | 0,c::l,acc,k,y,x,hm,h=>by simp at hm
 | m+1,c::l,acc,k,y,x,hm,h=>by
  have H0:l.length<=m:=(by simpa using hm);by_cases e34:c=34
  ·subst e34;simp[quoted]at h
  ·by_cases e92:c=92
   ·subst e92
    cases l with
    | nil=>simp only[quoted]at h;injection h with h1 h2;exact h1.symm
    | cons d l=>
     have H1:l.length<=m:=(by simp at H0;omega);rw[zbtZ]at h;split at h
     ·exact zdoZ p m l _ _ y x H1 h
     ·split at h
      ·exact zdoZ p m l _ _ y x H1 h
      ·injection h with h1 h2;exact h1.symm
   ·rw[zekZ p c l acc k e34 e92]at h;split at h
    ·injection h with h1 h2;exact h1.symm
    ·exact zdoZ p m l _ _ y x H0 h
theorem cut_why {p y x:Nat} {b:UInt8} {l:Bytes} (h:cut p (b::l)=.bad y x):y=2\/y=11\/y=12:=by
 simp only[cut]at h;split at h
 ·simp only[cutName]at h;split at h
  ·injection h with h1 h2;exact .inl h1.symm
  ·cases h
 ·split at h
  ·simp only[cutNumber]at h;split at h
   ·injection h with h1 h2;exact .inr (.inl h1.symm)
   ·cases h
  ·split at h
   ·exact .inr (.inr (zdoZ p _ l _ _ y x (ybZ _) h))
   ·split at h <;> cases h
end Lx
end Go.Proofs.YtdncljdfmdgdaaaGreatDoor
namespace Go.Proofs.YtdncljdfmdgdaaaGreatDoor
open Go.RowKit Go.Shelf
theorem OwnT.toks {w:World} {base:Nat} {v:Value} {l:List Lx.Tok} (h:OwnT w base v l):ToksIn w v l:=by
 rcases h.2 with⟨rfl,hn⟩ | ⟨g,cap,cur,rfl,hbg,hgb,hcap,hcm,hcs,htk⟩
 ·exact .inl ⟨yabZ.1 hn,none,0,rfl⟩
 ·exact .inr ⟨g,cap,cur,(0,0),rfl,hgb,htk⟩
theorem TokAt.below {w w':World} {b o:Nat} {t:Lx.Tok} (h:TokAt w b o t) (hb:Below w.heap.size w w'):TokAt w' b o t:=by
 obtain⟨h0,h1,h2,h3,h4⟩:=h;have hl:=World.block_lt_of_cell? w ⟨b,o,none⟩ h0;have e:∀j,w'.cell? ⟨b,j,none⟩=w.cell? ⟨b,j,none⟩:=fun j=>World.cell?_of_block (hb.block b hl);exact⟨(e _).trans h0,(e _).trans h1,(e _).trans h2,(e _).trans h3,h4⟩
end Go.Proofs.YtdncljdfmdgdaaaGreatDoor
namespace Go.Proofs.YtdncljdfmdgdaaaGreatDoor
open Go.RowKit
def whyR (o:Option (Nat×Nat)):Int:=((o.map Prod.fst).getD 0:Nat)
def placeR (o:Option (Nat×Nat)):Int:=((o.map Prod.snd).getD 0:Nat)
theorem OwnT.slice {w:World} {base:Nat} {v:Value} {l:List Lx.Tok} (h:OwnT w base v l):∃A c,v=.slice A l.length c:=by
 rcases h.2 with⟨rfl,h0⟩ | ⟨g,cap,cur,rfl,_⟩
 ·exact⟨none,0,by rw[h0]⟩
 ·exact⟨_,cap,rfl⟩
theorem OwnT.base {w:World} {base:Nat} {v:Value} {l:List Lx.Tok} (h:OwnT w base v l) (k:Nat) (hk:v.ownBlock=some k):base<=k:=(World.ownsRow.lt h k hk).1
theorem OwnT.below {W W':World} {v:Value} {l:List Lx.Tok} {base:Nat} (h:OwnT W base v l) (hb:Below W.heap.size W W'):OwnT W' base v l:=
 World.ownsRow.kept h (zbhZ hb) (by cases v.ownBlock <;> simp)
section
variable {s:ByteArray} {p f i:Nat}
theorem zybZ (hp:p<=s.size) (hf:s.size-p<f) (hq:skipAt s p=s.size):Lx.go f p i (s.data.toList.drop p)=([],none):=by
 obtain⟨g,rfl⟩:∃g,f=g+1:=⟨f-1,by omega⟩;exact zwlZ hp hq
theorem zwdZ (hp:p<=s.size) (hf:s.size-p<f) (hq:skipAt s p<s.size) (hb:Lx.begins (s[skipAt s p]'hq)=false):Lx.go f p i (s.data.toList.drop p)=([],some (10,skipAt s p)):=by
 obtain⟨g,rfl⟩:∃g,f=g+1:=⟨f-1,by omega⟩;exact zunZ hp hq hb
theorem zweZ (hp:p<=s.size) (hf:s.size-p<f) (hq:skipAt s p<s.size) (hb:Lx.begins (s[skipAt s p]'hq)=true) (hi:i=4096):Lx.go f p i (s.data.toList.drop p)=([],some (3,skipAt s p)):=by
 obtain⟨g,rfl⟩:∃g,f=g+1:=⟨f-1,by omega⟩;exact zuoZ hp hq hb hi
theorem zycZ {y x:Nat} (hp:p<=s.size) (hf:s.size-p<f) (hq:skipAt s p<s.size) (hb:Lx.begins (s[skipAt s p]'hq)=true) (hi:i≠4096) (h:Lx.cut (skipAt s p) (s.data.toList.drop (skipAt s p))=.bad y x) :
  Lx.go f p i (s.data.toList.drop p)=([],some (y,x)):=by
 obtain⟨g,rfl⟩:∃g,f=g+1:=⟨f-1,by omega⟩;exact zwmZ hp hq hb hi h
theorem tk_ok {t:Lx.Tok} {n:Nat} (hp:p<=s.size) (hf:s.size-p<f) (hq:skipAt s p<s.size) (hb:Lx.begins (s[skipAt s p]'hq)=true) (hi:i≠4096) (h:Lx.cut (skipAt s p) (s.data.toList.drop (skipAt s p))=.ok t n) :
  ∃g,s.size-(skipAt s p+n)<g/\Lx.go f p i (s.data.toList.drop p)=(t::(Lx.go g (skipAt s p+n) (i+1) (s.data.toList.drop (skipAt s p+n))).1,(Lx.go g (skipAt s p+n) (i+1) (s.data.toList.drop (skipAt s p+n))).2):=by
 obtain⟨g,rfl⟩:∃g,f=g+1:=⟨f-1,by omega⟩;have h2:=zldZ hq h;have h3:=(zdrZ s p hp).1;exact⟨g,by omega,go_ok hp hq hb hi h⟩
end
theorem zgrZ (s:ByteArray) (w:World) (hs:s.size<=140737488351232) :
  Calls Tryz.prog 138 #[.string s] w fun e w'=>∃v,e=.returned (.tuple #[v,.int .i64 (placeR (Lx.toks s.data.toList).2),.int .i64 (whyR (Lx.toks s.data.toList).2)])/\OwnT w' w.heap.size v (Lx.toks s.data.toList).1/\Below w.heap.size w w':=by
 have Hq:(s.size:Int)<=140737488351232:=by omega
 go_enter Tryz.func138, Tryz.ntmps138
 by_cases hbig:65536<s.size
 ·have Ho:(65536:Int)<(s.size:Int):=(by omega);have HR:=zh (show Lx.toks s.data.toList=([],some (2,0))by unfold Lx.toks;rw[if_pos (by rw[zhZ];exact hbig)]);clear hbig;go_wp2;refine ylZ (results_tmp3 rfl _ _ _) rfl ?_;rw[HR.o];exact⟨_,rfl,yOZ _ _ _ _,yqZ _ _⟩
 ·have Ho:¬(65536:Int)<(s.size:Int):=(by omega);have HT:=zh (show Lx.toks s.data.toList=Lx.go (s.size+1) 0 0 s.data.toList by unfold Lx.toks;rw[if_neg (by rw[zhZ];exact hbig),zhZ]);have He:=znuZ s 0 w (yxZ _) hs;clear hbig;go_wp2_with (go_at_call 150;refine He.mono ?_;clear He;rintro e w' ⟨rfl,Hf⟩;rw[Hf];clear Hf)
  go_loopg [5,6] (s.size-skipAt s 0) (fun n r v wr=>∃(p f:Nat) (ts:List Lx.Tok),n=s.size-skipAt s p/\v=.int .i64 ((skipAt s p:Nat):Int)/\p<=s.size/\s.size-p<f/\ts.length<=4096/\OwnT wr w.heap.size r ts/\Below w.heap.size w wr/\
   Lx.toks s.data.toList=(ts++(Lx.go f p ts.length (s.data.toList.drop p)).1,(Lx.go f p ts.length (s.data.toList.drop p)).2))
  case atStart=>exact⟨0,s.size+1,[],rfl,rfl,yxZ _,by omega,by simp,yOZ _ _ _ _,yqZ _ _,by rw[HT.o];rfl⟩
  case round=>
   obtain⟨p,f,ts,hn,rfl,hp,hf,hl,ho,hb,he⟩:=hrel;obtain⟨A0,cap0,hv⟩:=ho.slice;subst hv;have HN:=zh hn;have HO:=zh ho;have HB:=zh hb;have HE:=zh he;have HF:=zh hf;have HP:=zh hp;have Hg:=zdrZ s p hp;obtain⟨m,hm⟩:=zE (skipAt s p);rw[hm]at Hg HN ⊢;have Hv:p<=m:=Hg.1;have Hs:m<=s.size:=Hg.2.1;have HM:=zh hm;have m0:(0:Int)<=(m:Int):=(by omega);have Ht:(ts.length:Int)<=4096:=(by omega);clear hn ho hb he hf Hg hm;by_cases hlt:m<s.size
   ·have hi:(m:Int)<(s.size:Int):=(by omega);have H7:=fun X=>zqtZ (s[m]'hlt) X;have H1:=fun X=>zyaZ s m X hlt hs;have HD:=zh (zkZ s m hlt)
    cases hbe:Lx.begins (s[m]'hlt)with
    | false=>
     have HR:=zh (show Lx.toks s.data.toList=(ts,some (10,m))by
      rw[HE.o,zwdZ HP.o HF.o (by rw[HM.o];exact hlt) (by simp only[HM.o];exact hbe),HM.o,List.append_nil])
     rw[hbe]at H7;rw[HD.o,zmhZ hbe]at H1;clear hbe;by_cases h4:ts.length=4096
     ·have b4:((ts.length:Int)==4096)=true:=(by simp;omega);clear h4;rw[show cutV m (.bad 10 m)=.agg #[.int .i64 0,.int .i64 0,.string ⟨#[]⟩,.int .i64 0,.int .i64 0,.int .i64 10,.int .i64 (m:Nat)]from rfl]at H1;go_upto_region 9 with(first | (go_at_call 151;refine(H7 _).mono ?_;clear H7;rintro e Wb ⟨rfl,Hb⟩) | (go_at_call 152;refine(H1 _).mono ?_;clear H1;rintro e Wc ⟨rfl,Hc⟩;have H0:=Below.chain Hb Hc))
      have H2:=ydZ Wc (.cells #[.int .i64 0,.int .i64 0,.string ⟨#[]⟩,.int .i64 0,.int .i64 0,.int .i64 10,.int .i64 (m:Nat)] 193);have H4:OwnT (Wc.alloc (.cells #[.int .i64 0,.int .i64 0,.string ⟨#[]⟩,.int .i64 0,.int .i64 0,.int .i64 10,.int .i64 (m:Nat)] 193)) w.heap.size (.slice A0 ts.length cap0) ts:=World.ownsRow.alloc (HO.o.below H0) _;have H3:Below w.heap.size w (Wc.alloc (.cells #[.int .i64 0,.int .i64 0,.string ⟨#[]⟩,.int .i64 0,.int .i64 0,.int .i64 10,.int .i64 (m:Nat)] 193)):=BAlloc (Below.chain HB.o H0);have Ha:∀r,(Value.slice A0 ts.length cap0).ownBlock=some r->r≠Wc.heap.size:=fun r e=>(by have:=(World.ownsRow.lt HO.o r e).2;have:=H0.size;omega);obtain⟨L,hL⟩:=zE (Wc.heap.size);rw[hL]at Ha;obtain⟨W5,hW5⟩:=zE (Wc.alloc (.cells #[.int .i64 0,.int .i64 0,.string ⟨#[]⟩,.int .i64 0,.int .i64 0,.int .i64 10,.int .i64 (m:Nat)] 193));rw[hL,hW5]at H2;rw[hW5]at H4 H3;rw[hL,hW5];obtain⟨⟨p0,p1,p2,p3,p4,p5,p6⟩,-,hl0⟩:=zfZ H2;have H9:=zh H4;have H8:=zh H3;clear H2 H4 H3 hL hW5 H0;go_wp2_with fail;go_quiet (fail);go_wp2_with fail
      refine ylZ (results_tmp3 rfl _ _ _) rfl ?_;rw[HR.o];exact⟨_,rfl,(show OwnT (World.drewN _ _) _ _ _ from H9.o),Below.drewN H8.o _⟩
     ·have b4:((ts.length:Int)==4096)=false:=(by simp;omega);clear h4;rw[show cutV m (.bad 10 m)=.agg #[.int .i64 0,.int .i64 0,.string ⟨#[]⟩,.int .i64 0,.int .i64 0,.int .i64 10,.int .i64 (m:Nat)]from rfl]at H1;go_upto_region 9 with(first | (go_at_call 151;refine(H7 _).mono ?_;clear H7;rintro e Wb ⟨rfl,Hb⟩) | (go_at_call 152;refine(H1 _).mono ?_;clear H1;rintro e Wc ⟨rfl,Hc⟩;have H0:=Hc))
      have H2:=ydZ Wc (.cells #[.int .i64 0,.int .i64 0,.string ⟨#[]⟩,.int .i64 0,.int .i64 0,.int .i64 10,.int .i64 (m:Nat)] 193);have H4:OwnT (Wc.alloc (.cells #[.int .i64 0,.int .i64 0,.string ⟨#[]⟩,.int .i64 0,.int .i64 0,.int .i64 10,.int .i64 (m:Nat)] 193)) w.heap.size (.slice A0 ts.length cap0) ts:=World.ownsRow.alloc (HO.o.below H0) _;have H3:Below w.heap.size w (Wc.alloc (.cells #[.int .i64 0,.int .i64 0,.string ⟨#[]⟩,.int .i64 0,.int .i64 0,.int .i64 10,.int .i64 (m:Nat)] 193)):=BAlloc (Below.chain HB.o H0);have Ha:∀r,(Value.slice A0 ts.length cap0).ownBlock=some r->r≠Wc.heap.size:=fun r e=>(by have:=(World.ownsRow.lt HO.o r e).2;have:=H0.size;omega);obtain⟨L,hL⟩:=zE (Wc.heap.size);rw[hL]at Ha;obtain⟨W5,hW5⟩:=zE (Wc.alloc (.cells #[.int .i64 0,.int .i64 0,.string ⟨#[]⟩,.int .i64 0,.int .i64 0,.int .i64 10,.int .i64 (m:Nat)] 193));rw[hL,hW5]at H2;rw[hW5]at H4 H3;rw[hL,hW5];obtain⟨⟨p0,p1,p2,p3,p4,p5,p6⟩,-,hl0⟩:=zfZ H2;have H9:=zh H4;have H8:=zh H3;clear H2 H4 H3 hL hW5 H0;go_wp2_with fail;go_quiet (fail);go_wp2_with fail
      refine ylZ (results_tmp3 rfl _ _ _) rfl ?_;rw[HR.o];exact⟨_,rfl,(show OwnT (World.drewN _ _) _ _ _ from H9.o),Below.drewN H8.o _⟩
    | true=>
     rw[hbe]at H7;by_cases h4:ts.length=4096
     ·have b4:((ts.length:Int)==4096)=true:=by simp;omega
      have HR:=zh (show Lx.toks s.data.toList=(ts,some (3,m))by
       rw[HE.o,zweZ HP.o HF.o (by rw[HM.o];exact hlt) (by simp only[HM.o];exact hbe) h4,HM.o,List.append_nil])
      clear h4 hbe;go_wp2_with (first | (go_at_call 151;refine(H7 _).mono ?_;clear H7;rintro e Wb ⟨rfl,Hb⟩));refine ylZ (results_tmp3 rfl _ _ _) rfl ?_;rw[HR.o];exact⟨_,rfl,HO.o.below Hb,Below.chain HB.o Hb⟩
     ·have b4:((ts.length:Int)==4096)=false:=(by simp;omega);rw[HD.o,zbzZ hbe,<-HD.o]at H1
      cases hcut:Lx.cut m (s.data.toList.drop m)with
      | bad y x=>
       have HR:=zh (show Lx.toks s.data.toList=(ts,some (y,x))by
        rw[HE.o,zycZ HP.o HF.o (by rw[HM.o];exact hlt) (by simp only[HM.o];exact hbe) h4 (by rw[HM.o];exact hcut),List.append_nil])
       have hy:=Lx.cut_why (by rw[<-HD.o];exact hcut);have Hr:((y:Int) != 0)=true:=(by simp;omega);rw[hcut]at H1;clear hy h4 hcut hbe;rw[show cutV m (.bad y x)=.agg #[.int .i64 0,.int .i64 0,.string ⟨#[]⟩,.int .i64 0,.int .i64 0,.int .i64 (y:Nat),.int .i64 (x:Nat)]from rfl]at H1;go_upto_region 9 with(first | (go_at_call 151;refine(H7 _).mono ?_;clear H7;rintro e Wb ⟨rfl,Hb⟩) | (go_at_call 152;refine(H1 _).mono ?_;clear H1;rintro e Wc ⟨rfl,Hc⟩;have H0:=Hc))
       have H2:=ydZ Wc (.cells #[.int .i64 0,.int .i64 0,.string ⟨#[]⟩,.int .i64 0,.int .i64 0,.int .i64 (y:Nat),.int .i64 (x:Nat)] 193);have H4:OwnT (Wc.alloc (.cells #[.int .i64 0,.int .i64 0,.string ⟨#[]⟩,.int .i64 0,.int .i64 0,.int .i64 (y:Nat),.int .i64 (x:Nat)] 193)) w.heap.size (.slice A0 ts.length cap0) ts:=World.ownsRow.alloc (HO.o.below H0) _;have H3:Below w.heap.size w (Wc.alloc (.cells #[.int .i64 0,.int .i64 0,.string ⟨#[]⟩,.int .i64 0,.int .i64 0,.int .i64 (y:Nat),.int .i64 (x:Nat)] 193)):=BAlloc (Below.chain HB.o H0);have Ha:∀r,(Value.slice A0 ts.length cap0).ownBlock=some r->r≠Wc.heap.size:=fun r e=>(by have:=(World.ownsRow.lt HO.o r e).2;have:=H0.size;omega);obtain⟨L,hL⟩:=zE (Wc.heap.size);rw[hL]at Ha;obtain⟨W5,hW5⟩:=zE (Wc.alloc (.cells #[.int .i64 0,.int .i64 0,.string ⟨#[]⟩,.int .i64 0,.int .i64 0,.int .i64 (y:Nat),.int .i64 (x:Nat)] 193));rw[hL,hW5]at H2;rw[hW5]at H4 H3;rw[hL,hW5];obtain⟨⟨p0,p1,p2,p3,p4,p5,p6⟩,-,hl0⟩:=zfZ H2;have H9:=zh H4;have H8:=zh H3;clear H2 H4 H3 hL hW5 H0;go_wp2_with fail;go_quiet (fail);go_wp2_with fail
       refine ylZ (results_tmp3 rfl _ _ _) rfl ?_;rw[HR.o];exact⟨_,rfl,(show OwnT (World.drewN _ _) _ _ _ from H9.o),Below.drewN H8.o _⟩
      | ok t n=>
       obtain⟨g,hg1,hg2⟩:=tk_ok (s:=s) (p:=p) (f:=f) (i:=ts.length) HP.o HF.o (by rw[HM.o];exact hlt) (by simp only[HM.o];exact hbe) h4 (by rw[HM.o];exact hcut);rw[HM.o]at hg1 hg2;have Hd:=zldZ hlt hcut;have Hh:=zh hg1
       have HR:=zh (show Lx.toks s.data.toList=((ts++[t])++(Lx.go g (m+n) (ts++[t]).length (s.data.toList.drop (m+n))).1,(Lx.go g (m+n) (ts++[t]).length (s.data.toList.drop (m+n))).2)by
        rw[HE.o,hg2,ycZ,yiZ]
        rfl)
       have Hm:ts.length+1<=4096:=(by omega);have H6:=zh Hd;rw[hcut]at H1;rw[show cutV m (.ok t n)=.agg #[.int .i64 t.pos,.int .i64 t.kind,.string ⟨t.s.toArray⟩,.int .i64 t.n,.int .i64 ((m+n:Nat):Int),.int .i64 0,.int .i64 0]from rfl]at H1;obtain⟨q,hq⟩:=zE (m+n);rw[hq]at H1 Hh HR H6;have He:=fun X=>znuZ s q X H6.o.2 hs;have Hj:=(zdrZ s q H6.o.2).1;have Hp:Hid (m<q):=zh (by have:=H6.o.1;omega);clear hg1 hg2 Hd h4 hcut hbe hq;go_upto_region 9 with(first | (go_at_call 151;refine(H7 _).mono ?_;clear H7;rintro e Wb ⟨rfl,Hb⟩) | (go_at_call 152;refine(H1 _).mono ?_;clear H1;rintro e Wc ⟨rfl,Hc⟩;have H0:=Hc))
       have H2:=ydZ Wc (.cells #[.int .i64 t.pos,.int .i64 t.kind,.string ⟨t.s.toArray⟩,.int .i64 t.n,.int .i64 (q:Nat),.int .i64 0,.int .i64 0] 193);have H4:OwnT (Wc.alloc (.cells #[.int .i64 t.pos,.int .i64 t.kind,.string ⟨t.s.toArray⟩,.int .i64 t.n,.int .i64 (q:Nat),.int .i64 0,.int .i64 0] 193)) w.heap.size (.slice A0 ts.length cap0) ts:=World.ownsRow.alloc (HO.o.below H0) _;have H3:Below w.heap.size w (Wc.alloc (.cells #[.int .i64 t.pos,.int .i64 t.kind,.string ⟨t.s.toArray⟩,.int .i64 t.n,.int .i64 (q:Nat),.int .i64 0,.int .i64 0] 193)):=BAlloc (Below.chain HB.o H0);have Ha:∀r,(Value.slice A0 ts.length cap0).ownBlock=some r->r≠Wc.heap.size:=fun r e=>(by have:=(World.ownsRow.lt HO.o r e).2;have:=H0.size;omega);obtain⟨L,hL⟩:=zE (Wc.heap.size);rw[hL]at Ha;obtain⟨W5,hW5⟩:=zE (Wc.alloc (.cells #[.int .i64 t.pos,.int .i64 t.kind,.string ⟨t.s.toArray⟩,.int .i64 t.n,.int .i64 (q:Nat),.int .i64 0,.int .i64 0] 193));rw[hL,hW5]at H2;rw[hW5]at H4 H3;rw[hL,hW5];obtain⟨⟨p0,p1,p2,p3,p4,p5,p6⟩,-,hl0⟩:=zfZ H2;have H9:=zh H4;have H8:=zh H3;clear H2 H4 H3 hL hW5 H0;have Hn:W5.ownsRow w.heap.size 133 4 (.slice A0 ts.length cap0) ts.length (ts.flatMap cellsT):=H9.o;have hW:=H8.o;have hWsz:=H8.o.size;obtain⟨i0,hi',hz0,hz1,hz2⟩:=info_parts zuqZ
       go_wp2_with (first
        | (at_builtin;refine wpList_append_own _ rfl _ _ 73 rfl w.heap.size 133 i0 _ 4 40 Tryz.underlying73 hi' hz0 hz1 hz2 rfl (by decide) _ _ _ rfl (Hn.alloc _) ⟨W5.heap.size,0,none⟩ 1 1 (cellsT t) rfl rfl (zpgZ _ _ _) (by simp[cellsT,Value.oneCell']) (by unfold maxLen;omega) (by omega) (by simp;omega) ?_;intro v' w1 hown' H5 _;have Hi:=(H5.block L (yJZ hl0 (by simp)) (fun e=>Ha L e.symm rfl)).trans ((yeZ W5 _ none).block L hl0 (by simp));have p4':=(World.cell?_of_block (a:=⟨L,4,none⟩) Hi).trans p4;have Hu:L<w1.heap.size:=yJZ hl0 (ymZ (by simp) H5.size);have Hl:=zh hown';have Hk:=zh (Below.turn (hW.alloc hWsz _) H5 (fun r e=>OwnT.base H9.o r e));clear hown' H5 Hi)
        | (go_at_call 150;refine(He _).mono ?_;clear He;rintro e w' ⟨rfl,Hf⟩;rw[Hf];clear Hf))
       go_roundg (s.size-skipAt s q)
       case measure=>have:=HN.o;have:=Hp.o;have:=H6.o;omega
       case rel=>refine⟨q,g,ts++[t],rfl,rfl,H6.o.2,Hh.o,by rw[ycZ];exact Hm,?_,Hk.o,HR.o⟩;unfold OwnT;rw[ycZ,List.flatMap_append];simpa using Hl.o
   ·have hi:¬(m:Int)<(s.size:Int):=by omega
    have HR:=zh (show Lx.toks s.data.toList=(ts,none)by
     rw[HE.o,zybZ HP.o HF.o (by rw[HM.o];omega),List.append_nil])
    go_wp2
    refine ylZ (results_tmp3 rfl _ _ _) rfl ?_;rw[HR.o];exact⟨_,rfl,HO.o,HB.o⟩
namespace Lx
theorem zraZ:∀(f p i:Nat) (l:Bytes) (y x:Nat),(go f p i l).2=some (y,x)->y≠0
 | 0,_,_,_,y,x,h=>by simp[go]at h
 | f+1,p,i,l,y,x,h=>by
  rw[go]at h;simp only at h;split at h
  ·cases h
  ·rename_i b r hr;split at h
   ·injection h with h;injection h with h1 h2;omega
   ·split at h
    ·injection h with h;injection h with h1 h2;omega
    ·split at h
     ·rename_i why x' hcut;rw[hr]at hcut;have:=cut_why hcut;injection h with h;injection h with h1 h2;omega
     ·exact zraZ f _ _ _ y x h
theorem toks_why {l:Bytes} {ts:List Tok} {y x:Nat} (h:toks l=(ts,some (y,x))):y≠0:=by
 unfold toks at h;split at h
 ·injection h with _ h;injection h with h;injection h with h1 h2;omega
 ·exact zraZ _ _ _ _ y x (by rw[h])
end Lx
end Go.Proofs.YtdncljdfmdgdaaaGreatDoor
