/-
  Plain laws: what coilref1.One answers is what lex writes; Lx.toks, round by round, as coilref1.Tokens goes.
-/
import Derived.Test.YtdncljdfmdgdaaaGreatDoorM1
import Derived.Test.YtdncljdfmdgdaaaGreatDoorM37
import Derived.Test.YtdncljdfmdgdaaaGreatDoorM24
import Derived.Test.YtdncljdfmdgdaaaGreatDoorM27
import Derived.Test.YtdncljdfmdgdaaaGreatDoorM9
set_option linter.unusedSimpArgs false
set_option linter.unusedVariables false
set_option maxRecDepth 100000
set_option maxHeartbeats 4000000
namespace Go.Proofs.YtdncljdfmdgdaaaGreatDoor
open Go.RowKit
namespace Lx
def nameOk (t:Tok):Bool:=
 match toks t.s with
 | ([x],none)=>x.kind==t.kind&&(x.s==t.s&&t.n==0)
 | _=>false
def oneR (t:Tok):Bytes×Bool:=
 if t.kind=1∨t.kind=2∨t.kind=3 then(t.s,nameOk t)
 else if t.kind=4 then(if t.n<0∨t.s≠[]then([],false)else(Lib.decDigits t.n.toNat,true))
 else if t.kind=5 then(if t.s.all saidB then(quote t.s,t.n==0)else([],false))
 else if t.kind=6 then(if sgs.contains t.s then(t.s,t.n==0)else([],false))
 else([],false)
theorem zidZ (l:Bytes):nameKind l=1∨nameKind l=2∨nameKind l=3:=by
 unfold nameKind
 split
 ·exact .inr (.inr rfl)
 ·split
  ·exact .inr (.inl rfl)
  ·exact .inl rfl
theorem zslZ (c:UInt8) (h:signs.contains c=true):sgs.contains [c]=true:=by
 have H0:∀x∈signs,sgs.contains [x]=true:=by decide
 exact H0 c (List.contains_iff_mem.1 h)
theorem zsmZ {s:Bytes} (h:sgs.contains s=true):s=[61,61]∨∃c,s=[c]∧signs.contains c=true:=by
 have H0:∀x∈sgs,x=[61,61]∨∃c∈signs,x=[c]:=by decide
 rcases H0 s (List.contains_iff_mem.1 h)with h | ⟨c,hc,e⟩
 ·exact .inl h
 ·exact .inr ⟨c,e,List.contains_iff_mem.2 hc⟩
theorem zsnZ {s:Bytes} {t:Tok} (h:Form s t.bare):oneR t=(s,true):=by
 obtain⟨p,k,u,n⟩:=t
 simp only[Tok.bare]at h
 generalize hb:(⟨0,k,u,n⟩:Tok)=b at h
 cases h with
 | name c s hc hs hl=>
  have hf:=Form.name c s hc hs hl
  injection hb with _ hk hu hn
  subst hk hu hn
  have ht:=zrnZ hf (by omega)
  unfold oneR nameOk
  rw[if_pos (by rcases zidZ (c::s)with h | h | h <;> rw[h] <;> simp)]
  simp[ht]
 | number c s hs hv hz=>
  injection hb with _ hk hu hn
  subst hk hu hn
  unfold oneR
  rw[if_neg (by simp),if_pos rfl,if_neg (by simp)]
  show(Lib.decDigits (value (c::s)),true)=_
  rw[zdxZ hs hz]
 | text v hv=>
  injection hb with _ hk hu hn
  subst hk hu hn
  unfold oneR
  rw[if_neg (by simp),if_neg (by simp),if_pos rfl,if_pos (by simpa using hv)]
  rfl
 | two=>
  injection hb with _ hk hu hn
  subst hk hu hn
  rfl
 | sign c hc=>
  injection hb with _ hk hu hn
  subst hk hu hn
  unfold oneR
  rw[if_neg (by simp),if_neg (by simp),if_neg (by simp),if_pos rfl,if_pos (zslZ c hc)]
  rfl
theorem zsoZ {t:Tok} (h1:t.n≤9223372036854775807) (h:(oneR t).2=true):Form (oneR t).1 t.bare:=by
 obtain⟨p,k,u,n⟩:=t
 unfold oneR at h ⊢
 simp only[Tok.bare]at *
 by_cases hk:k=1∨k=2∨k=3
 ·rw[if_pos hk]at h ⊢
  unfold nameOk at h
  simp only at h ⊢
  cases ht:toks u with
  | mk l o=>
   rw[ht]at h
   match l,o,h,ht with
   | [x],none,h,ht=>
    simp only[Bool.and_eq_true,beq_iff_eq]at h
    obtain⟨h2,h3,h4⟩:=h
    have H0:go (u.length+1) 0 0 u=([x],none):=by
     unfold toks at ht
     split at ht
     ·injection ht with _ h;cases h
     ·exact ht
    obtain⟨-,hp⟩:=zklZ _ _ _ _ _ H0 (by omega)
    obtain⟨hf,-⟩:=hp x (List.mem_singleton.2 rfl)
    obtain⟨q,k',u',n'⟩:=x
    simp only[Tok.bare]at *
    subst h2 h3 h4
    generalize hb:(⟨0,k',u',n'⟩:Tok)=b at hf
    generalize (written _).1=S at hf
    cases hf with
    | name c s hc hs hl=>
     injection hb with _ hk hu hn
     subst hk hu
     exact Form.name c s hc hs hl
    | number c s hs hv hz=>injection hb with _ hk' hu hn;omega
    | text v hv=>injection hb with _ hk' hu hn;omega
    | two=>injection hb with _ hk' hu hn;omega
    | sign c hc=>injection hb with _ hk' hu hn;omega
   | [],none,h,_=>cases h
   | _::_::_,none,h,_=>cases h
   | [],some _,h,_=>cases h
   | _::_,some _,h,_=>simp at h
 ·rw[if_neg hk]at h ⊢
  by_cases h4:k=4
  ·rw[if_pos h4]at h ⊢
   by_cases hn:n<0∨u≠[]
   ·rw[if_pos hn]at h;cases h
   ·rw[if_neg hn]at h ⊢
    have hu:u=[]:=by
     cases u with
     | nil=>rfl
     | cons a l=>exact absurd (.inr (by simp)) hn
    have H1:0≤n:=by
     rcases Int.lt_or_le n 0 with h | h
     ·exact absurd (.inl h) hn
     ·exact h
    subst hu h4
    obtain⟨c,s,e1,e2,e3,e4⟩:=zeeZ n.toNat
    have hf:=Form.number c s e2 (by omega) (fun h=>(e4 h).1)
    simp only
    rw[e1]
    rw[e3]at hf
    rw[show((n.toNat:Nat):Int)=n by omega]at hf
    exact hf
  ·rw[if_neg h4]at h ⊢
   by_cases h5:k=5
   ·rw[if_pos h5]at h ⊢
    by_cases ha:u.all saidB=true
    ·rw[if_pos ha]at h ⊢
     simp only[beq_iff_eq]at h
     subst h h5
     exact Form.text u (by simpa using ha)
    ·rw[if_neg ha]at h;cases h
   ·rw[if_neg h5]at h ⊢
    by_cases h6:k=6
    ·rw[if_pos h6]at h ⊢
     by_cases ha:sgs.contains u=true
     ·rw[if_pos ha]at h ⊢
      simp only[beq_iff_eq]at h
      subst h h6
      rcases zsmZ ha with rfl | ⟨c,rfl,hc⟩
      ·exact Form.two
      ·exact Form.sign c hc
     ·rw[if_neg ha]at h;cases h
    ·rw[if_neg h6]at h;cases h
theorem one_written {t:Tok} (h1:t.n≤9223372036854775807):(oneR t).2=(written t).2∧((written t).2=true→oneR t=written t):=by
 have hw:(written t).2=true→oneR t=written t:=fun h=>by
  have hf:=form_of_written h
  rw[zsnZ hf]
  exact Prod.ext rfl h.symm
 refine⟨?_,hw⟩
 cases h2:(written t).2 with
 | true=>rw[hw h2,h2]
 | false=>
  cases h:(oneR t).2 with
  | false=>rfl
  | true=>
   have:=written_of_form (zsoZ h1 h)
   rw[this]at h2
   cases h2
theorem zdjZ (p:Nat):∀(m:Nat) (l acc:Bytes) (k y x:Nat),l.length≤m→quoted p l acc k=.bad y x→y=12
 | m,[],acc,k,y,x,_,h=>by
  simp only[quoted]at h
  injection h with h1 h2
  exact h1.symm
 | 0,c::l,acc,k,y,x,hm,h=>by simp at hm
 | m+1,c::l,acc,k,y,x,hm,h=>by
  have H1:l.length≤m:=by simpa using hm
  by_cases e34:c=34
  ·subst e34;simp[quoted]at h
  ·by_cases e92:c=92
   ·subst e92
    cases l with
    | nil=>simp only[quoted]at h;injection h with h1 h2;exact h1.symm
    | cons d l=>
     have H0:l.length≤m:=by simp at H1;omega
     rw[zbqZ]at h
     split at h
     ·exact zdjZ p m l _ _ y x H0 h
     ·split at h
      ·exact zdjZ p m l _ _ y x H0 h
      ·injection h with h1 h2;exact h1.symm
   ·rw[zdzZ p c l acc k e34 e92]at h
    split at h
    ·injection h with h1 h2;exact h1.symm
    ·exact zdjZ p m l _ _ y x H1 h
theorem cut_why {p y x:Nat} {b:UInt8} {l:Bytes} (h:cut p (b::l)=.bad y x):y=2∨y=11∨y=12:=by
 simp only[cut]at h
 split at h
 ·simp only[cutName]at h
  split at h
  ·injection h with h1 h2;exact .inl h1.symm
  ·cases h
 ·split at h
  ·simp only[cutNumber]at h
   split at h
   ·injection h with h1 h2;exact .inr (.inl h1.symm)
   ·cases h
  ·split at h
   ·exact .inr (.inr (zdjZ p _ l _ _ y x (Nat.le_refl _) h))
   ·split at h <;> cases h
end Lx
end Go.Proofs.YtdncljdfmdgdaaaGreatDoor
namespace Go.Proofs.YtdncljdfmdgdaaaGreatDoor
open Go.RowKit Go.Shelf
theorem OwnT.toks {w:World} {base:Nat} {v:Value} {l:List Lx.Tok} (h:OwnT w base v l):ToksIn w v l:=by
 rcases h.2 with⟨rfl,hn⟩ | ⟨g,cap,cur,rfl,hbg,hgb,hcap,hcm,hcs,htk⟩
 ·exact .inl ⟨List.length_eq_zero_iff.1 hn,none,0,rfl⟩
 ·exact .inr ⟨g,cap,cur,(0,0),rfl,hgb,htk⟩
theorem TokAt.below {w w':World} {b o:Nat} {t:Lx.Tok} (h:TokAt w b o t) (hb:Below w.heap.size w w'):TokAt w' b o t:=by
 obtain⟨h0,h1,h2,h3,h4⟩:=h
 have hl:=World.block_lt_of_cell? w ⟨b,o,none⟩ h0
 have e:∀j,w'.cell? ⟨b,j,none⟩=w.cell? ⟨b,j,none⟩:=fun j=>World.cell?_of_block (hb.block b hl)
 exact⟨(e _).trans h0,(e _).trans h1,(e _).trans h2,(e _).trans h3,h4⟩
end Go.Proofs.YtdncljdfmdgdaaaGreatDoor
namespace Go.Proofs.YtdncljdfmdgdaaaGreatDoor
open Go.RowKit
def whyR (o:Option (Nat×Nat)):Int:=((o.map Prod.fst).getD 0:Nat)
def placeR (o:Option (Nat×Nat)):Int:=((o.map Prod.snd).getD 0:Nat)
theorem OwnT.slice {w:World} {base:Nat} {v:Value} {l:List Lx.Tok} (h:OwnT w base v l):∃A c,v=.slice A l.length c:=by
 rcases h.2 with⟨rfl,h0⟩ | ⟨g,cap,cur,rfl,_⟩
 ·exact⟨none,0,by rw[h0]⟩
 ·exact⟨_,cap,rfl⟩
theorem OwnT.base {w:World} {base:Nat} {v:Value} {l:List Lx.Tok} (h:OwnT w base v l) (k:Nat) (hk:v.ownBlock=some k):base≤k:=(World.ownsRow.lt h k hk).1
theorem OwnT.below {W W':World} {v:Value} {l:List Lx.Tok} {base:Nat} (h:OwnT W base v l) (hb:Below W.heap.size W W'):OwnT W' base v l:=
 World.ownsRow.kept h (zbfZ hb) (by cases v.ownBlock <;> simp)
section
variable {s:ByteArray} {p f i:Nat}
theorem zwlZ (hp:p≤s.size) (hf:s.size-p<f) (hq:skipAt s p=s.size):Lx.go f p i (s.data.toList.drop p)=([],none):=by
 obtain⟨g,rfl⟩:∃g,f=g+1:=⟨f-1,by omega⟩
 exact zuzZ hp hq
theorem zuqZ (hp:p≤s.size) (hf:s.size-p<f) (hq:skipAt s p<s.size) (hb:Lx.begins (s[skipAt s p]'hq)=false):Lx.go f p i (s.data.toList.drop p)=([],some (10,skipAt s p)):=by
 obtain⟨g,rfl⟩:∃g,f=g+1:=⟨f-1,by omega⟩
 exact ztcZ hp hq hb
theorem zurZ (hp:p≤s.size) (hf:s.size-p<f) (hq:skipAt s p<s.size) (hb:Lx.begins (s[skipAt s p]'hq)=true) (hi:i=4096):Lx.go f p i (s.data.toList.drop p)=([],some (3,skipAt s p)):=by
 obtain⟨g,rfl⟩:∃g,f=g+1:=⟨f-1,by omega⟩
 exact ztdZ hp hq hb hi
theorem zwmZ {y x:Nat} (hp:p≤s.size) (hf:s.size-p<f) (hq:skipAt s p<s.size) (hb:Lx.begins (s[skipAt s p]'hq)=true) (hi:i≠4096) (h:Lx.cut (skipAt s p) (s.data.toList.drop (skipAt s p))=.bad y x) :
  Lx.go f p i (s.data.toList.drop p)=([],some (y,x)):=by
 obtain⟨g,rfl⟩:∃g,f=g+1:=⟨f-1,by omega⟩
 exact zvaZ hp hq hb hi h
theorem tk_ok {t:Lx.Tok} {n:Nat} (hp:p≤s.size) (hf:s.size-p<f) (hq:skipAt s p<s.size) (hb:Lx.begins (s[skipAt s p]'hq)=true) (hi:i≠4096) (h:Lx.cut (skipAt s p) (s.data.toList.drop (skipAt s p))=.ok t n) :
  ∃g,s.size-(skipAt s p+n)<g∧Lx.go f p i (s.data.toList.drop p)=(t::(Lx.go g (skipAt s p+n) (i+1) (s.data.toList.drop (skipAt s p+n))).1,(Lx.go g (skipAt s p+n) (i+1) (s.data.toList.drop (skipAt s p+n))).2):=by
 obtain⟨g,rfl⟩:∃g,f=g+1:=⟨f-1,by omega⟩
 have h2:=zjyZ hq h
 have h3:=(zdmZ s p hp).1
 exact⟨g,by omega,go_ok hp hq hb hi h⟩
end
theorem zfuZ (s:ByteArray) (w:World) (hs:s.size≤140737488351232) :
  Calls Tryz.prog 138 #[.string s] w fun e w'=>∃v,e=.returned (.tuple #[v,.int .i64 (placeR (Lx.toks s.data.toList).2),.int .i64 (whyR (Lx.toks s.data.toList).2)])∧OwnT w' w.heap.size v (Lx.toks s.data.toList).1∧Below w.heap.size w w':=by
 have Hq:(s.size:Int)≤140737488351232:=by omega
 go_enter Tryz.func138, Tryz.ntmps138
 by_cases hbig:65536<s.size
 ·have Hk:(65536:Int)<(s.size:Int):=by omega
  have HR:=zh (show Lx.toks s.data.toList=([],some (2,0))by unfold Lx.toks;rw[if_pos (by rw[ziZ];exact hbig)])
  clear hbig
  go_wp2
  refine bodyPost_ret (results_tmp3 rfl _ _ _) rfl ?_
  rw[HR.o]
  exact⟨_,rfl,World.ownsRow_nil _ _ _ _,Below.refl _ _⟩
 ·have Hk:¬(65536:Int)<(s.size:Int):=by omega
  have HT:=zh (show Lx.toks s.data.toList=Lx.go (s.size+1) 0 0 s.data.toList by unfold Lx.toks;rw[if_neg (by rw[ziZ];exact hbig),ziZ])
  have Hf:=zmqZ s 0 w (Nat.zero_le _) hs
  clear hbig
  go_wp2_with (go_at_call 150;refine Hf.mono ?_;clear Hf;rintro e w' ⟨rfl,He⟩;rw[He];clear He)
  go_loopg [5,6] (s.size-skipAt s 0) (fun n r v wr=>∃(p f:Nat) (ts:List Lx.Tok),n=s.size-skipAt s p∧v=.int .i64 ((skipAt s p:Nat):Int)∧p≤s.size∧s.size-p<f∧ts.length≤4096∧OwnT wr w.heap.size r ts∧Below w.heap.size w wr∧
   Lx.toks s.data.toList=(ts++(Lx.go f p ts.length (s.data.toList.drop p)).1,(Lx.go f p ts.length (s.data.toList.drop p)).2))
  case atStart=>exact⟨0,s.size+1,[],rfl,rfl,Nat.zero_le _,by omega,by simp,World.ownsRow_nil _ _ _ _,Below.refl _ _,by rw[HT.o];rfl⟩
  case round=>
   obtain⟨p,f,ts,hn,rfl,hp,hf,hl,ho,hb,he⟩:=hrel
   obtain⟨A0,cap0,hv⟩:=ho.slice
   subst hv
   have HN:=zh hn
   have HO:=zh ho
   have HB:=zh hb
   have HE:=zh he
   have HF:=zh hf
   have HP:=zh hp
   have Hg:=zdmZ s p hp
   obtain⟨m,hm⟩:=zE (skipAt s p)
   rw[hm]at Hg HN ⊢
   have Hu:p≤m:=Hg.1
   have Ht:m≤s.size:=Hg.2.1
   have HM:=zh hm
   have m0:(0:Int)≤(m:Int):=by omega
   have Hs:(ts.length:Int)≤4096:=by omega
   clear hn ho hb he hf Hg hm
   by_cases hlt:m<s.size
   ·have hi:(m:Int)<(s.size:Int):=by omega
    have H7:=fun X=>zpoZ (s[m]'hlt) X
    have H1:=fun X=>zwkZ s m X hlt hs
    have HD:=zh (zlZ s m hlt)
    cases hbe:Lx.begins (s[m]'hlt)with
    | false=>
     have HR:=zh (show Lx.toks s.data.toList=(ts,some (10,m))by
      rw[HE.o,zuqZ HP.o HF.o (by rw[HM.o];exact hlt) (by simp only[HM.o];exact hbe),HM.o,List.append_nil])
     rw[hbe]at H7
     rw[HD.o,zlcZ hbe]at H1
     clear hbe
     by_cases h4:ts.length=4096
     ·have b4:((ts.length:Int)==4096)=true:=by simp;omega
      clear h4
      rw[show cutV m (.bad 10 m)=.agg #[.int .i64 0,.int .i64 0,.string ⟨#[]⟩,.int .i64 0,.int .i64 0,.int .i64 10,.int .i64 (m:Nat)]from rfl]at H1
      go_upto_region 9 with(first | (go_at_call 151;refine(H7 _).mono ?_;clear H7;rintro e Wb ⟨rfl,Hc⟩) | (go_at_call 152;refine(H1 _).mono ?_;clear H1;rintro e Wc ⟨rfl,Hb⟩;have H0:=Below.chain Hc Hb))
      have H4:=heap_alloc_new Wc (.cells #[.int .i64 0,.int .i64 0,.string ⟨#[]⟩,.int .i64 0,.int .i64 0,.int .i64 10,.int .i64 (m:Nat)] 193)
      have H3:OwnT (Wc.alloc (.cells #[.int .i64 0,.int .i64 0,.string ⟨#[]⟩,.int .i64 0,.int .i64 0,.int .i64 10,.int .i64 (m:Nat)] 193)) w.heap.size (.slice A0 ts.length cap0) ts:=World.ownsRow.alloc (HO.o.below H0) _
      have H2:Below w.heap.size w (Wc.alloc (.cells #[.int .i64 0,.int .i64 0,.string ⟨#[]⟩,.int .i64 0,.int .i64 0,.int .i64 10,.int .i64 (m:Nat)] 193)):=BAlloc (Below.chain HB.o H0)
      have Ha:∀r,(Value.slice A0 ts.length cap0).ownBlock=some r→r≠Wc.heap.size:=fun r e=>by have:=(World.ownsRow.lt HO.o r e).2;have:=H0.size;omega
      obtain⟨L,hL⟩:=zE (Wc.heap.size)
      rw[hL]at Ha
      obtain⟨W5,hW5⟩:=zE (Wc.alloc (.cells #[.int .i64 0,.int .i64 0,.string ⟨#[]⟩,.int .i64 0,.int .i64 0,.int .i64 10,.int .i64 (m:Nat)] 193))
      rw[hL,hW5]at H4
      rw[hW5]at H3 H2
      rw[hL,hW5]
      obtain⟨⟨p0,p1,p2,p3,p4,p5,p6⟩,-,hl0⟩:=zfZ H4
      have H8:=zh H3
      have H9:=zh H2
      clear H4 H3 H2 hL hW5 H0
      go_wp2_with fail
      go_quiet (fail)
      go_wp2_with fail
      refine bodyPost_ret (results_tmp3 rfl _ _ _) rfl ?_
      rw[HR.o]
      exact⟨_,rfl,(show OwnT (World.drewN _ _) _ _ _ from H8.o),Below.drewN H9.o _⟩
     ·have b4:((ts.length:Int)==4096)=false:=by simp;omega
      clear h4
      rw[show cutV m (.bad 10 m)=.agg #[.int .i64 0,.int .i64 0,.string ⟨#[]⟩,.int .i64 0,.int .i64 0,.int .i64 10,.int .i64 (m:Nat)]from rfl]at H1
      go_upto_region 9 with(first | (go_at_call 151;refine(H7 _).mono ?_;clear H7;rintro e Wb ⟨rfl,Hc⟩) | (go_at_call 152;refine(H1 _).mono ?_;clear H1;rintro e Wc ⟨rfl,Hb⟩;have H0:=Hb))
      have H4:=heap_alloc_new Wc (.cells #[.int .i64 0,.int .i64 0,.string ⟨#[]⟩,.int .i64 0,.int .i64 0,.int .i64 10,.int .i64 (m:Nat)] 193)
      have H3:OwnT (Wc.alloc (.cells #[.int .i64 0,.int .i64 0,.string ⟨#[]⟩,.int .i64 0,.int .i64 0,.int .i64 10,.int .i64 (m:Nat)] 193)) w.heap.size (.slice A0 ts.length cap0) ts:=World.ownsRow.alloc (HO.o.below H0) _
      have H2:Below w.heap.size w (Wc.alloc (.cells #[.int .i64 0,.int .i64 0,.string ⟨#[]⟩,.int .i64 0,.int .i64 0,.int .i64 10,.int .i64 (m:Nat)] 193)):=BAlloc (Below.chain HB.o H0)
      have Ha:∀r,(Value.slice A0 ts.length cap0).ownBlock=some r→r≠Wc.heap.size:=fun r e=>by have:=(World.ownsRow.lt HO.o r e).2;have:=H0.size;omega
      obtain⟨L,hL⟩:=zE (Wc.heap.size)
      rw[hL]at Ha
      obtain⟨W5,hW5⟩:=zE (Wc.alloc (.cells #[.int .i64 0,.int .i64 0,.string ⟨#[]⟩,.int .i64 0,.int .i64 0,.int .i64 10,.int .i64 (m:Nat)] 193))
      rw[hL,hW5]at H4
      rw[hW5]at H3 H2
      rw[hL,hW5]
      obtain⟨⟨p0,p1,p2,p3,p4,p5,p6⟩,-,hl0⟩:=zfZ H4
      have H8:=zh H3
      have H9:=zh H2
      clear H4 H3 H2 hL hW5 H0
      go_wp2_with fail
      go_quiet (fail)
      go_wp2_with fail
      refine bodyPost_ret (results_tmp3 rfl _ _ _) rfl ?_
      rw[HR.o]
      exact⟨_,rfl,(show OwnT (World.drewN _ _) _ _ _ from H8.o),Below.drewN H9.o _⟩
    | true=>
     rw[hbe]at H7
     by_cases h4:ts.length=4096
     ·have b4:((ts.length:Int)==4096)=true:=by simp;omega
      have HR:=zh (show Lx.toks s.data.toList=(ts,some (3,m))by
       rw[HE.o,zurZ HP.o HF.o (by rw[HM.o];exact hlt) (by simp only[HM.o];exact hbe) h4,HM.o,List.append_nil])
      clear h4 hbe
      go_wp2_with (first | (go_at_call 151;refine(H7 _).mono ?_;clear H7;rintro e Wb ⟨rfl,Hc⟩))
      refine bodyPost_ret (results_tmp3 rfl _ _ _) rfl ?_
      rw[HR.o]
      exact⟨_,rfl,HO.o.below Hc,Below.chain HB.o Hc⟩
     ·have b4:((ts.length:Int)==4096)=false:=by simp;omega
      rw[HD.o,zbwZ hbe,←HD.o]at H1
      cases hcut:Lx.cut m (s.data.toList.drop m)with
      | bad y x=>
       have HR:=zh (show Lx.toks s.data.toList=(ts,some (y,x))by
        rw[HE.o,zwmZ HP.o HF.o (by rw[HM.o];exact hlt) (by simp only[HM.o];exact hbe) h4 (by rw[HM.o];exact hcut),List.append_nil])
       have hy:=Lx.cut_why (by rw[←HD.o];exact hcut)
       have Hv:((y:Int) != 0)=true:=by simp;omega
       rw[hcut]at H1
       clear hy h4 hcut hbe
       rw[show cutV m (.bad y x)=.agg #[.int .i64 0,.int .i64 0,.string ⟨#[]⟩,.int .i64 0,.int .i64 0,.int .i64 (y:Nat),.int .i64 (x:Nat)]from rfl]at H1
       go_upto_region 9 with(first | (go_at_call 151;refine(H7 _).mono ?_;clear H7;rintro e Wb ⟨rfl,Hc⟩) | (go_at_call 152;refine(H1 _).mono ?_;clear H1;rintro e Wc ⟨rfl,Hb⟩;have H0:=Hb))
       have H4:=heap_alloc_new Wc (.cells #[.int .i64 0,.int .i64 0,.string ⟨#[]⟩,.int .i64 0,.int .i64 0,.int .i64 (y:Nat),.int .i64 (x:Nat)] 193)
       have H3:OwnT (Wc.alloc (.cells #[.int .i64 0,.int .i64 0,.string ⟨#[]⟩,.int .i64 0,.int .i64 0,.int .i64 (y:Nat),.int .i64 (x:Nat)] 193)) w.heap.size (.slice A0 ts.length cap0) ts:=World.ownsRow.alloc (HO.o.below H0) _
       have H2:Below w.heap.size w (Wc.alloc (.cells #[.int .i64 0,.int .i64 0,.string ⟨#[]⟩,.int .i64 0,.int .i64 0,.int .i64 (y:Nat),.int .i64 (x:Nat)] 193)):=BAlloc (Below.chain HB.o H0)
       have Ha:∀r,(Value.slice A0 ts.length cap0).ownBlock=some r→r≠Wc.heap.size:=fun r e=>by have:=(World.ownsRow.lt HO.o r e).2;have:=H0.size;omega
       obtain⟨L,hL⟩:=zE (Wc.heap.size)
       rw[hL]at Ha
       obtain⟨W5,hW5⟩:=zE (Wc.alloc (.cells #[.int .i64 0,.int .i64 0,.string ⟨#[]⟩,.int .i64 0,.int .i64 0,.int .i64 (y:Nat),.int .i64 (x:Nat)] 193))
       rw[hL,hW5]at H4
       rw[hW5]at H3 H2
       rw[hL,hW5]
       obtain⟨⟨p0,p1,p2,p3,p4,p5,p6⟩,-,hl0⟩:=zfZ H4
       have H8:=zh H3
       have H9:=zh H2
       clear H4 H3 H2 hL hW5 H0
       go_wp2_with fail
       go_quiet (fail)
       go_wp2_with fail
       refine bodyPost_ret (results_tmp3 rfl _ _ _) rfl ?_
       rw[HR.o]
       exact⟨_,rfl,(show OwnT (World.drewN _ _) _ _ _ from H8.o),Below.drewN H9.o _⟩
      | ok t n=>
       obtain⟨g,hg1,hg2⟩:=tk_ok (s:=s) (p:=p) (f:=f) (i:=ts.length) HP.o HF.o (by rw[HM.o];exact hlt) (by simp only[HM.o];exact hbe) h4 (by rw[HM.o];exact hcut)
       rw[HM.o]at hg1 hg2
       have Hd:=zjyZ hlt hcut
       have Hi:=zh hg1
       have HR:=zh (show Lx.toks s.data.toList=((ts++[t])++(Lx.go g (m+n) (ts++[t]).length (s.data.toList.drop (m+n))).1,(Lx.go g (m+n) (ts++[t]).length (s.data.toList.drop (m+n))).2)by
        rw[HE.o,hg2,List.length_append,List.append_assoc]
        rfl)
       have Hp:ts.length+1≤4096:=by omega
       have H6:=zh Hd
       rw[hcut]at H1
       rw[show cutV m (.ok t n)=.agg #[.int .i64 t.pos,.int .i64 t.kind,.string ⟨t.s.toArray⟩,.int .i64 t.n,.int .i64 ((m+n:Nat):Int),.int .i64 0,.int .i64 0]from rfl]at H1
       obtain⟨q,hq⟩:=zE (m+n)
       rw[hq]at H1 Hi HR H6
       have Hf:=fun X=>zmqZ s q X H6.o.2 hs
       have Hj:=(zdmZ s q H6.o.2).1
       have HQ:=zh hq
       have Hl:Hid (m<q):=zh (by have:=H6.o.1;omega)
       clear hg1 hg2 Hd h4 hcut hbe hq
       go_upto_region 9 with(first | (go_at_call 151;refine(H7 _).mono ?_;clear H7;rintro e Wb ⟨rfl,Hc⟩) | (go_at_call 152;refine(H1 _).mono ?_;clear H1;rintro e Wc ⟨rfl,Hb⟩;have H0:=Hb))
       have H4:=heap_alloc_new Wc (.cells #[.int .i64 t.pos,.int .i64 t.kind,.string ⟨t.s.toArray⟩,.int .i64 t.n,.int .i64 (q:Nat),.int .i64 0,.int .i64 0] 193)
       have H3:OwnT (Wc.alloc (.cells #[.int .i64 t.pos,.int .i64 t.kind,.string ⟨t.s.toArray⟩,.int .i64 t.n,.int .i64 (q:Nat),.int .i64 0,.int .i64 0] 193)) w.heap.size (.slice A0 ts.length cap0) ts:=World.ownsRow.alloc (HO.o.below H0) _
       have H2:Below w.heap.size w (Wc.alloc (.cells #[.int .i64 t.pos,.int .i64 t.kind,.string ⟨t.s.toArray⟩,.int .i64 t.n,.int .i64 (q:Nat),.int .i64 0,.int .i64 0] 193)):=BAlloc (Below.chain HB.o H0)
       have Ha:∀r,(Value.slice A0 ts.length cap0).ownBlock=some r→r≠Wc.heap.size:=fun r e=>by have:=(World.ownsRow.lt HO.o r e).2;have:=H0.size;omega
       obtain⟨L,hL⟩:=zE (Wc.heap.size)
       rw[hL]at Ha
       obtain⟨W5,hW5⟩:=zE (Wc.alloc (.cells #[.int .i64 t.pos,.int .i64 t.kind,.string ⟨t.s.toArray⟩,.int .i64 t.n,.int .i64 (q:Nat),.int .i64 0,.int .i64 0] 193))
       rw[hL,hW5]at H4
       rw[hW5]at H3 H2
       rw[hL,hW5]
       obtain⟨⟨p0,p1,p2,p3,p4,p5,p6⟩,-,hl0⟩:=zfZ H4
       have H8:=zh H3
       have H9:=zh H2
       clear H4 H3 H2 hL hW5 H0
       have Hm:W5.ownsRow w.heap.size 133 4 (.slice A0 ts.length cap0) ts.length (ts.flatMap cellsT):=H8.o
       have hW:=H9.o
       have hWsz:=H9.o.size
       obtain⟨i0,hi',hz0,hz1,hz2⟩:=info_parts ztfZ
       go_wp2_with (first
        | (at_builtin;refine wpList_append_own _ rfl _ _ 73 rfl w.heap.size 133 i0 _ 4 40 Tryz.underlying73 hi' hz0 hz1 hz2 rfl (by decide) _ _ _ rfl (Hm.alloc _) ⟨W5.heap.size,0,none⟩ 1 1 (cellsT t) rfl rfl (znzZ _ _ _) (by simp[cellsT,Value.oneCell']) (by unfold maxLen;omega) (by omega) (by simp;omega) ?_;intro v' w1 hown' H5 _;have Hh:=(H5.block L (Nat.lt_of_lt_of_le hl0 (by simp)) (fun e=>Ha L e.symm rfl)).trans ((World.grownBy_alloc W5 _ none).block L hl0 (by simp));have p4':=(World.cell?_of_block (a:=⟨L,4,none⟩) Hh).trans p4;have Hr:L<w1.heap.size:=Nat.lt_of_lt_of_le hl0 (Nat.le_trans (by simp) H5.size);have Ho:=zh hown';have Hn:=zh (Below.turn (hW.alloc hWsz _) H5 (fun r e=>OwnT.base H8.o r e));clear hown' H5 Hh)
        | (go_at_call 150;refine(Hf _).mono ?_;clear Hf;rintro e w' ⟨rfl,He⟩;rw[He];clear He))
       go_roundg (s.size-skipAt s q)
       case measure=>have:=HN.o;have:=Hl.o;have:=H6.o;omega
       case rel=>
        refine⟨q,g,ts++[t],rfl,rfl,H6.o.2,Hi.o,by rw[List.length_append];exact Hp,?_,Hn.o,HR.o⟩
        unfold OwnT
        rw[List.length_append,List.flatMap_append]
        simpa using Ho.o
   ·have hi:¬(m:Int)<(s.size:Int):=by omega
    have HR:=zh (show Lx.toks s.data.toList=(ts,none)by
     rw[HE.o,zwlZ HP.o HF.o (by rw[HM.o];omega),List.append_nil])
    go_wp2
    refine bodyPost_ret (results_tmp3 rfl _ _ _) rfl ?_
    rw[HR.o]
    exact⟨_,rfl,HO.o,HB.o⟩
end Go.Proofs.YtdncljdfmdgdaaaGreatDoor
