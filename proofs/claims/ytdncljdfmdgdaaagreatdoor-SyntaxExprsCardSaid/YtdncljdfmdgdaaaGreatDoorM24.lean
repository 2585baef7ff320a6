/-
  Plain laws: what text a token has, and that a cut looks no further than its token. No program in sight.
-/
import Derived.Test.YtdncljdfmdgdaaaGreatDoorM1
import Derived.Test.YtdncljdfmdgdaaaGreatDoorM8
set_option linter.unusedSimpArgs false
set_option linter.unusedVariables false
namespace Go.Proofs.YtdncljdfmdgdaaaGreatDoor.Lx
open Go
/-! ### quoted, case by case -/
theorem zbqZ (p:Nat) (c:UInt8) (t acc:Bytes) (k:Nat):quoted p (92::c::t) acc k=(if c.toNat==110 then quoted p t (acc++[10]) (k+2)else if c.toNat==34||c.toNat==92 then quoted p t (acc++[c]) (k+2)else .bad 12 (p+k+1)):=rfl
theorem zdzZ (p:Nat) (c:UInt8) (t acc:Bytes) (k:Nat) (e34:c≠34) (e92:c≠92):quoted p (c::t) acc k=(if c.toNat<32||126<c.toNat then Res.bad 12 (p+k)else quoted p t (acc++[c]) (k+1)):=by
 rw[quoted.eq_def]
 split
 ·cases ‹_::_=[]›
 ·rename_i h1;injection h1 with h1 h2;exact absurd h1 e34
 ·rename_i h1;injection h1 with h1 h2;exact absurd h1 e92
 ·rename_i h1;injection h1 with h1 h2;exact absurd h1 e92
 ·rename_i h1;injection h1 with h1 h2;subst h1;subst h2;rfl
def saidB (c:UInt8):Bool:=c.toNat==10||(decide (32≤c.toNat)&&decide (c.toNat≤126))
theorem quoteIn_cons' (c:UInt8) (t:Bytes):quoteIn (c::t)=(if c.toNat==10 then [92,110]else if c.toNat==34||c.toNat==92 then [92,c]else [c])++quoteIn t:=rfl
theorem u8ne {c:UInt8} {d:UInt8} : (c.toNat==d.toNat)=(c==d):=by
 rw[Bool.eq_iff_iff];simp[UInt8.toNat_inj]
theorem zcwZ (p:Nat) (t:Tok) (n:Nat):∀(m:Nat) (l acc:Bytes) (k:Nat),l.length≤m→quoted p l acc k=.ok t n→
  ∃u x,l=quoteIn u++34::x∧(∀c∈u,saidB c=true)∧t=⟨p,5,acc++u,0⟩∧n=k+(quoteIn u).length+1
 | m,[],acc,k,hm,h=>by simp[quoted]at h
 | 0,c::t',acc,k,hm,h=>by simp at hm
 | m+1,c::t',acc,k,hm,h=>by
  have H4:t'.length≤m:=by simpa using hm
  by_cases e34:c=34
  ·subst e34
   simp[quoted]at h
   exact⟨[],t',by simp[quoteIn],by simp,by simp[h.1],by simp[quoteIn,h.2]⟩
  ·by_cases e92:c=92
   ·subst e92
    cases t' with
    | nil=>simp[quoted]at h
    | cons d t''=>
     have H3:t''.length≤m:=by simp at H4;omega
     rw[zbqZ]at h
     split at h
     ·rename_i hd
      obtain⟨u,x,e1,e2,e3,e4⟩:=zcwZ p t n m t'' _ _ H3 h
      have H5:d=110:=UInt8.toNat_inj.1 (by simpa using hd)
      subst H5
      refine⟨10::u,x,?_,?_,?_,?_⟩
      ·rw[quoteIn_cons',e1];simp
      ·intro c hc
       rcases List.mem_cons.1 hc with rfl | hc
       ·rfl
       ·exact e2 c hc
      ·rw[e3];simp
      ·rw[quoteIn_cons',e4];simp;omega
     ·split at h
      ·rename_i hn hd
       obtain⟨u,x,e1,e2,e3,e4⟩:=zcwZ p t n m t'' _ _ H3 h
       have H0:(d.toNat==10)=false:=by
        simp only[Bool.or_eq_true,beq_iff_eq]at hd
        simp
        omega
       refine⟨d::u,x,?_,?_,?_,?_⟩
       ·rw[quoteIn_cons',e1,H0,hd];simp
       ·intro c hc
        rcases List.mem_cons.1 hc with rfl | hc
        ·simp only[Bool.or_eq_true,beq_iff_eq]at hd
         unfold saidB
         rcases hd with hd | hd <;> rw[hd] <;> rfl
        ·exact e2 c hc
       ·rw[e3];simp
       ·rw[quoteIn_cons',e4,H0,hd];simp;omega
      ·cases h
   ·rw[zdzZ p c t' acc k e34 e92]at h
    split at h
    ·cases h
    ·rename_i hc0
     obtain⟨u,x,e1,e2,e3,e4⟩:=zcwZ p t n m t' _ _ H4 h
     have H1:(c.toNat==34)=false:=by
      have:=@u8ne c 34
      rw[show(34:UInt8).toNat=34 from rfl]at this
      rw[this];simpa using e34
     have H2:(c.toNat==92)=false:=by
      have:=@u8ne c 92
      rw[show(92:UInt8).toNat=92 from rfl]at this
      rw[this];simpa using e92
     have hr:32≤c.toNat∧c.toNat≤126:=by
      simp only[Bool.or_eq_true,decide_eq_true_eq]at hc0
      omega
     have H0:(c.toNat==10)=false:=by simp;omega
     refine⟨c::u,x,?_,?_,?_,?_⟩
     ·rw[quoteIn_cons',e1,H0,H1,H2];simp
     ·intro d hd
      rcases List.mem_cons.1 hd with rfl | hd
      ·unfold saidB;simp[hr]
      ·exact e2 d hd
     ·rw[e3];simp
     ·rw[quoteIn_cons',e4,H0,H1,H2];simp;omega
theorem zcxZ (p:Nat) (x:Bytes):∀(u acc:Bytes) (k:Nat),(∀c∈u,saidB c=true)→quoted p (quoteIn u++34::x) acc k=.ok ⟨p,5,acc++u,0⟩ (k+(quoteIn u).length+1)
 | [],acc,k,_=>by simp[quoteIn,quoted]
 | c::u,acc,k,h=>by
  have hc:=h c (List.mem_cons_self ..)
  have hu:∀c∈u,saidB c=true:=fun d hd=>h d (List.mem_cons_of_mem _ hd)
  rw[quoteIn_cons']
  by_cases h10:(c.toNat==10)=true
  ·have H0:c=10:=UInt8.toNat_inj.1 (by simpa using h10)
   subst H0
   show quoted p (92::110::(quoteIn u++34::x)) acc k=_
   rw[zbqZ,if_pos (by rfl),zcxZ p x u _ _ hu]
   congr 1
   ·simp
   ·simp;omega
  ·rw[if_neg h10]
   by_cases hq:(c.toNat==34||c.toNat==92)=true
   ·rw[if_pos hq]
    show quoted p (92::c::(quoteIn u++34::x)) acc k=_
    have hn:¬(c.toNat==110)=true:=by
     simp only[Bool.or_eq_true,beq_iff_eq]at hq ⊢
     omega
    rw[zbqZ,if_neg hn,if_pos hq,zcxZ p x u _ _ hu]
    congr 1
    ·simp
    ·simp;omega
   ·rw[if_neg hq]
    have e34:c≠34:=by rintro rfl;exact hq rfl
    have e92:c≠92:=by rintro rfl;exact hq rfl
    show quoted p (c::(quoteIn u++34::x)) acc k=_
    have hr:¬(decide (c.toNat<32)||decide (126<c.toNat))=true:=by
     unfold saidB at hc
     simp only[Bool.or_eq_true,Bool.and_eq_true,decide_eq_true_eq]at hc ⊢
     rcases hc with hc | hc
     ·exact absurd hc h10
     ·omega
    rw[zdzZ p c _ acc k e34 e92,if_neg hr,zcxZ p x u _ _ hu]
    congr 1
    ·simp
    ·simp;omega
/-! ### a token's text -/
def Tok.bare (t:Tok):Tok:={ t with pos:=0 }
inductive Form:Bytes→Tok→Prop
 | name (c:UInt8) (s:Bytes) (hc:letter c=true) (hs:∀d∈c::s,within d=true) (hl:(c::s).length≤32):Form (c::s) ⟨0,nameKind (c::s),c::s,0⟩
 | number (c:UInt8) (s:Bytes) (hs:∀d∈c::s,digit d=true) (hv:value (c::s)≤9223372036854775807) (hz:c=48→s=[]):Form (c::s) ⟨0,4,[],value (c::s)⟩
 | text (u:Bytes) (hu:∀c∈u,saidB c=true):Form (quote u) ⟨0,5,u,0⟩
 | two:Form [61,61] ⟨0,6,[61,61],0⟩
 | sign (c:UInt8) (hc:signs.contains c=true):Form [c] ⟨0,6,[c],0⟩
def Sep (x:Bytes):Prop:=∀c,x.head? =some c→within c=false∧c≠61
def After (s x:Bytes) (t:Tok):Prop:=(t.kind≠5→t.kind≠6→∀c,x.head? =some c→within c=false)∧(s=[61]→x.head? ≠some 61)
theorem Sep.after {x:Bytes} (h:Sep x) (s:Bytes) (t:Tok):After s x t:=⟨fun _ _ c hc=>(h c hc).1,fun _ hc=>(h 61 hc).2 rfl⟩
theorem zmiZ:Sep []:=fun c h=>by cases h
theorem zdfZ (f:UInt8→Bool):∀(s x:Bytes),(∀c∈s,f c=true)→(∀c,x.head? =some c→f c=false)→(s++x).takeWhile f=s
 | [],x,_,h=>by
  cases x with
  | nil=>rfl
  | cons c x=>simp[List.takeWhile_cons,h c rfl]
 | a::s,x,hs,h=>by
  simp[List.takeWhile_cons,hs a (List.mem_cons_self ..),zdfZ f s x (fun c hc=>hs c (List.mem_cons_of_mem _ hc)) h]
theorem zclZ (f:UInt8→Bool):∀(l:Bytes),∃x,l=l.takeWhile f++x∧(∀c∈l.takeWhile f,f c=true)∧(∀c,x.head? =some c→f c=false)
 | []=>⟨[],rfl,by simp,by simp⟩
 | a::l=>by
  by_cases ha:f a=true
  ·obtain⟨x,e1,e2,e3⟩:=zclZ f l
   refine⟨x,?_,?_,e3⟩
   ·rw[List.takeWhile_cons,if_pos ha,List.cons_append,←e1]
   ·rw[List.takeWhile_cons,if_pos ha]
    intro c hc
    rcases List.mem_cons.1 hc with rfl | hc
    ·exact ha
    ·exact e2 c hc
  ·refine⟨a::l,by rw[List.takeWhile_cons,if_neg ha];rfl,by rw[List.takeWhile_cons,if_neg ha];simp,?_⟩
   intro c hc
   injection hc with hc
   subst hc
   simpa using ha
theorem zjcZ {c:UInt8} (h:letter c=true):within c=true:=by simp[within,h]
theorem zgpZ {c:UInt8} (h:letter c=true):digit c=false:=by
 simp only[letter,small,great,digit,Bool.or_eq_true,Bool.and_eq_true,decide_eq_true_eq]at *
 simp
 omega
theorem zgqZ {c:UInt8} (h:digit c=true):letter c=false:=by
 rw[←Bool.not_eq_true]
 intro h'
 rw[zgpZ h']at h
 cases h
theorem zepZ {c:UInt8} (h:signs.contains c=true):letter c=false∧digit c=false∧(c.toNat==34)=false∧c≠47∧blank c=false:=by
 have:c=40∨c=41∨c=123∨c=125∨c=59∨c=58∨c=44∨c=46∨c=61∨c=60∨c=43∨c=45∨c=42:=by simpa[signs]using h
 rcases this with rfl | rfl | rfl | rfl | rfl | rfl | rfl | rfl | rfl | rfl | rfl | rfl | rfl <;> decide
theorem zkiZ {s x:Bytes} {t:Tok} (h:Form s t) (ha:After s x t) (p:Nat):cut p (s++x)=.ok { t with pos:=p } s.length:=by
 cases h with
 | name c s hc hs hl=>
  have hk:nameKind (c::s)≠5∧nameKind (c::s)≠6:=by
   unfold nameKind
   split
   ·decide
   ·split <;> decide
  have ht:=zdfZ within (c::s) x hs (ha.1 (by have:=hk.1;show((nameKind (c::s):Nat):Int)≠5;omega) (by have:=hk.2;show((nameKind (c::s):Nat):Int)≠6;omega))
  show cut p (c::(s++x))=_
  simp only[cut,hc,if_true,cutName]
  rw[show c::(s++x)=(c::s)++x from rfl,ht]
  rw[if_neg (by omega)]
 | number c s hs hv hz=>
  have hd:=hs c (List.mem_cons_self ..)
  have hx:=ha.1 (by simp) (by simp)
  have ht:=zdfZ digit (c::s) x hs (fun d hd'=>by
   have:=hx d hd'
   simp only[within,Bool.or_eq_false_iff]at this
   exact this.1.2)
  show cut p (c::(s++x))=_
  simp only[cut,zgqZ hd,hd,if_true,cutNumber,Bool.false_eq_true,if_false]
  rw[show c::(s++x)=(c::s)++x from rfl,ht]
  rw[if_neg]
  simp only[List.drop_left,Bool.or_eq_true,not_or,Bool.and_eq_true,decide_eq_true_eq]
  refine⟨⟨by omega,?_⟩,?_⟩
  ·rintro⟨h1,h2⟩
   have:c=48:=by simpa using h1
   rw[hz this]at h2
   simp at h2
  ·cases hx':x.head? with
   | none=>simp
   | some d=>simp[hx d hx']
 | text u hu=>
  show cut p (34::(quoteIn u++[34]++x))=_
  have:cut p (34::(quoteIn u++[34]++x))=quoted p (quoteIn u++[34]++x) [] 1:=rfl
  rw[this,show quoteIn u++[34]++x=quoteIn u++34::x by simp,zcxZ p x u [] 1 hu]
  simp[quote]
  omega
 | two=>rfl
 | sign c hc=>
  obtain⟨h1,h2,h3,-⟩:=zepZ hc
  show cut p (c::x)=_
  simp only[cut,h1,h2,h3,Bool.false_eq_true,if_false]
  rw[if_neg]
  ·rfl
  ·simp only[Bool.and_eq_true,beq_iff_eq,not_and]
   intro H0
   have:c=61:=UInt8.toNat_inj.1 H0
   subst this
   exact ha.2 rfl
theorem zkjZ {p:Nat} {l:Bytes} {t:Tok} {n:Nat} (hb:∀c,l.head? =some c→begins c=true) (h:cut p l=.ok t n) :
  ∃s x,l=s++x∧s.length=n∧Form s t.bare∧After s x t.bare∧t={ t.bare with pos:=p } :=by
 cases l with
 | nil=>simp[cut]at h
 | cons b l=>
  have H2:=hb b rfl
  simp only[cut]at h
  split at h
  ·rename_i hl
   unfold cutName at h
   simp only at h
   obtain⟨x,e1,e2,e3⟩:=zclZ within (b::l)
   have H0:(b::l).takeWhile within=b::l.takeWhile within:=by rw[List.takeWhile_cons,if_pos (zjcZ hl)]
   rw[H0]at e1 e2 h
   split at h
   ·cases h
   ·rename_i hle
    injection h with h1 h2
    subst h1
    exact⟨_,x,e1,h2,.name b _ hl e2 (by omega),⟨fun _ _=>e3,fun h61 hx=>by
     injection h61 with h61 _
     subst h61
     cases hl⟩,rfl⟩
  ·rename_i hl
   split at h
   ·rename_i hd
    unfold cutNumber at h
    simp only at h
    obtain⟨x,e1,e2,e3⟩:=zclZ digit (b::l)
    have H0:(b::l).takeWhile digit=b::l.takeWhile digit:=by rw[List.takeWhile_cons,if_pos hd]
    rw[H0]at e1 e2 h
    split at h
    ·cases h
    ·rename_i hno
     injection h with h1 h2
     subst h1
     simp only[Bool.or_eq_true,not_or,Bool.and_eq_true,decide_eq_true_eq]at hno
     obtain⟨⟨hv,hz⟩,hw⟩:=hno
     have H1:(b::l).drop (b::l.takeWhile digit).length=x:=by
      conv=>lhs;rw[e1]
      rw[List.drop_left]
     rw[H1]at hw
     refine⟨_,x,e1,h2,.number b _ e2 (by omega) ?_,⟨fun _ _ c hc=>?_,fun h61 hx=>?_⟩,rfl⟩
     ·intro H5
      subst H5
      cases hts:l.takeWhile digit with
      | nil=>rfl
      | cons=>exact absurd ⟨rfl,by rw[hts];simp⟩ hz
     ·rw[hc]at hw
      simpa using hw
     ·injection h61 with h61 _
      subst h61
      cases hd
   ·rename_i hd
    split at h
    ·rename_i h34
     have H4:b=34:=UInt8.toNat_inj.1 (by simpa using h34)
     subst H4
     obtain⟨u,x,e1,e2,e3,e4⟩:=zcwZ p t n _ l [] 1 (Nat.le_refl _) h
     refine⟨quote u,x,?_,?_,?_,?_,?_⟩
     ·rw[e1];simp[quote]
     ·rw[e4];simp[quote];omega
     ·rw[e3];exact .text u e2
     ·refine⟨fun h5=>absurd (by rw[e3];rfl) h5,fun h61=>?_⟩
      injection h61 with h61 _
      cases h61
     ·rw[e3];rfl
    ·rename_i h34
     have H6:signs.contains b=true:=by
      unfold begins at H2
      simp only[Bool.or_eq_true]at H2
      rcases H2 with((h | h) | h) | h
      ·exact absurd h hl
      ·exact absurd h hd
      ·exact absurd h h34
      ·exact h
     split at h
     ·rename_i h61
      injection h with h1 h2
      subst h1
      simp only[Bool.and_eq_true,beq_iff_eq]at h61
      have H3:b=61:=UInt8.toNat_inj.1 h61.1
      subst H3
      cases l with
      | nil=>cases h61.2
      | cons d l=>
       have:d=61:=by simpa using h61.2
       subst this
       exact⟨[61,61],l,rfl,h2,.two,⟨fun _ h6=>absurd rfl h6,fun he=>by cases he⟩,rfl⟩
     ·rename_i h61
      injection h with h1 h2
      subst h1
      refine⟨[b],l,rfl,h2,.sign b H6,⟨fun _ h6=>absurd rfl h6,fun he hx=>?_⟩,rfl⟩
      injection he with he
      subst he
      exact h61 (by simp[hx])
/-! ### decimal digits -/
theorem decDigits_step (u:Nat) (h:10≤u):Lib.decDigits u=Lib.decDigits (u / 10)++[UInt8.ofNat (48+u % 10)]:=by
 conv=>lhs;rw[Lib.decDigits,dif_neg (by omega)]
theorem zhjZ {c:UInt8} (h:digit c=true):UInt8.ofNat (48+(c.toNat-48))=c:=by
 simp only[digit,Bool.and_eq_true,decide_eq_true_eq]at h
 rw[show 48+(c.toNat-48)=c.toNat by omega]
 exact UInt8.ofNat_toNat
theorem zedZ:∀(l:Bytes) (v:Nat),1≤v→(∀c∈l,digit c=true)→Lib.decDigits (l.foldl (fun v c=>v * 10+(c.toNat-48)) v)=Lib.decDigits v++l
 | [],v,_,_=>by simp
 | c::l,v,hv,hl=>by
  have hc:=hl c (List.mem_cons_self ..)
  have H0:=hc
  simp only[digit,Bool.and_eq_true,decide_eq_true_eq]at H0
  rw[List.foldl_cons,zedZ l _ (by omega) (fun d hd=>hl d (List.mem_cons_of_mem _ hd)),decDigits_step _ (by omega)]
  rw[show(v * 10+(c.toNat-48)) / 10=v by omega,show(v * 10+(c.toNat-48)) % 10=c.toNat-48 by omega,zhjZ hc]
  simp
theorem zdxZ {c:UInt8} {s:Bytes} (hs:∀d∈c::s,digit d=true) (hz:c=48→s=[]):Lib.decDigits (value (c::s))=c::s:=by
 have hc:=hs c (List.mem_cons_self ..)
 have H0:=hc
 simp only[digit,Bool.and_eq_true,decide_eq_true_eq]at H0
 have h1:Lib.decDigits (c.toNat-48)=[c]:=by rw[Lib.decDigits_one (by omega),zhjZ hc]
 unfold value
 rw[List.foldl_cons,show 0 * 10+(c.toNat-48)=c.toNat-48 by omega]
 by_cases h48:c=48
 ·rw[hz h48];exact h1
 ·have:c.toNat≠48:=fun e=>h48 (UInt8.toNat_inj.1 e)
  rw[zedZ s _ (by omega) (fun d hd=>hs d (List.mem_cons_of_mem _ hd)),h1]
  rfl
theorem zeeZ (u:Nat):∃c s,Lib.decDigits u=c::s∧(∀d∈c::s,digit d=true)∧value (c::s)=u∧(c=48→s=[]∧u=0):=by
 induction u using Nat.strongRecOn with
 | _ u ih=>
  have hd:∀m,m<10→digit (UInt8.ofNat (48+m))=true∧(UInt8.ofNat (48+m)).toNat=48+m:=by
   intro m hm
   have:(UInt8.ofNat (48+m)).toNat=48+m:=by rw[UInt8.toNat_ofNat',Nat.mod_eq_of_lt (by omega)]
   refine⟨?_,this⟩
   simp only[digit,this,Bool.and_eq_true,decide_eq_true_eq]
   omega
  by_cases h:u<10
  ·refine⟨UInt8.ofNat (48+u),[],Lib.decDigits_one h,?_,?_,?_⟩
   ·intro d hd'
    rw[List.mem_singleton]at hd'
    subst hd'
    exact(hd u h).1
   ·unfold value
    rw[List.foldl_cons,List.foldl_nil,(hd u h).2]
    omega
   ·intro e
    refine⟨rfl,?_⟩
    have:=(hd u h).2
    rw[e]at this
    have H0:(48:UInt8).toNat=48:=rfl
    omega
  ·obtain⟨c,s,e1,e2,e3,e4⟩:=ih (u / 10) (by omega)
   refine⟨c,s++[UInt8.ofNat (48+u % 10)],?_,?_,?_,?_⟩
   ·rw[decDigits_step u (by omega),e1];simp
   ·intro d hd'
    rw[←List.cons_append,List.mem_append]at hd'
    rcases hd' with hd' | hd'
    ·exact e2 d hd'
    ·rw[List.mem_singleton]at hd'
     subst hd'
     exact(hd _ (by omega)).1
   ·rw[←List.cons_append]
    unfold value at e3 ⊢
    rw[List.foldl_append,e3]
    rw[List.foldl_cons,List.foldl_nil,(hd (u % 10) (by omega)).2]
    omega
   ·intro e
    have:=(e4 e).2
    omega
/-! ### written -/
theorem form_begins {s:Bytes} {t:Tok} (h:Form s t):∃c l,s=c::l∧begins c=true:=by
 cases h with
 | name c s hc _ _=>exact⟨c,s,rfl,by simp[begins,hc]⟩
 | number c s hs _ _=>exact⟨c,s,rfl,by simp[begins,hs c (List.mem_cons_self ..)]⟩
 | text u _=>exact⟨34,_,rfl,rfl⟩
 | two=>exact⟨61,_,rfl,rfl⟩
 | sign c hc=>exact⟨c,[],rfl,by simp only[begins,hc,Bool.or_true]⟩
theorem form_raw {s:Bytes} {t:Tok} (h:Form s t):raw t=some s:=by
 cases h with
 | name c s hc hs hl=>
  unfold raw
  rw[if_pos]
  unfold nameKind
  split
  ·simp
  ·split <;> simp
 | number c s hs hv hz=>
  unfold raw
  rw[if_neg (by simp),if_pos rfl,if_neg (by simp)]
  show some (Lib.decDigits (value (c::s)))=_
  rw[zdxZ hs hz]
 | text u hu=>rfl
 | two=>rfl
 | sign c hc=>rfl
theorem raw_bare (t:Tok):raw t.bare=raw t:=rfl
theorem zkkZ {s:Bytes} {t:Tok} (h:Form s t):t.pos=0:=by cases h <;> rfl
theorem written_of_form {s:Bytes} {t:Tok} (h:Form s t.bare):written t=(s,true):=by
 have hr:=form_raw h
 obtain⟨c,l,rfl,hb⟩:=form_begins h
 rw[raw_bare]at hr
 have hc:=zkiZ h (zmiZ.after _ _) 0
 rw[List.append_nil]at hc
 unfold written
 rw[hr]
 simp only[hb,if_true,held,hc]
 simp[Tok.bare]
theorem form_of_written {t:Tok} (h:(written t).2=true):Form (written t).1 t.bare:=by
 unfold written at h ⊢
 cases hr:raw t with
 | none=>rw[hr]at h;cases h
 | some s=>
  rw[hr]at h
  cases s with
  | nil=>cases h
  | cons c l=>
   simp only at h ⊢
   by_cases hb:begins c=true
   ·rw[if_pos hb]at h ⊢
    unfold held at h
    cases hcut:cut 0 (c::l)with
    | bad y x=>simp[hcut]at h
    | ok x n=>
     simp only[hcut,Bool.and_eq_true,beq_iff_eq]at h
     obtain⟨s,x',e1,e2,e3,e4,e5⟩:=zkjZ (fun d hd=>by injection hd with hd;subst hd;exact hb) hcut
     have hx:x'=[]:=by
      have:=congrArg List.length e1
      rw[List.length_append]at this
      exact List.length_eq_zero_iff.1 (by omega)
     rw[hx,List.append_nil]at e1
     rw[e1]
     have:x.bare=t.bare:=by rw[h.2];rfl
     rw[←this]
     exact e3
   ·rw[if_neg hb]at h
    cases h
/-! ### blanks -/
theorem zhkZ {c:UInt8} (h:begins c=true):blank c=false∧c≠47:=by
 unfold begins at h
 simp only[Bool.or_eq_true]at h
 have H0:∀n:Nat,c.toNat=n→(n≠9∧n≠10∧n≠13∧n≠32∧n≠47)→blank c=false∧c≠47:=by
  rintro n hn ⟨h1,h2,h3,h4,h5⟩
  refine⟨?_,?_⟩
  ·unfold blank
   simp only[hn,Bool.or_eq_false_iff,beq_eq_false_iff_ne]
   exact⟨⟨⟨h1,h2⟩,h3⟩,h4⟩
  ·rintro rfl
   exact h5 hn.symm
 rcases h with((h | h) | h) | h
 ·simp only[letter,small,great,Bool.or_eq_true,Bool.and_eq_true,decide_eq_true_eq]at h
  exact H0 _ rfl (by omega)
 ·simp only[digit,Bool.and_eq_true,decide_eq_true_eq]at h
  exact H0 _ rfl (by omega)
 ·simp only[beq_iff_eq]at h
  exact H0 _ rfl (by omega)
 ·exact⟨(zepZ h).2.2.2.2,(zepZ h).2.2.2.1⟩
theorem zloZ {c:UInt8} {l:Bytes} (h:begins c=true):skip false (c::l)=c::l:=skip_stays (zhkZ h).1 (fun e=>(zhkZ h).2 (UInt8.toNat_inj.1 e.1))
/-! ### one round -/
theorem zvfZ {f p i:Nat} {l:Bytes} (h:skip false l=[]):go (f+1) p i l=([],none):=by
 simp[go,h]
theorem zvgZ {f p i:Nat} {l s x:Bytes} {t:Tok} (hs:skip false l=s++x) (hf:Form s t) (ha:After s x t) (hi:i≠4096) :
  go (f+1) p i l=({ t with pos:=((p+(l.length-(s++x).length):Nat):Int) } ::(go f (p+(l.length-(s++x).length)+s.length) (i+1) x).1,(go f (p+(l.length-(s++x).length)+s.length) (i+1) x).2):=by
 obtain⟨c,r,e,hb⟩:=form_begins hf
 have hcut:=zkiZ hf ha (p+(l.length-(s++x).length))
 rw[go]
 simp only[hs]
 rw[e,List.cons_append]at *
 simp only[hb,Bool.not_true,Bool.false_eq_true,if_false,hi,beq_iff_eq]
 rw[hcut]
 simp only
 rw[show(c::(r++x)).drop (c::r).length=x from List.drop_left (l₁:=c::r)]
theorem zvhZ {f p i:Nat} {l:Bytes} {ts:List Tok} (h:go (f+1) p i l=(ts,none)):(skip false l=[]∧ts=[])∨
  ∃s x t ts',skip false l=s++x∧Form s t∧After s x t∧i≠4096∧ts={ t with pos:=((p+(l.length-(s++x).length):Nat):Int) } ::ts'∧go f (p+(l.length-(s++x).length)+s.length) (i+1) x=(ts',none):=by
 rw[go]at h
 simp only at h
 split at h
 ·rename_i hr
  injection h with h1 h2
  exact .inl ⟨hr,h1.symm⟩
 ·rename_i b r hr
  right
  by_cases hb:begins b=true
  ·rw[hb]at h
   simp only[Bool.not_true,Bool.false_eq_true,if_false]at h
   by_cases hi:i=4096
   ·simp[hi]at h
   ·simp only[beq_iff_eq,hi,if_false]at h
    split at h
    ·injection h with h1 h2;cases h2
    ·rename_i t n hcut
     rw[hr]at hcut
     obtain⟨s,x,e1,e2,e3,e4,e5⟩:=zkjZ (fun d hd=>by injection hd with hd;subst hd;exact hb) hcut
     subst e2
     rw[hr,e1]at h
     rw[List.drop_left]at h
     injection h with h1 h2
     refine⟨s,x,t.bare,_,by rw[hr,e1],e3,e4,hi,?_,Prod.ext rfl h2⟩
     rw[←h1]
     congr 1
     rw[e5]
     rw[e1]
     rfl
  ·simp[hb]at h
theorem zrmZ {s:Bytes} {t:Tok} (h:Form s t):0<s.length:=by
 obtain⟨c,r,e,-⟩:=form_begins h
 rw[e];simp
/-! ### a rest behind a line's end -/
/-! ### what every cut token is -/
theorem zklZ:∀(f p i:Nat) (l:Bytes) (ts:List Tok),go f p i l=(ts,none)→i≤4096→i+ts.length≤4096∧∀t∈ts,Form (written t).1 t.bare∧(written t).2=true∧(written t).1.length≤l.length∧(p:Int)≤t.pos∧t.pos<p+l.length
 | 0,p,i,l,ts,h,hi=>by
  rw[go]at h
  injection h with h1 h2
  subst h1
  exact⟨by simpa using hi,by simp⟩
 | f+1,p,i,l,ts,h,hi=>by
  rcases zvhZ h with⟨hs,rfl⟩ | ⟨s,x,t,ts',hs,hf,ha,hi',rfl,hg⟩
  ·exact⟨by simpa using hi,by simp⟩
  ·obtain⟨h1,h2⟩:=zklZ f _ _ x ts' hg (by omega)
   have H0:=zeaZ false l
   have H1:=zrmZ hf
   rw[hs,List.length_append]at H0
   refine⟨by rw[List.length_cons];omega,?_⟩
   intro u hu
   rcases List.mem_cons.1 hu with rfl | hu
   ·have hb:Tok.bare { t with pos:=((p+(l.length-(s++x).length):Nat):Int) } =t:=by
     have:=zkkZ hf
     cases t
     simp only[Tok.bare]at *
     subst this
     rfl
    have hw:=written_of_form (t:={ t with pos:=((p+(l.length-(s++x).length):Nat):Int) }) (s:=s) (by rw[hb];exact hf)
    rw[hw,hb]
    refine⟨hf,rfl,by simp only;omega,by simp only;omega,?_⟩
    simp only[List.length_append]
    omega
   ·obtain⟨a1,a2,a3,a4,a5⟩:=h2 u hu
    rw[List.length_append]at a4 a5
    exact⟨a1,a2,by omega,by omega,by omega⟩
/-! ### join -/
theorem join_one_bad {t:Tok} (h:(written t).2=false):join [t]=([],1):=by
 have hj:joinFrom 0 [] [t]=none:=by
  unfold joinFrom
  rw[if_neg (by simp[h])]
 unfold join
 rw[hj]
theorem zrnZ {s:Bytes} {t:Tok} (h:Form s t) (hl:s.length≤65536):toks s=([t],none):=by
 obtain⟨c,r,e,hb⟩:=form_begins h
 have hs:skip false s=s++[]:=by rw[e,zloZ hb,List.append_nil]
 unfold toks
 rw[if_neg (by omega),zvgZ hs h (zmiZ.after _ _) (by decide)]
 have hp:=zkkZ h
 obtain⟨f,hf⟩:∃f,s.length=f+1:=⟨s.length-1,by rw[e];simp⟩
 rw[List.append_nil,Nat.sub_self,hf,zvfZ (skip_end _)]
 cases t
 simp only at hp
 subst hp
 rfl
/-! ### texts -/
theorem zlpZ (s:Bytes):1≤nameKind s∧nameKind s≤3:=by
 unfold nameKind
 split
 ·decide
 ·split <;> decide
theorem zouZ {q:Bytes} {t:Tok} (h:Form q t) (hk:t.kind=5):∀c∈t.s,saidB c=true:=by
 cases h with
 | name c s _ _ _=>
  have:=zlpZ (c::s)
  simp only at hk
  omega
 | number=>cases hk
 | text u hu=>exact hu
 | two=>cases hk
 | sign=>cases hk
theorem text_written (s:Bytes):(written ⟨0,5,s,0⟩).2=s.all saidB:=by
 rw[Bool.eq_iff_iff]
 constructor
 ·intro h
  have hf:=form_of_written h
  have hb:(Tok.bare ⟨0,5,s,0⟩)=⟨0,5,s,0⟩:=rfl
  rw[hb]at hf
  generalize (written ⟨0,5,s,0⟩).1=q at hf
  rw[List.all_eq_true]
  exact zouZ hf rfl
 ·intro h
  have hf:Form (quote s) (Tok.bare ⟨0,5,s,0⟩):=.text s (List.all_eq_true.1 h)
  rw[written_of_form hf]
theorem quote_len (s:Bytes):(quote s).length≤2 * s.length+2:=by
 have:=quoteIn_len s
 simp[quote]
 omega
/-! ### numbers -/
theorem number_form (n:Nat) (hn:n≤9223372036854775807):Form (Lib.decDigits n) ⟨0,4,[],n⟩:=by
 obtain⟨c,s,e1,e2,e3,e4⟩:=zeeZ n
 have:=Form.number c s e2 (by omega) (fun h=>(e4 h).1)
 rw[e3,←e1]at this
 exact this
end Go.Proofs.YtdncljdfmdgdaaaGreatDoor.Lx
