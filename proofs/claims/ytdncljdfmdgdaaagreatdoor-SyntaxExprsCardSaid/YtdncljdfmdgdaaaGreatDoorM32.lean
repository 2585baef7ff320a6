/-
  The facts of a region, named all at once.
-/
import Derived.Test.YtdncljdfmdgdaaaGreatDoorM1
import Derived.Test.YtdncljdfmdgdaaaGreatDoorM30
import Derived.Test.YtdncljdfmdgdaaaGreatDoorM31
import Derived.Test.YtdncljdfmdgdaaaGreatDoorM8
import Derived.Test.YtdncljdfmdgdaaaGreatDoorM19
set_option linter.unusedSimpArgs false
set_option linter.unusedVariables false
set_option maxRecDepth 100000
set_option maxHeartbeats 16000000
namespace Go.Proofs.YtdncljdfmdgdaaaGreatDoor
def Nths (Fs:List (Value→World→Value→Nat→Prop)):Nat→List (Value→World→Value→Nat→Prop)→Prop
 | _,[]=>True
 | i,f::l=>nth Fs i=f∧Nths Fs (i+1) l
theorem zmoZ {Fs:List (Value→World→Value→Nat→Prop)} : ∀(l m:List (Value→World→Value→Nat→Prop)),m++l=Fs→Nths Fs m.length l
 | [],m,h=>trivial
 | f::l,m,h=>by
  refine⟨?_,?_⟩
  ·rw[←h];unfold nth;simp
  ·have:=zmoZ l (m++[f]) (by simpa using h)
   simpa using this
theorem zwZ {l Fs:List (Value→World→Value→Nat→Prop)} (h:l=Fs):Nths Fs 0 l:=zmoZ l [] h
end Go.Proofs.YtdncljdfmdgdaaaGreatDoor
namespace Go.Proofs.YtdncljdfmdgdaaaGreatDoor
open Go.RowKit Go.Shelf
attribute [local go_sem] opWp zbaZ zbcZ zbbZ
theorem zwbZ (n:Nat) (hn:n+1≤1000000) (ih:TypedOk n) (t:Sx.Ty) (hsz0:Sx.size t≤n+1) (hr0:∃d,Sx.rightT NM d t=true) (hkd:t.kind=8) (v:Value) (W:World) (ht:IsTy W v t):TypedIs t v W:=by
 unfold TypedIs
 obtain⟨An,cn,Ae,ce,Ap,cp,rfl,hnm,hem,hp⟩:=ht.agg
 obtain⟨d,hr⟩:=hr0
 obtain⟨d',rfl,hr',hsh⟩:=Sx.right_parts hr
 rw[hkd]at hsh ht ⊢
 have J9:=Sx.size_parts t
 have Hu:Sx.sizeL t.parts≤n:=by omega
 have Jd:=Sx.length_size t.parts
 have Hv:t.names.length=t.parts.length:=by simp[Sx.shape]at hsh;omega
 have Hl:=zh Hv
 have J5:=zh (show ∀p∈t.parts,p.kind=7 by simp[Sx.shape]at hsh;exact hsh.1)
 have HT:=zh (show Sx.typ t=[[105,110,116,101,114,102,97,99,101],[123]]++Sx.methods t.names t.parts++[[125]]by rw[Sx.typ_eq,hkd];simp)
 have J3:=zh ih
 have HR:=zh hr'
 have H9:=zh (show Sx.sizeL t.parts≤n∧n+1≤1000000 from⟨Hu,hn⟩)
 obtain⟨L,hL⟩:=zE (W.heap.size)
 obtain⟨w2,hw2⟩:=zE (W.alloc (.cells #[.int .i64 8,.string ⟨t.name.toArray⟩,.slice An t.names.length cn,.slice Ae t.embeds.length ce,.slice Ap t.parts.length cp] 26))
 have H4:w2.heap[L]? =some (.cells #[.int .i64 8,.string ⟨t.name.toArray⟩,.slice An t.names.length cn,.slice Ae t.embeds.length ce,.slice Ap t.parts.length cp] 26 (0,0)):=by rw[←hw2,←hL];exact heap_alloc_new W _
 have Hn:Below L W w2:=by rw[←hw2,←hL];exact(Below.refl _ _).alloc (Nat.le_refl _) _
 obtain⟨B,hB⟩:=zE (w2.heap.size)
 have hLB:L<B:=by rw[←hB];exact zaZ H4
 have H2:=zh (show B≤w2.heap.size by rw[hB];exact Nat.le_refl _)
 have H8:=zh (fun X (h:Below B w2 X)=>(show Below W.heap.size W X by rw[hL];exact Hn.trans (h.mono (Nat.le_of_lt hLB))))
 have Je:=zh (show W.heap.size≤B by rw[hL];exact Nat.le_of_lt hLB)
 have H5:=zh (fun X (h:Below B w2 X)=>(show X.heap[L]? =some (.cells #[.int .i64 8,.string ⟨t.name.toArray⟩,.slice An t.names.length cn,.slice Ae t.embeds.length ce,.slice Ap t.parts.length cp] 26 (0,0))from(h.block L hLB).trans H4))
 have J0:=zh (show Below B w2 w2 from Below.refl _ _)
 have Jl:=zh (fun(s:Lx.Bytes)=>(show OwnS (w2.alloc (.cells #[.string ⟨s.toArray⟩] 9)) B (.slice (some ⟨B,0,none⟩) 1 1) [s]by have:=OwnS.one (B:=B) (s:=s) (heap_alloc_new w2 (.cells #[.string ⟨s.toArray⟩] 9)) H2.o;rw[hB]at this;exact this))
 have HP:=zh hp
 have J6:=zh hnm
 have Ji:=zh hem
 obtain⟨x0,x1,x2,x3,x4⟩:=zcZ H4
 have Jm:=zaZ H4
 clear ih hr hr' ht hp hnm hem J9 Hu H4 Hn hsh hkd hsz0 hn Hv
 go_enter Tryz.func28, Tryz.ntmps28
 obtain⟨k,hk⟩:=zE (t.parts.length)
 have Jk:(k:Int)≤1000000:=by have:=H9.o;omega
 have HK:=zh hk
 clear Jd
 rw[hk]at x4
 obtain⟨w3,hw3⟩:=zE (w2.alloc (.cells #[.string ⟨#[105,110,116,101,114,102,97,99,101]⟩,.string ⟨#[123]⟩] 9))
 have Hm:Below B w2 w3:=by rw[←hw3];exact J0.o.alloc H2.o _
 have Hp:OwnS w3 B (.slice (some ⟨B,0,none⟩) 2 2) ([[105,110,116,101,114,102,97,99,101],[123]]++Sx.methods (t.names.take 0) (t.parts.take 0)):=by
  rw[←hw3]
  have:=OwnS.arr (B:=B) (l:=[[105,110,116,101,114,102,97,99,101],[123]]) (heap_alloc_new w2 (.cells #[.string ⟨#[105,110,116,101,114,102,97,99,101]⟩,.string ⟨#[123]⟩] 9)) rfl (by simp[maxLen]) H2.o
  rw[hB]at this
  simpa[Sx.fields,Sx.methods]using this
 have Hy:=zh Hp
 have Jh:=zh Hm
 clear Hp Hm hk
 go_wp2_with fail
 go_loopg [3,4] k (fun i v3 v4 wr=>∃(m:Nat) (A5:Option Addr) (n5 c5:Nat),i=k-m∧v3=.slice A5 n5 c5∧v4=.int .i64 (m:Nat)∧m≤k∧OwnS wr B (.slice A5 n5 c5) ([[105,110,116,101,114,102,97,99,101],[123]]++Sx.methods (t.names.take m) (t.parts.take m))∧Below B w2 wr)
 case atStart=>exact⟨0,some ⟨B,0,none⟩,2,2,rfl,rfl,rfl,Nat.zero_le _,Hy.o,Jh.o⟩
 case round=>
  obtain⟨m,A5,n5,c5,hi,rfl,rfl,hm,ho,hb⟩:=hrel
  have HI:=zh hi
  have HO:=zh ho
  have Hg:=zh hb
  have m0:(0:Int)≤(m:Int):=by omega
  have m1:(m:Int)≤1000000:=by omega
  clear hi ho hb x0 x1 x2 x3 x4
  have H1:=H5.o wr Hg.o
  rw[HK.o]at H1
  obtain⟨x0,x1,x2,x3,x4⟩:=zcZ H1
  have Jg:=zaZ H1
  clear H1
  by_cases hlt:m<k
  ·have Jb:(m:Int)<(k:Int):=by omega
   have Jj:IntKind.i64.wrap ((m:Int)+1)=(m:Int)+1:=by rw[IntKind.wrap_i64];omega
   have Hb:m<t.parts.length:=by have:=HK.o;omega
   have Hr:m<t.names.length:=by have:=Hl.o;omega
   have Hz:(m:Int)<(t.names.length:Int):=by omega
   have Hk:=Sx.sizeL_take_le t.parts m
   have Hc:=Sx.size_mem (List.getElem_mem Hb)
   obtain⟨g,off,An1,cn1,Ae1,ce1,Aq,cq,rfl,hty,hc5⟩:=HP.o.spot m Hb
   obtain⟨g1,off1,rfl,hsp1⟩:=J6.o.spot m Hr
   have He:=Sx.methods_take Hl.o Hb
   obtain⟨p,hpe⟩:=zE (t.parts[m]'Hb)
   obtain⟨s,hse⟩:=zE (t.names[m]'Hr)
   have Hd:p∈t.parts:=by rw[←hpe];exact List.getElem_mem Hb
   rw[hpe]at hc5 hty He Hc
   rw[hse]at hsp1 He
   have J4:=zh hty
   have Hj:=zh hc5
   have Ht:=zh hsp1
   have Ja:=zh He
   have Ha:=zh Hd
   have H3:=zh (show([[105,110,116,101,114,102,97,99,101],[123]]++Sx.methods (t.names.take m) (t.parts.take m)).length+([40]::Sx.params 0 p.parts).length≤50000000 by
    have h1:=Sx.methods_len (t.names.take m) (t.parts.take m)
    have h2:=Sx.params_len 0 p.parts
    have h3:=Sx.size_parts p
    have h4:=H9.o
    simp only[List.length_append,List.length_cons,List.length_nil]
    omega)
   have Hf:=zh (show(∀q∈p.parts,∃d,Sx.rightT NM d q=true)∧0<p.parts.length∧Sx.sizeL p.parts≤n by
    obtain⟨e',he',hq,hs'⟩:=Sx.right_parts (HR.o p Ha.o)
    refine⟨fun q hq'=>⟨_,hq q hq'⟩,?_,?_⟩
    ·rw[J5.o p Ha.o]at hs'
     simp[Sx.shape]at hs'
     omega
    ·have:=Sx.size_parts p
     have:=H9.o
     omega)
   clear hty He Hd hpe hse hc5 hsp1 Hk Hc
   go_wp2_with fail
   have hB0:Below B w2 wr.drew:=Hg.o.drew
   have hO0:OwnS wr.drew B (.slice A5 n5 c5) ([[105,110,116,101,114,102,97,99,101],[123]]++Sx.methods (t.names.take m) (t.parts.take m)):=HO.o
   clear x0 x1 x2 x3 x4 Jg
   obtain⟨Fs,hFs⟩:∃F:List (Value→World→Value→Nat→Prop),[IsF (.slice A5 n5 c5),IsF (.pointer (some ⟨L,2,none⟩)),IsF (.slice (some ⟨g1,off1,none⟩) t.names.length cn),IsF (.int .i64 (m:Int)),IsF (.pointer (some ⟨g1,off1+m,none⟩)),IsF (.string ⟨s.toArray⟩),StrF [s],AppF 0,IsF (.pointer (some ⟨L,4,none⟩)),IsF (.slice (some ⟨g,off,none⟩) k cp),IsF (.int .i64 (m:Int)),IsF (.pointer (some ⟨g,off+m * 5,none⟩)),IsF (.pointer (some ⟨g,off+m * 5+4,none⟩)),IsF (.slice Aq p.parts.length cq),StrF ([40]::Sx.params 0 p.parts),AppF 1,StrF [[59]],AppF 2,AppF 2]=F:=⟨_,rfl⟩
   obtain⟨F0,F1,F2,F3,F4,F5,F6,F7,F8,F9,F10,F11,F12,F13,F14,F15,F16,F17,F18,-⟩:=zwZ hFs
   have H7:AllStay RowM Fs:=by rw[←hFs];repeat (first | exact .nil | refine .cons (by first | exact IsF.stays | exact AppF.stays | exact StrF.stays) ?_)
   obtain⟨Lf,hLf⟩:∃f:Nat→List Lx.Bytes,(fun k=>([([[105,110,116,101,114,102,97,99,101],[123]]++Sx.methods (t.names.take m) (t.parts.take m)),([[105,110,116,101,114,102,97,99,101],[123]]++Sx.methods (t.names.take m) (t.parts.take m))++[s],([[105,110,116,101,114,102,97,99,101],[123]]++Sx.methods (t.names.take m) (t.parts.take m))++[s]++([40]::Sx.params 0 p.parts),([[105,110,116,101,114,102,97,99,101],[123]]++Sx.methods (t.names.take m) (t.parts.take m))++[s]++([40]::Sx.params 0 p.parts)++[[59]]]:List (List Lx.Bytes)).getD k [])=f:=⟨_,rfl⟩
   have L0:Lf 0=([[105,110,116,101,114,102,97,99,101],[123]]++Sx.methods (t.names.take m) (t.parts.take m)):=by rw[←hLf];rfl
   have L1:Lf 1=([[105,110,116,101,114,102,97,99,101],[123]]++Sx.methods (t.names.take m) (t.parts.take m))++[s]:=by rw[←hLf];rfl
   have L2:Lf 2=([[105,110,116,101,114,102,97,99,101],[123]]++Sx.methods (t.names.take m) (t.parts.take m))++[s]++([40]::Sx.params 0 p.parts):=by rw[←hLf];rfl
   have L3:Lf 3=([[105,110,116,101,114,102,97,99,101],[123]]++Sx.methods (t.names.take m) (t.parts.take m))++[s]++([40]::Sx.params 0 p.parts)++[[59]]:=by rw[←hLf];rfl
   clear hFs hLf
   refine zoZ (by kernel_rfl) [7,15,17] (RowI B w2 (.slice A5 n5 c5) Lf) RowM Fs (.slice A5 n5 c5) (by kernel_rfl) (by kernel_rfl) (by kernel_rfl) (by kernel_rfl) (by kernel_rfl) H7 (n:=19) (by kernel_rfl) ⟨hB0,by rw[L0];exact hO0,fun _=>rfl⟩ ?_ ?_
   ·repeat' first | refine OpsOk.cons ?_ ?_ | fail
    ·exact OpOk.mov rfl rfl F0 RowM.rf rfl fun ρ w r k E=>E.z 3 18 [17,15,7,0] (by kernel_rfl)
    ·refine OpOk.val rfl rfl F1 RowM.rf fun ρ w r k E hI K hK=>?_
     have e1:ρ (.tmp 1)=.pointer (some ⟨L,0,none⟩):=E.n 1 (by kernel_rfl)
     obtain⟨x0,x1,x2,x3,x4⟩:=zcZ (H5.o w hI.1)
     rw[HK.o]at x4
     have Hi:=zaZ (H5.o w hI.1)
     go_simp
     exact hK
    ·refine OpOk.val rfl rfl F2 RowM.rf fun ρ w r k E hI K hK=>?_
     have e50:=E.e 50 1 (by kernel_rfl) F1
     obtain⟨x0,x1,x2,x3,x4⟩:=zcZ (H5.o w hI.1)
     rw[HK.o]at x4
     have Hi:=zaZ (H5.o w hI.1)
     go_simp
     exact hK
    ·exact OpOk.mov rfl rfl F3 RowM.rf rfl fun ρ w r k E=>E.n 4 (by kernel_rfl)
    ·refine OpOk.val rfl rfl F4 RowM.rf fun ρ w r k E hI K hK=>?_
     have e51:=E.e 51 2 (by kernel_rfl) F2
     have e52:=E.e 52 3 (by kernel_rfl) F3
     obtain⟨q0,q1⟩:=Ht.o w (H8.o w hI.1)
     go_simp
     exact hK
    ·refine OpOk.val rfl rfl F5 RowM.rf fun ρ w r k E hI K hK=>?_
     have e53:=E.e 53 4 (by kernel_rfl) F4
     obtain⟨q0,q1⟩:=Ht.o w (H8.o w hI.1)
     go_simp
     exact hK
    ·refine OpOk.one rfl rfl F6 H2.o fun ρ w r k E hI K hK=>?_
     have e54:=E.e 54 5 (by kernel_rfl) F5
     go_simp
     exact hK _ rfl
    ·exact OpOk.app0 (s:=49) (x:=55) (q0:=0) (q:=6) rfl rfl rfl F7 L0 L1 rfl (by simp) (by(have h1:=H3.o;simp only[List.length_append,List.length_cons,List.length_nil]at *;omega)) H2.o F0 (by kernel_rfl) F6 (by kernel_rfl)
    ·refine OpOk.val rfl rfl F8 RowM.rf fun ρ w r k E hI K hK=>?_
     have e1:ρ (.tmp 1)=.pointer (some ⟨L,0,none⟩):=E.n 1 (by kernel_rfl)
     obtain⟨x0,x1,x2,x3,x4⟩:=zcZ (H5.o w hI.1)
     rw[HK.o]at x4
     have Hi:=zaZ (H5.o w hI.1)
     go_simp
     exact hK
    ·refine OpOk.val rfl rfl F9 RowM.rf fun ρ w r k E hI K hK=>?_
     have e57:=E.e 57 8 (by kernel_rfl) F8
     obtain⟨x0,x1,x2,x3,x4⟩:=zcZ (H5.o w hI.1)
     rw[HK.o]at x4
     have Hi:=zaZ (H5.o w hI.1)
     go_simp
     exact hK
    ·exact OpOk.mov rfl rfl F10 RowM.rf rfl fun ρ w r k E=>E.n 4 (by kernel_rfl)
    ·refine OpOk.val rfl rfl F11 RowM.rf fun ρ w r k E hI K hK=>?_
     have e58:=E.e 58 9 (by kernel_rfl) F9
     have e59:=E.e 59 10 (by kernel_rfl) F10
     have H0:=Hj.o w (H8.o w hI.1)
     have hg:=H0.1
     have c0:=H0.2.1
     have c1:=H0.2.2.1
     have c2:=H0.2.2.2.1
     have c3:=H0.2.2.2.2.1
     have c4:=H0.2.2.2.2.2
     clear H0
     go_simp
     exact hK
    ·refine OpOk.val rfl rfl F12 RowM.rf fun ρ w r k E hI K hK=>?_
     have e60:=E.e 60 11 (by kernel_rfl) F11
     have H0:=Hj.o w (H8.o w hI.1)
     have hg:=H0.1
     have c0:=H0.2.1
     have c1:=H0.2.2.1
     have c2:=H0.2.2.2.1
     have c3:=H0.2.2.2.2.1
     have c4:=H0.2.2.2.2.2
     clear H0
     go_simp
     exact hK
    ·refine OpOk.val rfl rfl F13 RowM.rf fun ρ w r k E hI K hK=>?_
     have e61:=E.e 61 12 (by kernel_rfl) F12
     have H0:=Hj.o w (H8.o w hI.1)
     have hg:=H0.1
     have c0:=H0.2.1
     have c1:=H0.2.2.1
     have c2:=H0.2.2.2.1
     have c3:=H0.2.2.2.2.1
     have c4:=H0.2.2.2.2.2
     clear H0
     go_simp
     exact hK
    ·exact OpOk.call (args:=#[.slice Aq p.parts.length cq]) rfl rfl F14 H2.o rfl Tryz.func69 (by kernel_rfl) rfl (fun ρ w r k E=>by simp only[List.map_toArray,List.map_cons,List.map_nil,E.e 62 13 (by kernel_rfl) F13]) fun w hb=>zmnZ n (by have:=H9.o;omega) J3.o p.parts Hf.o.2.1 Hf.o.2.2 Hf.o.1 (fun q hq=>by obtain⟨d,hd⟩:=Hf.o.1 q hq;exact Sx.typ_pos hd) _ w (IsTy.row (IsTy.below (H8.o w hb) _ _ J4.o))
    ·exact OpOk.appN (j:=0) (s:=56) (x:=63) (p:=7) (q:=14) rfl rfl rfl F15 L1 L2 rfl (by simp) (by(have h1:=H3.o;simp only[List.length_append,List.length_cons,List.length_nil]at *;omega)) H2.o F7 (by kernel_rfl) F14 (by kernel_rfl)
    ·refine OpOk.one rfl rfl F16 H2.o fun ρ w r k E hI K hK=>?_
     have c:=E.c
     go_simp
     exact hK _ rfl
    ·exact OpOk.appN (j:=1) (s:=64) (x:=65) (p:=15) (q:=16) rfl rfl rfl F17 L2 L3 rfl (by simp) (by(have h1:=H3.o;simp only[List.length_append,List.length_cons,List.length_nil]at *;omega)) H2.o F15 (by kernel_rfl) F16 (by kernel_rfl)
    ·exact OpOk.asg rfl rfl F18 F17 rfl (by kernel_rfl)
    ·exact .nil
   ·intro uq wq rq hI hF
    have f18:uq 18=rq:=((zmZ F18 (hF 18 (by decide))).2 rfl).symm
    have hBz:=hI.1
    have hOz:=hI.2.1
    rw[show([7,15,17]:List Nat).length=3 from rfl,L3]at hOz
    simp only[List.toList_toArray,fillAct,Act.put,List.setIfInBounds_toArray,List.set_cons_zero,List.set_cons_succ,f18]
    clear hI hF F0 F1 F2 F3 F4 F5 F6 F7 F8 F9 F10 F11 F12 F13 F14 F15 F16 F17 F18 H7 L0 L1 L2 L3
    obtain⟨A9,c9,rfl⟩:=hOz.slice
    have J7:=zh hOz
    have J8:=zh hBz
    clear hOz hBz
    go_wp2_with fail
    go_roundg (k-(m+1))
    case measure=>have:=HI.o;omega
    case rel=>exact⟨m+1,A9,_,c9,rfl,rfl,by simp,hlt,by rw[Ja.o];simpa[List.append_assoc,Sx.sig_eq]using J7.o,J8.o⟩
  ·have Jb:¬(m:Int)<(k:Int):=by omega
   have H6:Sx.methods (t.names.take m) (t.parts.take m)=Sx.methods t.names t.parts:=by
    rw[List.take_of_length_le (show t.names.length≤m by have:=HK.o;have:=Hl.o;omega),List.take_of_length_le (show t.parts.length≤m by have:=HK.o;omega)]
   have Jc:=zh H6
   have H3:=zh (show([[105,110,116,101,114,102,97,99,101],[123]]++Sx.methods (t.names.take m) (t.parts.take m)).length≤50000000 by
    have h1:=Sx.methods_len (t.names.take m) (t.parts.take m)
    have h2:=Sx.sizeL_take_le t.parts m
    have h4:=H9.o
    simp only[List.length_append,List.length_cons,List.length_nil]
    omega)
   clear H6
   obtain⟨wa,hwa⟩:=zE (wr.alloc (.cells #[.string ⟨#[125]⟩] 9))
   have Hw:OwnS wa B (.slice A5 n5 c5) ([[105,110,116,101,114,102,97,99,101],[123]]++Sx.methods (t.names.take m) (t.parts.take m)):=by rw[←hwa];exact HO.o.below ((Below.refl _ _).alloc (Nat.le_refl _) _)
   have Hs:Below B w2 wa:=by rw[←hwa];exact Hg.o.alloc (Nat.le_trans H2.o Hg.o.size) _
   have Ho:Str wa (.slice (some ⟨wr.heap.size,0,none⟩) 1 1) [[125]] (.slice A5 n5 c5):=by rw[←hwa];exact Str.one (heap_alloc_new wr _) (fun q hq=>(HO.o.lt q hq).2)
   have Hq:=zh Hw
   have Hh:=zh Hs
   have J1:=zh Ho
   clear Hw Hs Ho
   go_wp2_with (at_builtin;refine zpZ rfl _ _ rfl rfl rfl Hq.o J1.o (by decide) (by have:=H3.o;simp only[List.length_append,List.length_cons,List.length_nil]at *;omega) (Nat.le_trans H2.o Hh.o.size) ?_;intro r5 w5 hO5 Hx;have hB5:=zzZ Hh.o (Nat.le_trans H2.o Hh.o.size) Hx (fun g hg=>(Hq.o.lt g hg).1);have J2:=zh hO5;have Jf:=zh hB5;clear hO5 hB5 Hx)
   go_ret
   subst hL
   exact⟨_,rfl,by rw[HT.o,←Jc.o];exact J2.o.base_le Je.o,H8.o _ Jf.o⟩
theorem zwcZ (n:Nat) (hn:n+1≤1000000) (ih:TypedOk n) (t:Sx.Ty) (hsz0:Sx.size t≤n+1) (hr0:∃d,Sx.rightT NM d t=true) (hkd:t.kind=6) (v:Value) (W:World) (ht:IsTy W v t):TypedIs t v W:=by
 unfold TypedIs
 obtain⟨An,cn,Ae,ce,Ap,cp,rfl,hnm,hem,hp⟩:=ht.agg
 obtain⟨d,hr⟩:=hr0
 obtain⟨d',rfl,hr',hsh⟩:=Sx.right_parts hr
 rw[hkd]at hsh ht ⊢
 have Jg:=Sx.size_parts t
 have J8:Sx.sizeL t.parts≤n:=by omega
 have Jk:=Sx.length_size t.parts
 have J9:t.names.length=t.parts.length:=by simp[Sx.shape]at hsh;omega
 have Hy:=zh J9
 have J5:t.embeds.length=t.parts.length:=by simp[Sx.shape]at hsh;omega
 have Hu:=zh J5
 have HT:=zh (show Sx.typ t=[[123]]++Sx.fields t.names t.embeds t.parts++[[125]]by rw[Sx.typ_eq,hkd];simp)
 have Hz:=zh ih
 have HR:=zh hr'
 have Hp:=zh (show Sx.sizeL t.parts≤n∧n+1≤1000000 from⟨J8,hn⟩)
 obtain⟨L,hL⟩:=zE (W.heap.size)
 obtain⟨w2,hw2⟩:=zE (W.alloc (.cells #[.int .i64 6,.string ⟨t.name.toArray⟩,.slice An t.names.length cn,.slice Ae t.embeds.length ce,.slice Ap t.parts.length cp] 26))
 have H7:w2.heap[L]? =some (.cells #[.int .i64 6,.string ⟨t.name.toArray⟩,.slice An t.names.length cn,.slice Ae t.embeds.length ce,.slice Ap t.parts.length cp] 26 (0,0)):=by rw[←hw2,←hL];exact heap_alloc_new W _
 have J2:Below L W w2:=by rw[←hw2,←hL];exact(Below.refl _ _).alloc (Nat.le_refl _) _
 obtain⟨B,hB⟩:=zE (w2.heap.size)
 have hLB:L<B:=by rw[←hB];exact zaZ H7
 have H1:=zh (show B≤w2.heap.size by rw[hB];exact Nat.le_refl _)
 have H6:=zh (fun X (h:Below B w2 X)=>(show Below W.heap.size W X by rw[hL];exact J2.trans (h.mono (Nat.le_of_lt hLB))))
 have Jl:=zh (show W.heap.size≤B by rw[hL];exact Nat.le_of_lt hLB)
 have H2:=zh (fun X (h:Below B w2 X)=>(show X.heap[L]? =some (.cells #[.int .i64 6,.string ⟨t.name.toArray⟩,.slice An t.names.length cn,.slice Ae t.embeds.length ce,.slice Ap t.parts.length cp] 26 (0,0))from(h.block L hLB).trans H7))
 have Jc:=zh (show Below B w2 w2 from Below.refl _ _)
 have Jp:=zh (fun(s:Lx.Bytes)=>(show OwnS (w2.alloc (.cells #[.string ⟨s.toArray⟩] 9)) B (.slice (some ⟨B,0,none⟩) 1 1) [s]by have:=OwnS.one (B:=B) (s:=s) (heap_alloc_new w2 (.cells #[.string ⟨s.toArray⟩] 9)) H1.o;rw[hB]at this;exact this))
 have HP:=zh hp
 have Jf:=zh hnm
 have Jd:=zh hem
 obtain⟨x0,x1,x2,x3,x4⟩:=zcZ H7
 have Jq:=zaZ H7
 clear ih hr hr' ht hp hnm hem Jg J8 H7 J2 hsh hkd hsz0 hn J9 J5
 go_enter Tryz.func28, Tryz.ntmps28
 obtain⟨k,hk⟩:=zE (t.parts.length)
 have Jo:(k:Int)≤1000000:=by have:=Hp.o;omega
 have HK:=zh hk
 clear Jk
 rw[hk]at x4
 obtain⟨w3,hw3⟩:=zE (w2.alloc (.cells #[.string ⟨#[123]⟩] 9))
 have J0:Below B w2 w3:=by rw[←hw3];exact Jc.o.alloc H1.o _
 have J3:OwnS w3 B (.slice (some ⟨B,0,none⟩) 1 1) ([[123]]++Sx.fields (t.names.take 0) (t.embeds.take 0) (t.parts.take 0)):=by
  rw[←hw3]
  have:=OwnS.arr (B:=B) (l:=[[123]]) (heap_alloc_new w2 (.cells #[.string ⟨#[123]⟩] 9)) rfl (by simp[maxLen]) H1.o
  rw[hB]at this
  simpa[Sx.fields,Sx.methods]using this
 have Ja:=zh J3
 have Jm:=zh J0
 clear J3 J0 hk
 go_wp2_with fail
 go_loopg [5,6] k (fun i v3 v4 wr=>∃(m:Nat) (A5:Option Addr) (n5 c5:Nat),i=k-m∧v3=.slice A5 n5 c5∧v4=.int .i64 (m:Nat)∧m≤k∧OwnS wr B (.slice A5 n5 c5) ([[123]]++Sx.fields (t.names.take m) (t.embeds.take m) (t.parts.take m))∧Below B w2 wr)
 case atStart=>exact⟨0,some ⟨B,0,none⟩,1,1,rfl,rfl,rfl,Nat.zero_le _,Ja.o,Jm.o⟩
 case round=>
  obtain⟨m,A5,n5,c5,hi,rfl,rfl,hm,ho,hb⟩:=hrel
  have HI:=zh hi
  have HO:=zh ho
  have Hb:=zh hb
  have m0:(0:Int)≤(m:Int):=by omega
  have m1:(m:Int)≤1000000:=by omega
  clear hi ho hb x0 x1 x2 x3 x4
  have H5:=H2.o wr Hb.o
  rw[HK.o]at H5
  obtain⟨x0,x1,x2,x3,x4⟩:=zcZ H5
  have Hs:=zaZ H5
  clear H5
  by_cases hlt:m<k
  ·have Ji:(m:Int)<(k:Int):=by omega
   have Jn:IntKind.i64.wrap ((m:Int)+1)=(m:Int)+1:=by rw[IntKind.wrap_i64];omega
   have Hg:m<t.parts.length:=by have:=HK.o;omega
   have J4:m<t.names.length:=by have:=Hy.o;omega
   have Jb:(m:Int)<(t.names.length:Int):=by omega
   have J6:m<t.embeds.length:=by have:=Hu.o;omega
   have Jh:(m:Int)<(t.embeds.length:Int):=by omega
   have Hx:=Sx.sizeL_take_le t.parts m
   have Hj:=Sx.size_mem (List.getElem_mem Hg)
   obtain⟨g,off,An1,cn1,Ae1,ce1,Aq,cq,rfl,hty,hc5⟩:=HP.o.spot m Hg
   obtain⟨g1,off1,rfl,hsp1⟩:=Jf.o.spot m J4
   obtain⟨g2,off2,rfl,hsp2⟩:=Jd.o.spot m J6
   have Hd:=Sx.fields_take Hy.o Hu.o Hg
   obtain⟨p,hpe⟩:=zE (t.parts[m]'Hg)
   obtain⟨s,hse⟩:=zE (t.names[m]'J4)
   have Hk:p∈t.parts:=by rw[←hpe];exact List.getElem_mem Hg
   rw[hpe]at hc5 hty Hd Hj
   rw[hse]at hsp1 Hd
   obtain⟨e,hee⟩:=zE (t.embeds[m]'J6)
   rw[hee]at hsp2 Hd
   have Je:=zh hsp2
   have J1:=zh hty
   have Hq:=zh hc5
   have Hr:=zh hsp1
   have J7:=zh Hd
   have He:=zh Hk
   have H3:=zh (show([[123]]++Sx.fields (t.names.take m) (t.embeds.take m) (t.parts.take m)).length+(Sx.typ p).length≤50000000 by
    have h1:=Sx.fields_len (t.names.take m) (t.embeds.take m) (t.parts.take m)
    have h2:=Sx.typ_len p
    have h4:=Hp.o
    simp only[List.length_append,List.length_cons,List.length_nil]
    omega)
   have Hc:=zh (show Sx.size p≤n∧(∃d,Sx.rightT NM d p=true)∧0<(Sx.typ p).length from⟨by have:=Hp.o;omega,⟨_,HR.o p He.o⟩,Sx.typ_pos (HR.o p He.o)⟩)
   clear hty Hd Hk hpe hse hc5 hsp1 Hx Hj hee hsp2
   obtain⟨z0,z1⟩:=Je.o wr (H6.o wr Hb.o)
   cases e with
   | true=>
    obtain⟨wa,hwa⟩:=zE (wr.alloc (.cells #[.string ⟨#[101,109,98,101,100]⟩] 9))
    have Hm:OwnS wa B (.slice A5 n5 c5) ([[123]]++Sx.fields (t.names.take m) (t.embeds.take m) (t.parts.take m)):=by rw[←hwa];exact HO.o.below ((Below.refl _ _).alloc (Nat.le_refl _) _)
    have Hi:Below B w2 wa:=by rw[←hwa];exact Hb.o.alloc (Nat.le_trans H1.o Hb.o.size) _
    have Hf:Str wa (.slice (some ⟨wr.heap.size,0,none⟩) 1 1) [[101,109,98,101,100]] (.slice A5 n5 c5):=by rw[←hwa];exact Str.one (heap_alloc_new wr _) (fun q hq=>(HO.o.lt q hq).2)
    have Hh:=zh Hm
    have H9:=zh Hi
    have Ht:=zh Hf
    clear Hm Hi Hf
    go_wp2_with (at_builtin;refine zpZ rfl _ _ rfl rfl rfl Hh.o Ht.o (by decide) (by have:=H3.o;simp only[List.length_append,List.length_cons,List.length_nil]at *;omega) (Nat.le_trans H1.o H9.o.size) ?_;intro r5 w5 hO5 Hn;have hB5:=zzZ H9.o (Nat.le_trans H1.o H9.o.size) Hn (fun g hg=>(Hh.o.lt g hg).1);have Ho:=zh hO5;have Hl:=zh hB5;clear hO5 hB5 Hn x0 x1 x2 x3 x4 Hs z0 z1;obtain⟨x0,x1,x2,x3,x4⟩:=zcZ (H2.o w5 Hl.o);rw[HK.o]at x4;have Hs:=zaZ (H2.o w5 Hl.o))
    obtain⟨A6,c6,rfl⟩:=Ho.o.slice
    have hB0:Below B w2 w5.drew:=Hl.o.drew
    have hO0:OwnS w5.drew B (.slice A6 (([[123]]++Sx.fields (t.names.take m) (t.embeds.take m) (t.parts.take m))++[[101,109,98,101,100]]).length c6) (([[123]]++Sx.fields (t.names.take m) (t.embeds.take m) (t.parts.take m))++[[101,109,98,101,100]]):=Ho.o
    clear x0 x1 x2 x3 x4 Hs
    obtain⟨Fs,hFs⟩:∃F:List (Value→World→Value→Nat→Prop),[IsF (.slice A6 (([[123]]++Sx.fields (t.names.take m) (t.embeds.take m) (t.parts.take m))++[[101,109,98,101,100]]).length c6),IsF (.pointer (some ⟨L,2,none⟩)),IsF (.slice (some ⟨g1,off1,none⟩) t.names.length cn),IsF (.int .i64 (m:Int)),IsF (.pointer (some ⟨g1,off1+m,none⟩)),IsF (.string ⟨s.toArray⟩),StrF [s],AppF 0,IsF (.pointer (some ⟨L,4,none⟩)),IsF (.slice (some ⟨g,off,none⟩) k cp),IsF (.int .i64 (m:Int)),IsF (.pointer (some ⟨g,off+m * 5,none⟩)),IsF (.agg #[.int .i64 p.kind,.string ⟨p.name.toArray⟩,.slice An1 p.names.length cn1,.slice Ae1 p.embeds.length ce1,.slice Aq p.parts.length cq]),StrF (Sx.typ p),AppF 1,StrF [[59]],AppF 2,AppF 2]=F:=⟨_,rfl⟩
    obtain⟨F0,F1,F2,F3,F4,F5,F6,F7,F8,F9,F10,F11,F12,F13,F14,F15,F16,F17,-⟩:=zwZ hFs
    have H4:AllStay RowM Fs:=by rw[←hFs];repeat (first | exact .nil | refine .cons (by first | exact IsF.stays | exact AppF.stays | exact StrF.stays) ?_)
    obtain⟨Lf,hLf⟩:∃f:Nat→List Lx.Bytes,(fun k=>([(([[123]]++Sx.fields (t.names.take m) (t.embeds.take m) (t.parts.take m))++[[101,109,98,101,100]]),(([[123]]++Sx.fields (t.names.take m) (t.embeds.take m) (t.parts.take m))++[[101,109,98,101,100]])++[s],(([[123]]++Sx.fields (t.names.take m) (t.embeds.take m) (t.parts.take m))++[[101,109,98,101,100]])++[s]++(Sx.typ p),(([[123]]++Sx.fields (t.names.take m) (t.embeds.take m) (t.parts.take m))++[[101,109,98,101,100]])++[s]++(Sx.typ p)++[[59]]]:List (List Lx.Bytes)).getD k [])=f:=⟨_,rfl⟩
    have L0:Lf 0=(([[123]]++Sx.fields (t.names.take m) (t.embeds.take m) (t.parts.take m))++[[101,109,98,101,100]]):=by rw[←hLf];rfl
    have L1:Lf 1=(([[123]]++Sx.fields (t.names.take m) (t.embeds.take m) (t.parts.take m))++[[101,109,98,101,100]])++[s]:=by rw[←hLf];rfl
    have L2:Lf 2=(([[123]]++Sx.fields (t.names.take m) (t.embeds.take m) (t.parts.take m))++[[101,109,98,101,100]])++[s]++(Sx.typ p):=by rw[←hLf];rfl
    have L3:Lf 3=(([[123]]++Sx.fields (t.names.take m) (t.embeds.take m) (t.parts.take m))++[[101,109,98,101,100]])++[s]++(Sx.typ p)++[[59]]:=by rw[←hLf];rfl
    clear hFs hLf
    refine zoZ (by kernel_rfl) [7,14,16] (RowI B w2 (.slice A6 (([[123]]++Sx.fields (t.names.take m) (t.embeds.take m) (t.parts.take m))++[[101,109,98,101,100]]).length c6) Lf) RowM Fs (.slice A6 (([[123]]++Sx.fields (t.names.take m) (t.embeds.take m) (t.parts.take m))++[[101,109,98,101,100]]).length c6) (by kernel_rfl) (by kernel_rfl) (by kernel_rfl) (by kernel_rfl) (by kernel_rfl) H4 (n:=18) (by kernel_rfl) ⟨hB0,by rw[L0];exact hO0,fun _=>rfl⟩ ?_ ?_
    ·repeat' first | refine OpsOk.cons ?_ ?_ | fail
     ·exact OpOk.mov rfl rfl F0 RowM.rf rfl fun ρ w r k E=>E.z 5 17 [16,14,7,0] (by kernel_rfl)
     ·refine OpOk.val rfl rfl F1 RowM.rf fun ρ w r k E hI K hK=>?_
      have e1:ρ (.tmp 1)=.pointer (some ⟨L,0,none⟩):=E.n 1 (by kernel_rfl)
      obtain⟨x0,x1,x2,x3,x4⟩:=zcZ (H2.o w hI.1)
      rw[HK.o]at x4
      have Ha:=zaZ (H2.o w hI.1)
      go_simp
      exact hK
     ·refine OpOk.val rfl rfl F2 RowM.rf fun ρ w r k E hI K hK=>?_
      have e87:=E.e 87 1 (by kernel_rfl) F1
      obtain⟨x0,x1,x2,x3,x4⟩:=zcZ (H2.o w hI.1)
      rw[HK.o]at x4
      have Ha:=zaZ (H2.o w hI.1)
      go_simp
      exact hK
     ·exact OpOk.mov rfl rfl F3 RowM.rf rfl fun ρ w r k E=>E.n 6 (by kernel_rfl)
     ·refine OpOk.val rfl rfl F4 RowM.rf fun ρ w r k E hI K hK=>?_
      have e88:=E.e 88 2 (by kernel_rfl) F2
      have e89:=E.e 89 3 (by kernel_rfl) F3
      obtain⟨q0,q1⟩:=Hr.o w (H6.o w hI.1)
      go_simp
      exact hK
     ·refine OpOk.val rfl rfl F5 RowM.rf fun ρ w r k E hI K hK=>?_
      have e90:=E.e 90 4 (by kernel_rfl) F4
      obtain⟨q0,q1⟩:=Hr.o w (H6.o w hI.1)
      go_simp
      exact hK
     ·refine OpOk.one rfl rfl F6 H1.o fun ρ w r k E hI K hK=>?_
      have e91:=E.e 91 5 (by kernel_rfl) F5
      go_simp
      exact hK _ rfl
     ·exact OpOk.app0 (s:=86) (x:=92) (q0:=0) (q:=6) rfl rfl rfl F7 L0 L1 rfl (by simp) (by(have h1:=H3.o;simp only[List.length_append,List.length_cons,List.length_nil]at *;omega)) H1.o F0 (by kernel_rfl) F6 (by kernel_rfl)
     ·refine OpOk.val rfl rfl F8 RowM.rf fun ρ w r k E hI K hK=>?_
      have e1:ρ (.tmp 1)=.pointer (some ⟨L,0,none⟩):=E.n 1 (by kernel_rfl)
      obtain⟨x0,x1,x2,x3,x4⟩:=zcZ (H2.o w hI.1)
      rw[HK.o]at x4
      have Ha:=zaZ (H2.o w hI.1)
      go_simp
      exact hK
     ·refine OpOk.val rfl rfl F9 RowM.rf fun ρ w r k E hI K hK=>?_
      have e94:=E.e 94 8 (by kernel_rfl) F8
      obtain⟨x0,x1,x2,x3,x4⟩:=zcZ (H2.o w hI.1)
      rw[HK.o]at x4
      have Ha:=zaZ (H2.o w hI.1)
      go_simp
      exact hK
     ·exact OpOk.mov rfl rfl F10 RowM.rf rfl fun ρ w r k E=>E.n 6 (by kernel_rfl)
     ·refine OpOk.val rfl rfl F11 RowM.rf fun ρ w r k E hI K hK=>?_
      have e95:=E.e 95 9 (by kernel_rfl) F9
      have e96:=E.e 96 10 (by kernel_rfl) F10
      have H0:=Hq.o w (H6.o w hI.1)
      have hg:=H0.1
      have c0:=H0.2.1
      have c1:=H0.2.2.1
      have c2:=H0.2.2.2.1
      have c3:=H0.2.2.2.2.1
      have c4:=H0.2.2.2.2.2
      clear H0
      go_simp
      exact hK
     ·refine OpOk.val rfl rfl F12 RowM.rf fun ρ w r k E hI K hK=>?_
      have e97:=E.e 97 11 (by kernel_rfl) F11
      have H0:=Hq.o w (H6.o w hI.1)
      have hg:=H0.1
      have c0:=H0.2.1
      have c1:=H0.2.2.1
      have c2:=H0.2.2.2.1
      have c3:=H0.2.2.2.2.1
      have c4:=H0.2.2.2.2.2
      clear H0
      go_simp
      exact hK
     ·exact OpOk.call (args:=#[.agg #[.int .i64 p.kind,.string ⟨p.name.toArray⟩,.slice An1 p.names.length cn1,.slice Ae1 p.embeds.length ce1,.slice Aq p.parts.length cq]]) rfl rfl F13 H1.o rfl Tryz.func28 (by kernel_rfl) rfl (fun ρ w r k E=>by simp only[List.map_toArray,List.map_cons,List.map_nil,E.e 98 12 (by kernel_rfl) F12]) fun w hb=>Hz.o p Hc.o.1 Hc.o.2.1 _ w (IsTy.below (H6.o w hb) _ _ J1.o)
     ·exact OpOk.appN (j:=0) (s:=93) (x:=99) (p:=7) (q:=13) rfl rfl rfl F14 L1 L2 rfl (by exact Hc.o.2.2) (by(have h1:=H3.o;simp only[List.length_append,List.length_cons,List.length_nil]at *;omega)) H1.o F7 (by kernel_rfl) F13 (by kernel_rfl)
     ·refine OpOk.one rfl rfl F15 H1.o fun ρ w r k E hI K hK=>?_
      have c:=E.c
      go_simp
      exact hK _ rfl
     ·exact OpOk.appN (j:=1) (s:=100) (x:=101) (p:=14) (q:=15) rfl rfl rfl F16 L2 L3 rfl (by simp) (by(have h1:=H3.o;simp only[List.length_append,List.length_cons,List.length_nil]at *;omega)) H1.o F14 (by kernel_rfl) F15 (by kernel_rfl)
     ·exact OpOk.asg rfl rfl F17 F16 rfl (by kernel_rfl)
     ·exact .nil
    ·intro uq wq rq hI hF
     have f17:uq 17=rq:=((zmZ F17 (hF 17 (by decide))).2 rfl).symm
     have hBz:=hI.1
     have hOz:=hI.2.1
     rw[show([7,14,16]:List Nat).length=3 from rfl,L3]at hOz
     simp only[List.toList_toArray,fillAct,Act.put,List.setIfInBounds_toArray,List.set_cons_zero,List.set_cons_succ,f17]
     clear hI hF F0 F1 F2 F3 F4 F5 F6 F7 F8 F9 F10 F11 F12 F13 F14 F15 F16 F17 H4 L0 L1 L2 L3
     obtain⟨A9,c9,rfl⟩:=hOz.slice
     have Hv:=zh hOz
     have Hw:=zh hBz
     clear hOz hBz
     go_wp2_with fail
     go_roundg (k-(m+1))
     case measure=>have:=HI.o;omega
     case rel=>exact⟨m+1,A9,_,c9,rfl,rfl,by simp,hlt,by rw[J7.o];simpa[List.append_assoc]using Hv.o,Hw.o⟩
   | false=>
    go_wp2_with fail
    clear z0 z1
    have hB0:Below B w2 wr.drew:=Hb.o.drew
    have hO0:OwnS wr.drew B (.slice A5 n5 c5) ([[123]]++Sx.fields (t.names.take m) (t.embeds.take m) (t.parts.take m)):=HO.o
    clear x0 x1 x2 x3 x4 Hs
    obtain⟨Fs,hFs⟩:∃F:List (Value→World→Value→Nat→Prop),[IsF (.slice A5 n5 c5),IsF (.pointer (some ⟨L,2,none⟩)),IsF (.slice (some ⟨g1,off1,none⟩) t.names.length cn),IsF (.int .i64 (m:Int)),IsF (.pointer (some ⟨g1,off1+m,none⟩)),IsF (.string ⟨s.toArray⟩),StrF [s],AppF 0,IsF (.pointer (some ⟨L,4,none⟩)),IsF (.slice (some ⟨g,off,none⟩) k cp),IsF (.int .i64 (m:Int)),IsF (.pointer (some ⟨g,off+m * 5,none⟩)),IsF (.agg #[.int .i64 p.kind,.string ⟨p.name.toArray⟩,.slice An1 p.names.length cn1,.slice Ae1 p.embeds.length ce1,.slice Aq p.parts.length cq]),StrF (Sx.typ p),AppF 1,StrF [[59]],AppF 2,AppF 2]=F:=⟨_,rfl⟩
    obtain⟨F0,F1,F2,F3,F4,F5,F6,F7,F8,F9,F10,F11,F12,F13,F14,F15,F16,F17,-⟩:=zwZ hFs
    have H4:AllStay RowM Fs:=by rw[←hFs];repeat (first | exact .nil | refine .cons (by first | exact IsF.stays | exact AppF.stays | exact StrF.stays) ?_)
    obtain⟨Lf,hLf⟩:∃f:Nat→List Lx.Bytes,(fun k=>([([[123]]++Sx.fields (t.names.take m) (t.embeds.take m) (t.parts.take m)),([[123]]++Sx.fields (t.names.take m) (t.embeds.take m) (t.parts.take m))++[s],([[123]]++Sx.fields (t.names.take m) (t.embeds.take m) (t.parts.take m))++[s]++(Sx.typ p),([[123]]++Sx.fields (t.names.take m) (t.embeds.take m) (t.parts.take m))++[s]++(Sx.typ p)++[[59]]]:List (List Lx.Bytes)).getD k [])=f:=⟨_,rfl⟩
    have L0:Lf 0=([[123]]++Sx.fields (t.names.take m) (t.embeds.take m) (t.parts.take m)):=by rw[←hLf];rfl
    have L1:Lf 1=([[123]]++Sx.fields (t.names.take m) (t.embeds.take m) (t.parts.take m))++[s]:=by rw[←hLf];rfl
    have L2:Lf 2=([[123]]++Sx.fields (t.names.take m) (t.embeds.take m) (t.parts.take m))++[s]++(Sx.typ p):=by rw[←hLf];rfl
    have L3:Lf 3=([[123]]++Sx.fields (t.names.take m) (t.embeds.take m) (t.parts.take m))++[s]++(Sx.typ p)++[[59]]:=by rw[←hLf];rfl
    clear hFs hLf
    refine zoZ (by kernel_rfl) [7,14,16] (RowI B w2 (.slice A5 n5 c5) Lf) RowM Fs (.slice A5 n5 c5) (by kernel_rfl) (by kernel_rfl) (by kernel_rfl) (by kernel_rfl) (by kernel_rfl) H4 (n:=18) (by kernel_rfl) ⟨hB0,by rw[L0];exact hO0,fun _=>rfl⟩ ?_ ?_
    ·repeat' first | refine OpsOk.cons ?_ ?_ | fail
     ·exact OpOk.mov rfl rfl F0 RowM.rf rfl fun ρ w r k E=>E.z 5 17 [16,14,7,0] (by kernel_rfl)
     ·refine OpOk.val rfl rfl F1 RowM.rf fun ρ w r k E hI K hK=>?_
      have e1:ρ (.tmp 1)=.pointer (some ⟨L,0,none⟩):=E.n 1 (by kernel_rfl)
      obtain⟨x0,x1,x2,x3,x4⟩:=zcZ (H2.o w hI.1)
      rw[HK.o]at x4
      have Ha:=zaZ (H2.o w hI.1)
      go_simp
      exact hK
     ·refine OpOk.val rfl rfl F2 RowM.rf fun ρ w r k E hI K hK=>?_
      have e87:=E.e 87 1 (by kernel_rfl) F1
      obtain⟨x0,x1,x2,x3,x4⟩:=zcZ (H2.o w hI.1)
      rw[HK.o]at x4
      have Ha:=zaZ (H2.o w hI.1)
      go_simp
      exact hK
     ·exact OpOk.mov rfl rfl F3 RowM.rf rfl fun ρ w r k E=>E.n 6 (by kernel_rfl)
     ·refine OpOk.val rfl rfl F4 RowM.rf fun ρ w r k E hI K hK=>?_
      have e88:=E.e 88 2 (by kernel_rfl) F2
      have e89:=E.e 89 3 (by kernel_rfl) F3
      obtain⟨q0,q1⟩:=Hr.o w (H6.o w hI.1)
      go_simp
      exact hK
     ·refine OpOk.val rfl rfl F5 RowM.rf fun ρ w r k E hI K hK=>?_
      have e90:=E.e 90 4 (by kernel_rfl) F4
      obtain⟨q0,q1⟩:=Hr.o w (H6.o w hI.1)
      go_simp
      exact hK
     ·refine OpOk.one rfl rfl F6 H1.o fun ρ w r k E hI K hK=>?_
      have e91:=E.e 91 5 (by kernel_rfl) F5
      go_simp
      exact hK _ rfl
     ·exact OpOk.app0 (s:=86) (x:=92) (q0:=0) (q:=6) rfl rfl rfl F7 L0 L1 rfl (by simp) (by(have h1:=H3.o;simp only[List.length_append,List.length_cons,List.length_nil]at *;omega)) H1.o F0 (by kernel_rfl) F6 (by kernel_rfl)
     ·refine OpOk.val rfl rfl F8 RowM.rf fun ρ w r k E hI K hK=>?_
      have e1:ρ (.tmp 1)=.pointer (some ⟨L,0,none⟩):=E.n 1 (by kernel_rfl)
      obtain⟨x0,x1,x2,x3,x4⟩:=zcZ (H2.o w hI.1)
      rw[HK.o]at x4
      have Ha:=zaZ (H2.o w hI.1)
      go_simp
      exact hK
     ·refine OpOk.val rfl rfl F9 RowM.rf fun ρ w r k E hI K hK=>?_
      have e94:=E.e 94 8 (by kernel_rfl) F8
      obtain⟨x0,x1,x2,x3,x4⟩:=zcZ (H2.o w hI.1)
      rw[HK.o]at x4
      have Ha:=zaZ (H2.o w hI.1)
      go_simp
      exact hK
     ·exact OpOk.mov rfl rfl F10 RowM.rf rfl fun ρ w r k E=>E.n 6 (by kernel_rfl)
     ·refine OpOk.val rfl rfl F11 RowM.rf fun ρ w r k E hI K hK=>?_
      have e95:=E.e 95 9 (by kernel_rfl) F9
      have e96:=E.e 96 10 (by kernel_rfl) F10
      have H0:=Hq.o w (H6.o w hI.1)
      have hg:=H0.1
      have c0:=H0.2.1
      have c1:=H0.2.2.1
      have c2:=H0.2.2.2.1
      have c3:=H0.2.2.2.2.1
      have c4:=H0.2.2.2.2.2
      clear H0
      go_simp
      exact hK
     ·refine OpOk.val rfl rfl F12 RowM.rf fun ρ w r k E hI K hK=>?_
      have e97:=E.e 97 11 (by kernel_rfl) F11
      have H0:=Hq.o w (H6.o w hI.1)
      have hg:=H0.1
      have c0:=H0.2.1
      have c1:=H0.2.2.1
      have c2:=H0.2.2.2.1
      have c3:=H0.2.2.2.2.1
      have c4:=H0.2.2.2.2.2
      clear H0
      go_simp
      exact hK
     ·exact OpOk.call (args:=#[.agg #[.int .i64 p.kind,.string ⟨p.name.toArray⟩,.slice An1 p.names.length cn1,.slice Ae1 p.embeds.length ce1,.slice Aq p.parts.length cq]]) rfl rfl F13 H1.o rfl Tryz.func28 (by kernel_rfl) rfl (fun ρ w r k E=>by simp only[List.map_toArray,List.map_cons,List.map_nil,E.e 98 12 (by kernel_rfl) F12]) fun w hb=>Hz.o p Hc.o.1 Hc.o.2.1 _ w (IsTy.below (H6.o w hb) _ _ J1.o)
     ·exact OpOk.appN (j:=0) (s:=93) (x:=99) (p:=7) (q:=13) rfl rfl rfl F14 L1 L2 rfl (by exact Hc.o.2.2) (by(have h1:=H3.o;simp only[List.length_append,List.length_cons,List.length_nil]at *;omega)) H1.o F7 (by kernel_rfl) F13 (by kernel_rfl)
     ·refine OpOk.one rfl rfl F15 H1.o fun ρ w r k E hI K hK=>?_
      have c:=E.c
      go_simp
      exact hK _ rfl
     ·exact OpOk.appN (j:=1) (s:=100) (x:=101) (p:=14) (q:=15) rfl rfl rfl F16 L2 L3 rfl (by simp) (by(have h1:=H3.o;simp only[List.length_append,List.length_cons,List.length_nil]at *;omega)) H1.o F14 (by kernel_rfl) F15 (by kernel_rfl)
     ·exact OpOk.asg rfl rfl F17 F16 rfl (by kernel_rfl)
     ·exact .nil
    ·intro uq wq rq hI hF
     have f17:uq 17=rq:=((zmZ F17 (hF 17 (by decide))).2 rfl).symm
     have hBz:=hI.1
     have hOz:=hI.2.1
     rw[show([7,14,16]:List Nat).length=3 from rfl,L3]at hOz
     simp only[List.toList_toArray,fillAct,Act.put,List.setIfInBounds_toArray,List.set_cons_zero,List.set_cons_succ,f17]
     clear hI hF F0 F1 F2 F3 F4 F5 F6 F7 F8 F9 F10 F11 F12 F13 F14 F15 F16 F17 H4 L0 L1 L2 L3
     obtain⟨A9,c9,rfl⟩:=hOz.slice
     have Hv:=zh hOz
     have Hw:=zh hBz
     clear hOz hBz
     go_wp2_with fail
     go_roundg (k-(m+1))
     case measure=>have:=HI.o;omega
     case rel=>exact⟨m+1,A9,_,c9,rfl,rfl,by simp,hlt,by rw[J7.o];simpa[List.append_assoc]using Hv.o,Hw.o⟩
  ·have Ji:¬(m:Int)<(k:Int):=by omega
   have H8:Sx.fields (t.names.take m) (t.embeds.take m) (t.parts.take m)=Sx.fields t.names t.embeds t.parts:=by
    rw[List.take_of_length_le (show t.names.length≤m by have:=HK.o;have:=Hy.o;omega),List.take_of_length_le (show t.embeds.length≤m by have:=HK.o;have:=Hu.o;omega),List.take_of_length_le (show t.parts.length≤m by have:=HK.o;omega)]
   have Jj:=zh H8
   have H3:=zh (show([[123]]++Sx.fields (t.names.take m) (t.embeds.take m) (t.parts.take m)).length≤50000000 by
    have h1:=Sx.fields_len (t.names.take m) (t.embeds.take m) (t.parts.take m)
    have h2:=Sx.sizeL_take_le t.parts m
    have h4:=Hp.o
    simp only[List.length_append,List.length_cons,List.length_nil]
    omega)
   clear H8
   obtain⟨wa,hwa⟩:=zE (wr.alloc (.cells #[.string ⟨#[125]⟩] 9))
   have Hm:OwnS wa B (.slice A5 n5 c5) ([[123]]++Sx.fields (t.names.take m) (t.embeds.take m) (t.parts.take m)):=by rw[←hwa];exact HO.o.below ((Below.refl _ _).alloc (Nat.le_refl _) _)
   have Hi:Below B w2 wa:=by rw[←hwa];exact Hb.o.alloc (Nat.le_trans H1.o Hb.o.size) _
   have Hf:Str wa (.slice (some ⟨wr.heap.size,0,none⟩) 1 1) [[125]] (.slice A5 n5 c5):=by rw[←hwa];exact Str.one (heap_alloc_new wr _) (fun q hq=>(HO.o.lt q hq).2)
   have Hh:=zh Hm
   have H9:=zh Hi
   have Ht:=zh Hf
   clear Hm Hi Hf
   go_wp2_with (at_builtin;refine zpZ rfl _ _ rfl rfl rfl Hh.o Ht.o (by decide) (by have:=H3.o;simp only[List.length_append,List.length_cons,List.length_nil]at *;omega) (Nat.le_trans H1.o H9.o.size) ?_;intro r5 w5 hO5 Hn;have hB5:=zzZ H9.o (Nat.le_trans H1.o H9.o.size) Hn (fun g hg=>(Hh.o.lt g hg).1);have Ho:=zh hO5;have Hl:=zh hB5;clear hO5 hB5 Hn)
   go_ret
   subst hL
   exact⟨_,rfl,by rw[HT.o,←Jj.o];exact Ho.o.base_le Jl.o,H6.o _ Hl.o⟩
theorem zkvZ:∀n:Nat,n≤1000000→TypedOk n:=by
 intro n
 induction n with
 | zero=>intro _ t h;have:=Sx.size_pos t;omega
 | succ n ih=>
  intro hn t H0 hr v W ht
  have ih:=ih (by omega)
  obtain⟨d,hd⟩:=id hr
  obtain⟨d',-,-,hsh⟩:=Sx.right_parts hd
  rcases Sx.shape_kind hsh with hk | hk | hk | hk | hk | hk | hk | hk
  ·exact zvvZ n hn ih t H0 hr hk v W ht
  ·exact zvwZ n hn ih t H0 hr hk v W ht
  ·exact zvxZ n hn ih t H0 hr hk v W ht
  ·exact zvyZ n hn ih t H0 hr hk v W ht
  ·exact zvzZ n hn ih t H0 hr hk v W ht
  ·exact zwcZ n hn ih t H0 hr hk v W ht
  ·exact zwaZ n hn ih t H0 hr hk v W ht
  ·exact zwbZ n hn ih t H0 hr hk v W ht
structure Boxed (W:World) (cs:Array Value) (L B:Nat) (w2:World):Prop where
 box:w2.heap[L]? =some (.cells cs 39 (0,0))
 bb:B≤w2.heap.size
 be:w2.heap.size=B
 wx:∀X,Below B w2 X→Below W.heap.size W X
 gx:∀X,Below B w2 X→GL X∧NG≤X.heap.size
 wb:W.heap.size≤B
 bx:∀X,Below B w2 X→X.heap[L]? =some (.cells cs 39 (0,0))
 r2:Below B w2 w2
 o1:∀s:Lx.Bytes,OwnS (w2.alloc (.cells #[.string ⟨s.toArray⟩] 9)) B (.slice (some ⟨B,0,none⟩) 1 1) [s]
theorem boxed {W:World} (hG:GL W) (hN:NG≤W.heap.size) (cs:Array Value):∃L B w2,W.heap.size=L∧W.alloc (.cells cs 39)=w2∧w2.heap.size=B∧Hid (Boxed W cs L B w2):=by
 refine⟨_,_,_,rfl,rfl,rfl,?_⟩
 obtain⟨w2,hw2⟩:=zE (W.alloc (.cells cs 39))
 rw[hw2]
 have H0:w2.heap[W.heap.size]? =some (.cells cs 39 (0,0)):=by rw[←hw2];exact heap_alloc_new W _
 have H2:Below W.heap.size W w2:=by rw[←hw2];exact(Below.refl _ _).alloc (Nat.le_refl _) _
 have hLB:=zaZ H0
 have H1:∀X,Below w2.heap.size w2 X→Below W.heap.size W X:=fun X h=>H2.trans (h.mono (Nat.le_of_lt hLB))
 exact⟨H0,Nat.le_refl _,rfl,H1,fun X h=>⟨hG.below (H1 X h),Nat.le_trans hN (H1 X h).size⟩,Nat.le_of_lt hLB,fun X h=>(h.block _ hLB).trans H0,Below.refl _ _,fun s=>OwnS.one (heap_alloc_new w2 _) (Nat.le_refl _)⟩
theorem ziqZ {P:Program} {o:Oper} {ρ:Operand→Value} {w:World} {K:Value→World→Prop} {x:Operand} {i L:Nat} (ho:o.op=.fieldAddr 39 x i) (hi:i≤6) (hx:ρ x=.pointer (some ⟨L,0,none⟩)) (hl:L<w.heap.size)
  (h:K (.pointer (some ⟨L,i,none⟩)) w):opWp Tryz.prog o ρ w K:=by
 cases o with
 | mk dst op type pos after guard=>
  subst ho
  have hk:i=0∨i=1∨i=2∨i=3∨i=4∨i=5∨i=6:=by omega
  rcases hk with rfl | rfl | rfl | rfl | rfl | rfl | rfl <;> go_simp <;> exact h
theorem zkwZ {o:Oper} {ρ:Operand→Value} {w:World} {K:Value→World→Prop} {x:Operand} {T:TypeId} {a:Addr} {v:Value} (ho:o.op=.load T x) (hT:[3, 9, 24, 22, 37].contains T=true) (hx:ρ x=.pointer (some a)) (hl:w.cell? a=some v)
  (h:K v w):opWp Tryz.prog o ρ w K:=by
 cases o with
 | mk dst op type pos after guard=>
  subst ho
  simp only[List.contains_cons,List.contains_nil,Bool.or_eq_true,beq_iff_eq,Bool.false_eq_true,or_false]at hT
  rcases hT with rfl | rfl | rfl | rfl | rfl <;> go_simp <;> exact h
section
variable {ops:Array Oper} {Q:Exit→Act→World→Prop} {a:Act} {apps:List Nat} {Fs:List (Value→World→Value→Nat→Prop)} {i:Nat} {o:Oper} {B:Nat} {W:World} {R0:Value} {Ls:Nat→List Lx.Bytes} {W0:World} {cs:Array Value} {L:Nat}
theorem OpOk.fldB {d j:Nat} (HX:Boxed W0 cs L B W) (hi:apps.contains i=false) (hg:o.guard=none) (hF:nth Fs i=IsF (.pointer (some ⟨L,j,none⟩))) (ho:o.op=.fieldAddr 39 (.tmp d) j) (hj:decide (j≤6)=true)
  (hx:∀(ρ:Operand→Value) (w:World) (r:Value) (k:Nat),Ev ops.toList a Fs i ρ w r k→ρ (.tmp d)=.pointer (some ⟨L,0,none⟩)):OpOk Tryz.prog Q ops a apps (RowI B W R0 Ls) RowM (nth Fs) i o:=
 OpOk.val hi hg hF RowM.rf fun ρ w r k E hI K hK=>ziqZ (P:= Tryz.prog) ho (of_decide_eq_true hj) (hx ρ w r k E) (zaZ (HX.bx w hI.1)) hK
theorem OpOk.ldB {d q j:Nat} {T:TypeId} {v:Value} (HX:Boxed W0 cs L B W) (hi:apps.contains i=false) (hg:o.guard=none) (hF:nth Fs i=IsF v) (hq:nth Fs q=IsF (.pointer (some ⟨L,j,none⟩))) (ho:o.op=.load T (.tmp d)) (hT:[3, 9, 24, 22, 37].contains T=true)
  (hr:reads ops.toList i d q=true) (hc:cs[j]? =some v):OpOk Tryz.prog Q ops a apps (RowI B W R0 Ls) RowM (nth Fs) i o:=
 OpOk.val hi hg hF RowM.rf fun ρ w r k E hI K hK=>zkwZ ho hT (E.e d q hr hq) ((zdZ (HX.bx w hI.1) j).trans hc) hK
end
end Go.Proofs.YtdncljdfmdgdaaaGreatDoor
