/-
  The walks of within, part, list.
-/
import Derived.Test.YtdncljdfmdgdaaaGreatDoorM1
import Derived.Test.YtdncljdfmdgdaaaGreatDoorM20
set_option linter.unusedSimpArgs false
set_option linter.unusedVariables false
set_option maxRecDepth 100000
set_option maxHeartbeats 8000000
namespace Go.Proofs.YtdncljdfmdgdaaaGreatDoor
open Go.RowKit Go.Shelf Go.WideMaps
def ExprOk (W0:World) (b:Nat) (x:Sx.Ex):Prop:=∀(v:Value) (l:List Lx.Bytes) (w:World),Sx.okX x→IsEx W0 v x→Sx.sizeX x≤1000000→Wrote W0 b l.length l w→l.length+(Sx.expr SY x).length≤900000000→
 Calls Tryz.prog 64 #[.pointer (some ⟨b,0,none⟩),v] w fun e w'=>e=.returned (.tuple #[])∧Wrote W0 b (l++Sx.expr SY x).length (l++Sx.expr SY x) w'∧KeepW w w'
def WithinOk (W0:World) (b:Nat) (x:Sx.Ex):Prop:=∀(v:Value) (l:List Lx.Bytes) (w:World),Sx.okX x→IsEx W0 v x→Sx.sizeX x≤1000000→Wrote W0 b l.length l w→l.length+(Sx.within x).length≤900000000→
 Calls Tryz.prog 118 #[.pointer (some ⟨b,0,none⟩),v] w fun e w'=>e=.returned (.tuple #[])∧Wrote W0 b (l++Sx.within x).length (l++Sx.within x) w'∧KeepW w w'
def PartOk (W0:World) (b:Nat) (x:Sx.Ex) (lv:Nat):Prop:=∀(v:Value) (l:List Lx.Bytes) (w:World),Sx.okX x→IsEx W0 v x→Sx.sizeX x≤1000000→Wrote W0 b l.length l w→l.length+(Sx.part lv x).length≤900000000→
 Calls Tryz.prog 116 #[.pointer (some ⟨b,0,none⟩),v,.int .i64 (lv:Nat)] w fun e w'=>e=.returned (.tuple #[])∧Wrote W0 b (l++Sx.part lv x).length (l++Sx.part lv x) w'∧KeepW w w'
def ListOk (W0:World) (b:Nat) (xs:List Sx.Ex):Prop:=∀(v:Value) (l:List Lx.Bytes) (w:World),(∀x∈xs,Sx.okX x)→ExRow W0 v xs→Sx.sizeXs xs≤1000000→Wrote W0 b l.length l w→l.length+(Sx.listed xs).length≤900000000→
 Calls Tryz.prog 117 #[.pointer (some ⟨b,0,none⟩),v] w fun e w'=>e=.returned (.tuple #[])∧Wrote W0 b (l++Sx.listed xs).length (l++Sx.listed xs) w'∧KeepW w w'
theorem zimZ {W0:World} {b:Nat} {x:Sx.Ex} (ih:ExprOk W0 b x):WithinOk W0 b x:=by
 intro v l w hr ht hz h hc
 have H0:(Sx.within x).length=(Sx.expr SY x).length+2:=by simp[Sx.within]
 obtain⟨m,hm⟩:=zE (Sx.expr SY x)
 have H6:Sx.within x=[[40]]++m++[[41]]:=by unfold Sx.within;rw[hm]
 rw[hm]at H0
 have Ha:l.length+1≤1000000000:=by omega
 have Hd:(l++[[40]]).length+m.length≤900000000:=by simp;omega
 have Hc:(l++[[40]]++m).length+1≤1000000000:=by simp;omega
 have hE:∀w,Wrote W0 b (l++[[40]]).length (l++[[40]]) w→Calls Tryz.prog 64 #[.pointer (some ⟨b,0,none⟩),v] w fun e w'=>e=.returned (.tuple #[])∧Wrote W0 b (l++[[40]]++m).length (l++[[40]]++m) w'∧KeepW w w':=fun w hw=>by
  have:=ih v (l++[[40]]) w hr ht hz hw (by rw[hm];exact Hd)
  rwa [hm]at this
 obtain⟨At,ct,An,cn,Ap,cp,rfl,-⟩:=ht.agg
 obtain⟨L,hL⟩:=zE (w.heap.size)
 obtain⟨w2,hw2⟩:=zE (w.alloc (.cells #[.int .i64 x.pos,.int .i64 x.kind,.int .i64 x.n,.string ⟨x.s.toArray⟩,.slice At x.t.length ct,.slice An x.names.length cn,.slice Ap x.parts.length cp] 39))
 have H1:=Live.first h #[.int .i64 x.pos,.int .i64 x.kind,.int .i64 x.n,.string ⟨x.s.toArray⟩,.slice At x.t.length ct,.slice An x.names.length cn,.slice Ap x.parts.length cp] 39 hw2
 rw[hL]at H1
 have H2:=zh H1
 clear H1 h
 have HE:=zh hE
 have Hb:=zh H6
 clear hE H6 ih hr hm hc H0 ht hz
 go_enter Tryz.func118, Tryz.ntmps118
 obtain⟨x0,x1,x2,x3,x4,x5,x6⟩:=zbZ H2.o.b1
 obtain⟨hl1,hl2,hbl⟩:=H2.o.lt
 go_upto_region 2 with(go_at_call 100;refine(H2.o.lput1 [40] ⟨by simp,by simp⟩ Ha).mono ?_;rintro e w3 ⟨rfl,hW3,H7⟩)
 have H3:=zh (H2.o.go oEx oEx hW3 H7)
 clear hW3 H7
 clear x0 x1 x2 x3 x4 x5 x6 hl1 hl2 hbl
 obtain⟨x0,x1,x2,x3,x4,x5,x6⟩:=zbZ H3.o.b1
 obtain⟨hl1,hl2,hbl⟩:=H3.o.lt
 go_upto_region 3 with(go_at_call 64;refine(HE.o w3 H3.o.wr).mono ?_;rintro e w4 ⟨rfl,hW4,H8⟩)
 have H4:=zh (H3.o.go oEx oEx hW4 H8)
 clear hW4 H8
 clear x0 x1 x2 x3 x4 x5 x6 hl1 hl2 hbl
 obtain⟨x0,x1,x2,x3,x4,x5,x6⟩:=zbZ H4.o.b1
 obtain⟨hl1,hl2,hbl⟩:=H4.o.lt
 go_wp2_with (go_at_call 100;refine(H4.o.lput1 [41] ⟨by simp,by simp⟩ Hc).mono ?_;rintro e w5 ⟨rfl,hW5,H9⟩)
 have H5:=zh (H4.o.go oEx oEx hW5 H9)
 clear hW5 H9
 clear x0 x1 x2 x3 x4 x5 x6 hl1 hl2 hbl
 go_end0
 refine⟨rfl,?_,H5.o.kp⟩
 rw[Hb.o]
 simpa[List.append_assoc]using H5.o.wr
theorem zbvZ {W0:World} {b:Nat} {x:Sx.Ex} (ih:ExprOk W0 b x) (lv:Nat) (H0:lv≤8) (hk1:1≤x.kind) (hk2:x.kind≤21):PartOk W0 b x lv:=by
 intro v l w hr ht hz h hc
 have H5:=zimZ ih v l
 have H4:=ih v l
 have hk:=fun w=>zgnZ x.kind w hk1 hk2
 obtain⟨k,hke⟩:=zE (Sx.level x.kind)
 rw[hke]at hk
 have Hb:k≤8:=by rw[←hke];unfold Sx.level;(repeat' split) <;> omega
 have Ha:(0:Int)≤(k:Int):=by omega
 have H9:(0:Int)≤(lv:Int):=by omega
 have hPA:=zh (show Sx.part lv x=if k<lv then Sx.within x else Sx.expr SY x by unfold Sx.part;rw[hke])
 have hHT:=zh ht
 have HZ:=zh hz
 have HC:=zh hc
 obtain⟨At,ct,An,cn,Ap,cp,rfl,-⟩:=ht.agg
 obtain⟨L,hL⟩:=zE (w.heap.size)
 obtain⟨w2,hw2⟩:=zE (w.alloc (.cells #[.int .i64 x.pos,.int .i64 x.kind,.int .i64 x.n,.string ⟨x.s.toArray⟩,.slice At x.t.length ct,.slice An x.names.length cn,.slice Ap x.parts.length cp] 39))
 have H0:=Live.first h #[.int .i64 x.pos,.int .i64 x.kind,.int .i64 x.n,.string ⟨x.s.toArray⟩,.slice At x.t.length ct,.slice An x.names.length cn,.slice Ap x.parts.length cp] 39 hw2
 rw[hL]at H0
 have H2:=zh H0
 clear H0 h
 have H7:=zh H5
 have H6:=zh H4
 have HR:=zh hr
 have Hc:=zh hke
 have HK:=zh hk
 clear H5 H4 ih hr hc ht hz hke hk hk1 hk2
 obtain⟨x0,x1,x2,x3,x4,x5,x6⟩:=zbZ H2.o.b1
 obtain⟨hl1,hl2,hbl⟩:=H2.o.lt
 by_cases hlt:k<lv
 ·have hi:(k:Int)<(lv:Int):=by omega
  have hP:Sx.part lv x=Sx.within x:=by rw[hPA.o,if_pos hlt]
  have H1:=zh (show l.length+(Sx.within x).length≤900000000 by have:=HC.o;rwa [hP]at this)
  have HP:=zh hP
  clear hlt hP
  go_enter Tryz.func116, Tryz.ntmps116
  go_wp2_with (first
   | (go_at_call 136;refine(HK.o w2).mono ?_;rintro e w' ⟨rfl,rfl⟩)
   | (go_at_call 118;refine(H7.o w2 HR.o hHT.o HZ.o H2.o.wr H1.o).mono ?_;rintro e w3 ⟨rfl,hW3,H3⟩))
  go_end0
  rw[HP.o]
  exact⟨rfl,hW3,H2.o.kp.trans H3⟩
 ·have hi:¬(k:Int)<(lv:Int):=by omega
  have H8:(lv:Int)≤(k:Int):=by omega
  have hP:Sx.part lv x=Sx.expr SY x:=by rw[hPA.o,if_neg hlt]
  have H1:=zh (show l.length+(Sx.expr SY x).length≤900000000 by have:=HC.o;rwa [hP]at this)
  have HP:=zh hP
  clear hlt hP
  go_enter Tryz.func116, Tryz.ntmps116
  go_wp2_with (first
   | (go_at_call 136;refine(HK.o w2).mono ?_;rintro e w' ⟨rfl,rfl⟩)
   | (go_at_call 64;refine(H6.o w2 HR.o hHT.o HZ.o H2.o.wr H1.o).mono ?_;rintro e w3 ⟨rfl,hW3,H3⟩))
  go_end0
  rw[HP.o]
  exact⟨rfl,hW3,H2.o.kp.trans H3⟩
theorem Sx.list_append (S:Sx.Says):∀(l m:List Sx.Ex) (i:Nat),Sx.list S i (l++m)=Sx.list S i l++Sx.list S (i+l.length) m
 | [],m,i=>by simp[Sx.list]
 | x::l,m,i=>by
  rw[List.cons_append,Sx.list,Sx.list,Sx.list_append S l m (i+1),List.length_cons,show i+1+l.length=i+(l.length+1)by omega]
  simp[List.append_assoc]
theorem Sx.list_take {l:List Sx.Ex} {m:Nat} (h:m<l.length):Sx.list SY 0 (l.take (m+1))=Sx.list SY 0 (l.take m)++(if 0<m then [[44]]else [])++Sx.expr SY l[m]:=by
 rw[List.take_succ_eq_append_getElem h,Sx.list_append,Nat.zero_add,List.length_take,Nat.min_eq_left (by omega)]
 simp[Sx.list,List.append_assoc]
theorem Sx.list_le (l:List Sx.Ex) (m:Nat):(Sx.list SY 0 (l.take m)).length≤(Sx.list SY 0 l).length:=by
 conv=>rhs;rw[←List.take_append_drop m l,Sx.list_append,List.length_append]
 omega
theorem zmhZ {W0:World} {b:Nat} {xs:List Sx.Ex} (ih:∀x∈xs,ExprOk W0 b x):ListOk W0 b xs:=by
 intro v l w hr ht hz h hc
 have H8:(Sx.listed xs).length=(Sx.list SY 0 xs).length+2:=by simp[Sx.listed]
 have Hq:=Sx.length_sizeXs xs
 obtain⟨A,c,rfl,hcap,hrow⟩:=ht
 have ht:ExRow W0 (.slice A xs.length c) xs:=⟨A,c,rfl,hcap,hrow⟩
 obtain⟨k,hk⟩:=zE (xs.length)
 rw[hk]at ht ⊢
 have J1:(k:Int)≤1000000:=by omega
 have J2:(0:Int)≤(k:Int):=by omega
 have Hh:l.length+1≤1000000000:=by omega
 obtain⟨lf,hlf⟩:=zE ((Sx.list SY 0 xs).length)
 have J3:l.length+lf+2≤900000000:=by omega
 have Hy:=h.lt
 have HX:=zh h
 have HK:=zh hk
 have HP:=zh ht
 have HR:=zh hr
 have HZ:=zh hz
 have Hp:=zh ih
 have Hb:=zh hlf
 clear h hr ht hz hc H8 hk ih Hq hcap hrow hlf
 go_enter Tryz.func117, Tryz.ntmps117
 go_upto_region 1 with(go_at_call 100;refine(put1 (s:=[40]) HX.o ⟨by simp,by simp⟩ Hh).mono ?_;rintro e w3 ⟨rfl,hW3,Hd⟩)
 have Ho:=zh Hd
 have H3:=zh hW3.tight
 have Hi:=hW3.lt
 clear hW3 Hd
 go_wp2_with fail
 go_loopg [13] k (fun i v wr=>∃(m:Nat),i=k-m∧v=.int .i64 (m:Int)∧m≤k∧Wrote W0 b (l++[[40]]++Sx.list SY 0 (xs.take m)).length (l++[[40]]++Sx.list SY 0 (xs.take m)) wr∧KeepW w3 wr)
 case atStart=>exact⟨0,rfl,rfl,Nat.zero_le _,by simpa[Sx.list]using H3.o,KeepW.refl _⟩
 case round=>
  obtain⟨m,hi,rfl,hm,hW,hkw⟩:=hrel
  have Ht:=Sx.list_le xs m
  have HI:=zh hi
  have m0:(0:Int)≤(m:Int):=by omega
  have Hx:=hW.lt
  have Hk:=zh (Ho.o.trans hkw)
  have H9:=zh hkw
  rw[Hb.o]at Ht
  by_cases hlt:m<k
  ·have Hw:(m:Int)<(k:Int):=by omega
   have H7:m<xs.length:=by have:=HK.o;omega
   have H1:=Sx.list_le xs (m+1)
   have Hf:=zh hW
   clear hi hW hkw
   obtain⟨g,off,At,ct,An,cn,Aq,cq,rfl,hty,hc7⟩:=HP.o.spot m H7
   obtain⟨x,hxe⟩:=zE (xs[m]'H7)
   have H0:x∈xs:=by rw[←hxe];exact List.getElem_mem H7
   have H2:=Sx.list_take H7
   rw[hxe]at hc7 hty H2
   obtain⟨hg,c0,c1,c2,c3,c4,c5,c6⟩:=hc7 wr Hf.o.below
   have Hr:=Sx.sizeX_mem H0
   have Hc:Sx.sizeX x≤1000000:=by have:=HZ.o;omega
   obtain⟨q,hq⟩:=zE (Sx.expr SY x)
   rw[hq]at H2
   rw[H2,Hb.o]at H1
   obtain⟨lm,hlm⟩:=zE (Sx.list SY 0 (xs.take m))
   rw[hlm]at H2 H1
   have Hj:=zh (show Wrote W0 b (l++[[40]]++lm).length (l++[[40]]++lm) wr by rw[←hlm];exact Hf.o)
   obtain⟨cm,hcm⟩:∃cm:List Lx.Bytes,(if 0<m then [[44]]else [])=cm:=⟨_,rfl⟩
   have Hs:cm.length≤1:=by rw[←hcm];split <;> simp
   rw[hcm]at H2 H1
   simp only[List.length_append]at H1
   have Hz:(l++[[40]]++lm).length+1≤1000000000:=by simp;omega
   have Hn:(l++[[40]]++lm++cm).length+q.length≤900000000:=by simp;omega
   have hE:=zh (show ∀u w,IsEx W0 u x→Wrote W0 b (l++[[40]]++lm++cm).length (l++[[40]]++lm++cm) w→Calls Tryz.prog 64 #[.pointer (some ⟨b,0,none⟩),u] w fun e w'=>e=.returned (.tuple #[])∧Wrote W0 b (l++[[40]]++lm++cm++q).length (l++[[40]]++lm++cm++q) w'∧KeepW w w' from fun u w hu hw=>by
    have:=Hp.o x H0 u (l++[[40]]++lm++cm) w (HR.o x H0) hu Hc hw (by rw[hq];exact Hn)
    rwa [hq]at this)
   have hCm:=zh (show ∀w,Wrote W0 b (l++[[40]]++lm).length (l++[[40]]++lm) w→Calls Tryz.prog 131 #[.pointer (some ⟨b,0,none⟩),.int .i64 (m:Int)] w fun e w'=>e=.returned (.tuple #[])∧Wrote W0 b ((l++[[40]]++lm).length+1) (l++[[40]]++lm++cm) w'∧KeepW w w' from fun w hw=>by
    have:=zemZ m hw (by omega) Hz
    rwa [hcm]at this)
   obtain⟨L,hL⟩:=zE (wr.heap.size)
   obtain⟨w4,hw4⟩:=zE (wr.alloc (.cells #[.int .i64 x.pos,.int .i64 x.kind,.int .i64 x.n,.string ⟨x.s.toArray⟩,.slice At x.t.length ct,.slice An x.names.length cn,.slice Aq x.parts.length cq] 39))
   have Ha:=Live.first Hj.o #[.int .i64 x.pos,.int .i64 x.kind,.int .i64 x.n,.string ⟨x.s.toArray⟩,.slice At x.t.length ct,.slice An x.names.length cn,.slice Aq x.parts.length cq] 39 hw4
   rw[hL]at Ha
   have H4:=zh Ha
   have Hm:=zh hty
   have Hv:=zh H2
   clear Ha hty H2 hcm hlm hq H0 hxe hc7 Hr Hc
   obtain⟨x0,x1,x2,x3,x4,x5,x6⟩:=zbZ H4.o.b1
   obtain⟨hl1,hl2,hbl⟩:=H4.o.lt
   go_upto_region 5 with(go_at_call 131;refine(hCm.o w4 H4.o.wr).mono ?_;rintro e w5 ⟨rfl,hW5,Hg⟩)
   have H5:=zh (H4.o.go oEx oEx hW5 Hg)
   clear hW5 Hg
   clear x0 x1 x2 x3 x4 x5 x6 hl1 hl2 hbl
   obtain⟨x0,x1,x2,x3,x4,x5,x6⟩:=zbZ H5.o.b1
   obtain⟨hl1,hl2,hbl⟩:=H5.o.lt
   go_wp2_with (go_at_call 64;refine(hE.o _ w5 Hm.o H5.o.wr).mono ?_;rintro e w6 ⟨rfl,hW6,He⟩)
   have H6:=zh (H5.o.go oEx oEx hW6 He)
   clear hW6 He
   clear x0 x1 x2 x3 x4 x5 x6 hl1 hl2 hbl
   go_roundg (k-(m+1))
   case measure=>have:=HI.o;omega
   case rel=>
    refine⟨m+1,rfl,by simp,hlt,?_,H9.o.trans H6.o.kp⟩
    rw[Hv.o]
    simpa[List.append_assoc]using H6.o.wr
  ·have Hw:¬(m:Int)<(k:Int):=by omega
   have Hu:(l++[[40]]++Sx.list SY 0 (xs.take m)).length+1≤1000000000:=by simp;omega
   have HW:=zh hW
   have Hl:=zh (List.take_of_length_le (show xs.length≤m by have:=HK.o;omega))
   clear hi hW hkw
   go_wp2_with (go_at_call 100;refine(put1 (s:=[41]) HW.o ⟨by simp,by simp⟩ Hu).mono ?_;rintro e w7 ⟨rfl,hW7,J0⟩)
   go_end0
   refine⟨rfl,?_,Hk.o.trans J0⟩
   unfold Sx.listed
   have h8:=hW7.tight
   rw[Hl.o]at h8
   simpa[List.append_assoc]using h8
theorem Sx.shape78 {k n:Int} {s:Lx.Bytes} {t:List Sx.Ty} {ns:List Lx.Bytes} {m:Nat} (hk:k=7∨k=8) (h:Sx.shapeX NM k n s t ns m=true):NM.great s=true∧m=ns.length∧Sx.apart NM ns=true:=by
 rcases hk with rfl | rfl <;> simp[Sx.shapeX]at h <;> exact⟨h.1,h.2.2.2.1,h.2.2.2.2⟩
theorem Sx.record_append (S:Sx.Says):∀(ns:List Lx.Bytes) (ps:List Sx.Ex) (i:Nat) (n:Lx.Bytes) (p:Sx.Ex),ns.length=ps.length→
  Sx.record S i (ns++[n]) (ps++[p])=Sx.record S i ns ps++((if 0<i+ps.length then [[44]]else [])++[n,[58]]++Sx.expr S p)
 | [],[],i,n,p,_=>by simp[Sx.record]
 | a::ns,t::ps,i,n,p,h1=>by
  rw[List.cons_append,List.cons_append,Sx.record,Sx.record,Sx.record_append S ns ps (i+1) n p (by simpa using h1),List.length_cons,show i+1+ps.length=i+(ps.length+1)by omega]
  simp[List.append_assoc]
 | [],_::_,_,_,_,h1=>by simp at h1
 | _::_,[],_,_,_,h1=>by simp at h1
theorem Sx.record_take {ns:List Lx.Bytes} {ps:List Sx.Ex} {m:Nat} (h1:ns.length=ps.length) (hm:m<ps.length) :
  Sx.record SY 0 (ns.take (m+1)) (ps.take (m+1))=Sx.record SY 0 (ns.take m) (ps.take m)++(if 0<m then [[44]]else [])++[ns[m]'(by omega),[58]]++Sx.expr SY ps[m]:=by
 rw[List.take_succ_eq_append_getElem hm,List.take_succ_eq_append_getElem (show m<ns.length by omega),Sx.record_append SY _ _ _ _ _ (by simp;omega),Nat.zero_add,List.length_take,Nat.min_eq_left (by omega)]
 simp[List.append_assoc]
theorem Sx.record_pre (S:Sx.Says):∀(ns:List Lx.Bytes) (ps:List Sx.Ex) (i m:Nat),(Sx.record S i (ns.take m) (ps.take m)).length≤(Sx.record S i ns ps).length
 | [],ps,i,m=>by simp[Sx.record]
 | n::ns,[],i,m=>by cases m <;> simp[Sx.record]
 | n::ns,p::ps,i,0=>by simp[Sx.record]
 | n::ns,p::ps,i,m+1=>by
  rw[List.take_succ_cons,List.take_succ_cons,Sx.record,Sx.record]
  have:=Sx.record_pre S ns ps (i+1) m
  simp only[List.length_append]
  omega
theorem Sx.nameX_len {t:Sx.Ex} {s:Lx.Bytes} (h:s∈t.names):s.length≤Sx.sizeX t:=by
 have h1:=Sx.sizeX_parts t
 have h2:=Sx.le_sum h
 omega
theorem Sx.textX_len (t:Sx.Ex):t.s.length≤Sx.sizeX t:=by
 have h1:=Sx.sizeX_parts t
 omega
def Sx.rec (x:Sx.Ex):List Lx.Bytes:=(if x.kind=8 then [[110,101,119]]else [])++[x.s,[123]]++Sx.record SY 0 x.names x.parts++[[125]]
def RecOk (W0:World) (b:Nat) (x:Sx.Ex):Prop:=∀(v:Value) (l:List Lx.Bytes) (w:World),Sx.okX x→IsEx W0 v x→Sx.sizeX x≤1000000→Wrote W0 b l.length l w→l.length+(Sx.rec x).length≤900000000→
 Calls Tryz.prog 115 #[.pointer (some ⟨b,0,none⟩),v] w fun e w'=>e=.returned (.tuple #[])∧Wrote W0 b (l++Sx.rec x).length (l++Sx.rec x) w'∧KeepW w w'
theorem zniZ {W0:World} {b:Nat} {x:Sx.Ex} (ih:∀p∈x.parts,ExprOk W0 b p) (hkd:x.kind=7):RecOk W0 b x:=by
 intro v l w hr ht hz h hc
 obtain⟨hsh,hrp⟩:=hr.shape
 obtain⟨hgr,hns,hap⟩:=Sx.shape78 (by omega) hsh
 have Hy:=Sx.sizeX_parts x
 have Je:=Sx.length_sizeXs x.parts
 have J9:=Sx.textX_len x
 have Hb:=NM.ok.great _ hgr
 have Hi:Sx.rec x=[x.s,[123]]++Sx.record SY 0 x.names x.parts++[[125]]:=by unfold Sx.rec;rw[hkd];simp
 have Hh:(Sx.rec x).length=(Sx.record SY 0 x.names x.parts).length+3:=by rw[Hi];simp
 obtain⟨lf,hlf⟩:=zE ((Sx.record SY 0 x.names x.parts).length)
 have Jm:l.length+lf+3≤900000000:=by omega
 obtain⟨At,ct,An,cn,Ap,cp,rfl,-,hnm,hp,-⟩:=ht.agg
 obtain⟨k,hk⟩:=zE (x.parts.length)
 rw[hk]at hp ⊢
 rw[hkd]
 have Jn:(k:Int)≤1000000:=by omega
 have Jo:(0:Int)≤(k:Int):=by omega
 have Hr:x.s≠[]∧x.s.length≤1000000000:=⟨Hb,by omega⟩
 have Hv:(l).length+2≤1000000000:=by simp;omega
 obtain⟨L,hL⟩:=zE (w.heap.size)
 obtain⟨w2,hw2⟩:=zE (w.alloc (.cells #[.int .i64 x.pos,.int .i64 7,.int .i64 x.n,.string ⟨x.s.toArray⟩,.slice At x.t.length ct,.slice An x.names.length cn,.slice Ap k cp] 39))
 have Ha:=Live.first h #[.int .i64 x.pos,.int .i64 7,.int .i64 x.n,.string ⟨x.s.toArray⟩,.slice At x.t.length ct,.slice An x.names.length cn,.slice Ap k cp] 39 hw2
 rw[hL]at Ha
 have H2:=zh Ha
 clear Ha h
 have HK:=zh hk
 have HP:=zh hp
 have Jd:=zh hnm
 have Hg:=zh (show x.names.length=x.parts.length from(hns.symm))
 have J5:=zh (show ∀s∈x.names,s≠[]∧s.length≤1000000000 from fun s hs=>⟨NM.ok.small _ (Sx.apart_small hap s hs),by have:=Sx.nameX_len hs;omega⟩)
 have Jj:=zh hrp
 have HZ:=zh (show Sx.sizeXs x.parts≤1000000 by omega)
 have J2:=zh ih
 have Ho:=zh hlf
 have Ja:=zh Hi
 have J0:=zh Hr
 clear hk hp hnm hns hap hrp hsh hgr Hy Je J9 Hb Hi Hh hlf ih hr ht hz hc hkd Hr
 go_enter Tryz.func115, Tryz.ntmps115
 obtain⟨x0,x1,x2,x3,x4,x5,x6⟩:=zbZ H2.o.b1
 obtain⟨hl1,hl2,hbl⟩:=H2.o.lt
 go_upto_region 3 with fail
 have Hn:=zh H2.o.drew
 go_region_with (go_at_call 100;refine(Hn.o.lput2 x.s [123] J0.o ⟨by simp,by simp⟩ Hv).mono ?_;rintro e w3 ⟨rfl,hW3,Hq⟩)
 have H3:=zh (Hn.o.go oEx oEx hW3 Hq)
 clear hW3 Hq
 clear x0 x1 x2 x3 x4 x5 x6 hl1 hl2 hbl
 obtain⟨x0,x1,x2,x3,x4,x5,x6⟩:=zbZ H3.o.b1
 obtain⟨hl1,hl2,hbl⟩:=H3.o.lt
 go_wp2_with fail
 clear x0 x1 x2 x3 x4 x5 x6 hl1 hl2 hbl
 have HS:=zh (show Wrote W0 b (l++[x.s,[123]]++Sx.record SY 0 (x.names.take 0) (x.parts.take 0)).length (l++[x.s,[123]]++Sx.record SY 0 (x.names.take 0) (x.parts.take 0)) w3 by simpa[Sx.record]using H3.o.wr)
 go_loopg [24] k (fun i v wr=>∃(m:Nat),i=k-m∧v=.int .i64 (m:Int)∧m≤k∧Wrote W0 b (l++[x.s,[123]]++Sx.record SY 0 (x.names.take m) (x.parts.take m)).length (l++[x.s,[123]]++Sx.record SY 0 (x.names.take m) (x.parts.take m)) wr∧KeepW w3 wr)
 case atStart=>exact⟨0,rfl,rfl,Nat.zero_le _,HS.o,KeepW.refl _⟩
 case round=>
  obtain⟨m,hi,rfl,hm,hW,hkw⟩:=hrel
  have Jg:=Sx.record_pre SY x.names x.parts 0 m
  have HI:=zh hi
  have m0:(0:Int)≤(m:Int):=by omega
  have Hc:=zh (hkw _ _ _ _ H3.o.b1 oEx.1 oEx.2)
  have Hz:=zh (H3.o.kp.trans hkw)
  have Hj:=zh hkw
  rw[Ho.o]at Jg
  by_cases hlt:m<k
  ·have J6:(m:Int)<(k:Int):=by omega
   have He:m<x.parts.length:=by have:=HK.o;omega
   have Hf:m<x.names.length:=by have:=Hg.o;omega
   have Hu:(m:Int)<(x.names.length:Int):=by omega
   have H8:=Sx.record_pre SY x.names x.parts 0 (m+1)
   have Ht:=zh hW
   clear hi hW hkw
   obtain⟨g,off,At1,ct1,An1,cn1,Aq,cq,rfl,hty,hc7⟩:=HP.o.spot m He
   obtain⟨p,hxe⟩:=zE (x.parts[m]'He)
   have H1:p∈x.parts:=by rw[←hxe];exact List.getElem_mem He
   have H9:=Sx.record_take Hg.o He
   rw[hxe]at hc7 hty H9
   obtain⟨hg,c0,c1,c2,c3,c4,c5,c6⟩:=hc7 wr Ht.o.below
   have Jf:=Sx.sizeX_mem H1
   have Hl:Sx.sizeX p≤1000000:=by have:=HZ.o;omega
   obtain⟨q,hq⟩:=zE (Sx.expr SY p)
   rw[hq]at H9
   obtain⟨g1,off1,rfl,hsp1⟩:=Jd.o.spot m Hf
   obtain⟨s,hse⟩:=zE (x.names[m]'Hf)
   have Hp:s∈x.names:=by rw[←hse];exact List.getElem_mem Hf
   have Ji:=zh (J5.o s Hp)
   rw[hse]at hsp1 H9
   have J1:=zh hsp1
   rw[H9,Ho.o]at H8
   obtain⟨lm,hlm⟩:=zE (Sx.record SY 0 (x.names.take m) (x.parts.take m))
   rw[hlm]at H9 H8
   have Hx:=zh (show Wrote W0 b (l++[x.s,[123]]++lm).length (l++[x.s,[123]]++lm) wr by rw[←hlm];exact Ht.o)
   obtain⟨cm,hcm⟩:∃cm:List Lx.Bytes,(if 0<m then [[44]]else [])=cm:=⟨_,rfl⟩
   have J3:cm.length≤1:=by rw[←hcm];split <;> simp
   rw[hcm]at H9 H8
   simp only[List.length_append,List.length_cons,List.length_nil]at H8
   have Jl:(l++[x.s,[123]]++lm).length+1≤1000000000:=by simp;omega
   have Jc:(l++[x.s,[123]]++lm++cm).length+2≤1000000000:=by simp;omega
   have Jh:(l++[x.s,[123]]++lm++cm++[s,[58]]).length+q.length≤900000000:=by simp;omega
   have hE:=zh (show ∀u w,IsEx W0 u p→Wrote W0 b (l++[x.s,[123]]++lm++cm++[s,[58]]).length (l++[x.s,[123]]++lm++cm++[s,[58]]) w→Calls Tryz.prog 64 #[.pointer (some ⟨b,0,none⟩),u] w fun e w'=>e=.returned (.tuple #[])∧Wrote W0 b (l++[x.s,[123]]++lm++cm++[s,[58]]++q).length (l++[x.s,[123]]++lm++cm++[s,[58]]++q) w'∧KeepW w w' from fun u w hu hw=>by
    have:=J2.o p H1 u (l++[x.s,[123]]++lm++cm++[s,[58]]) w (Jj.o p H1) hu Hl hw (by rw[hq];exact Jh)
    rwa [hq]at this)
   have hCm:=zh (show ∀w,Wrote W0 b (l++[x.s,[123]]++lm).length (l++[x.s,[123]]++lm) w→Calls Tryz.prog 131 #[.pointer (some ⟨b,0,none⟩),.int .i64 (m:Int)] w fun e w'=>e=.returned (.tuple #[])∧Wrote W0 b ((l++[x.s,[123]]++lm).length+1) (l++[x.s,[123]]++lm++cm) w'∧KeepW w w' from fun w hw=>by
    have:=zemZ m hw (by omega) Jl
    rwa [hcm]at this)
   have H0:Live W0 b (l++[x.s,[123]]++lm) w3 wr L _ _ L _ _:=⟨Hx.o,Hj.o,Hc.o,Hc.o⟩
   obtain⟨x0,x1,x2,x3,x4,x5,x6⟩:=zbZ H0.b1
   obtain⟨hl1,hl2,hbl⟩:=H0.lt
   obtain⟨L4,hL4⟩:=zE (wr.heap.size)
   obtain⟨w4,hw4⟩:=zE (wr.alloc (.cells #[.int .i64 p.pos,.int .i64 p.kind,.int .i64 p.n,.string ⟨p.s.toArray⟩,.slice At1 p.t.length ct1,.slice An1 p.names.length cn1,.slice Aq p.parts.length cq] 39))
   have Ha:=H0.box #[.int .i64 p.pos,.int .i64 p.kind,.int .i64 p.n,.string ⟨p.s.toArray⟩,.slice At1 p.t.length ct1,.slice An1 p.names.length cn1,.slice Aq p.parts.length cq] 39 hw4
   rw[hL4]at Ha
   have H4:=zh Ha
   have Jb:=zh hty
   have J4:=zh H9
   clear H0 Ha hty H9 hcm hlm hq H1 hxe hc7 Jf Hl hse Hp hsp1
   clear x0 x1 x2 x3 x4 x5 x6 hl1 hl2 hbl
   obtain⟨x0,x1,x2,x3,x4,x5,x6⟩:=zbZ Hc.o
   have Jp:=zaZ Hc.o
   obtain⟨x0,x1,x2,x3,x4,x5,x6⟩:=zbZ H4.o.b1
   obtain⟨y0,y1,y2,y3,y4,y5,y6⟩:=zbZ H4.o.b2
   obtain⟨hl1,hl2,hbl⟩:=H4.o.lt
   go_upto_region 8 with(go_at_call 131;refine(hCm.o w4 H4.o.wr).mono ?_;rintro e w5 ⟨rfl,hW5,Hm⟩)
   have H5:=zh (H4.o.go oEx oEx hW5 Hm)
   clear hW5 Hm
   clear x0 x1 x2 x3 x4 x5 x6 y0 y1 y2 y3 y4 y5 y6 hl1 hl2 hbl
   obtain⟨x0,x1,x2,x3,x4,x5,x6⟩:=zbZ H5.o.b1
   obtain⟨y0,y1,y2,y3,y4,y5,y6⟩:=zbZ H5.o.b2
   obtain⟨hl1,hl2,hbl⟩:=H5.o.lt
   obtain⟨q0,q1⟩:=J1.o w5 H5.o.wr.below
   go_upto_region 8 with fail
   have Hk:=zh H5.o.drew
   go_region_with (go_at_call 100;refine(Hk.o.lput2 s [58] Ji.o ⟨by simp,by simp⟩ Jc).mono ?_;rintro e w6 ⟨rfl,hW6,Hs⟩)
   have H6:=zh (Hk.o.go oEx oEx hW6 Hs)
   clear hW6 Hs
   clear x0 x1 x2 x3 x4 x5 x6 y0 y1 y2 y3 y4 y5 y6 hl1 hl2 hbl
   obtain⟨x0,x1,x2,x3,x4,x5,x6⟩:=zbZ H6.o.b1
   obtain⟨y0,y1,y2,y3,y4,y5,y6⟩:=zbZ H6.o.b2
   obtain⟨hl1,hl2,hbl⟩:=H6.o.lt
   go_wp2_with (go_at_call 64;refine(hE.o _ w6 Jb.o H6.o.wr).mono ?_;rintro e w7 ⟨rfl,hW7,Hd⟩)
   have H7:=zh (H6.o.go oEx oEx hW7 Hd)
   clear hW7 Hd
   clear x0 x1 x2 x3 x4 x5 x6 y0 y1 y2 y3 y4 y5 y6 hl1 hl2 hbl
   go_roundg (k-(m+1))
   case measure=>have:=HI.o;omega
   case rel=>
    refine⟨m+1,rfl,by simp,hlt,?_,H7.o.kp⟩
    rw[J4.o]
    simpa[List.append_assoc]using H7.o.wr
  ·have J6:¬(m:Int)<(k:Int):=by omega
   have Hw:(l++[x.s,[123]]++Sx.record SY 0 (x.names.take m) (x.parts.take m)).length+1≤1000000000:=by simp;omega
   have HW:=zh hW
   have Jk:=hW.lt
   have J7:=zh (List.take_of_length_le (show x.parts.length≤m by have:=HK.o;omega))
   have J8:=zh (List.take_of_length_le (show x.names.length≤m by have:=HK.o;have:=Hg.o;omega))
   clear hi hW hkw
   go_wp2_with (go_at_call 100;refine(put1 (s:=[125]) HW.o ⟨by simp,by simp⟩ Hw).mono ?_;rintro e w7 ⟨rfl,hW7,Hd⟩)
   go_end0
   refine⟨rfl,?_,Hz.o.trans Hd⟩
   rw[Ja.o]
   have h8:=hW7.tight
   rw[J7.o,J8.o]at h8
   simpa[List.append_assoc]using h8
theorem znjZ {W0:World} {b:Nat} {x:Sx.Ex} (ih:∀p∈x.parts,ExprOk W0 b p) (hkd:x.kind=8):RecOk W0 b x:=by
 intro v l w hr ht hz h hc
 obtain⟨hsh,hrp⟩:=hr.shape
 obtain⟨hgr,hns,hap⟩:=Sx.shape78 (by omega) hsh
 have Hz:=Sx.sizeX_parts x
 have Jg:=Sx.length_sizeXs x.parts
 have Ja:=Sx.textX_len x
 have Hb:=NM.ok.great _ hgr
 have Hi:Sx.rec x=[[110,101,119]]++[x.s,[123]]++Sx.record SY 0 x.names x.parts++[[125]]:=by unfold Sx.rec;rw[hkd];simp
 have Hh:(Sx.rec x).length=(Sx.record SY 0 x.names x.parts).length+4:=by rw[Hi];simp
 obtain⟨lf,hlf⟩:=zE ((Sx.record SY 0 x.names x.parts).length)
 have Jo:l.length+lf+4≤900000000:=by omega
 obtain⟨At,ct,An,cn,Ap,cp,rfl,-,hnm,hp,-⟩:=ht.agg
 obtain⟨k,hk⟩:=zE (x.parts.length)
 rw[hk]at hp ⊢
 rw[hkd]
 have Jp:(k:Int)≤1000000:=by omega
 have Jq:(0:Int)≤(k:Int):=by omega
 have Hr:x.s≠[]∧x.s.length≤1000000000:=⟨Hb,by omega⟩
 have Je:l.length+1≤1000000000:=by omega
 have Hw:(l++[[110,101,119]]).length+2≤1000000000:=by simp;omega
 obtain⟨L,hL⟩:=zE (w.heap.size)
 obtain⟨w2,hw2⟩:=zE (w.alloc (.cells #[.int .i64 x.pos,.int .i64 8,.int .i64 x.n,.string ⟨x.s.toArray⟩,.slice At x.t.length ct,.slice An x.names.length cn,.slice Ap k cp] 39))
 have Ha:=Live.first h #[.int .i64 x.pos,.int .i64 8,.int .i64 x.n,.string ⟨x.s.toArray⟩,.slice At x.t.length ct,.slice An x.names.length cn,.slice Ap k cp] 39 hw2
 rw[hL]at Ha
 have H2:=zh Ha
 clear Ha h
 have HK:=zh hk
 have HP:=zh hp
 have Jf:=zh hnm
 have Hg:=zh (show x.names.length=x.parts.length from(hns.symm))
 have J6:=zh (show ∀s∈x.names,s≠[]∧s.length≤1000000000 from fun s hs=>⟨NM.ok.small _ (Sx.apart_small hap s hs),by have:=Sx.nameX_len hs;omega⟩)
 have Jl:=zh hrp
 have HZ:=zh (show Sx.sizeXs x.parts≤1000000 by omega)
 have J3:=zh ih
 have Ho:=zh hlf
 have Jb:=zh Hi
 have J1:=zh Hr
 clear hk hp hnm hns hap hrp hsh hgr Hz Jg Ja Hb Hi Hh hlf ih hr ht hz hc hkd Hr
 go_enter Tryz.func115, Tryz.ntmps115
 obtain⟨x0,x1,x2,x3,x4,x5,x6⟩:=zbZ H2.o.b1
 obtain⟨hl1,hl2,hbl⟩:=H2.o.lt
 go_upto_region 3 with(go_at_call 100;refine(H2.o.lput1 [110,101,119] ⟨by simp,by simp⟩ Je).mono ?_;rintro e w3 ⟨rfl,hW3,Hq⟩)
 have H3:=zh (H2.o.go oEx oEx hW3 Hq)
 clear hW3 Hq
 clear x0 x1 x2 x3 x4 x5 x6 hl1 hl2 hbl
 obtain⟨x0,x1,x2,x3,x4,x5,x6⟩:=zbZ H3.o.b1
 obtain⟨hl1,hl2,hbl⟩:=H3.o.lt
 go_upto_region 3 with fail
 have Hu:=zh H3.o.drew
 go_region_with (go_at_call 100;refine(Hu.o.lput2 x.s [123] J1.o ⟨by simp,by simp⟩ Hw).mono ?_;rintro e w4 ⟨rfl,hW4,Hm⟩)
 have H4:=zh (Hu.o.go oEx oEx hW4 Hm)
 clear hW4 Hm
 clear x0 x1 x2 x3 x4 x5 x6 hl1 hl2 hbl
 obtain⟨x0,x1,x2,x3,x4,x5,x6⟩:=zbZ H4.o.b1
 obtain⟨hl1,hl2,hbl⟩:=H4.o.lt
 go_wp2_with fail
 clear x0 x1 x2 x3 x4 x5 x6 hl1 hl2 hbl
 have HS:=zh (show Wrote W0 b (l++[[110,101,119]]++[x.s,[123]]++Sx.record SY 0 (x.names.take 0) (x.parts.take 0)).length (l++[[110,101,119]]++[x.s,[123]]++Sx.record SY 0 (x.names.take 0) (x.parts.take 0)) w4 by simpa[Sx.record]using H4.o.wr)
 go_loopg [24] k (fun i v wr=>∃(m:Nat),i=k-m∧v=.int .i64 (m:Int)∧m≤k∧Wrote W0 b (l++[[110,101,119]]++[x.s,[123]]++Sx.record SY 0 (x.names.take m) (x.parts.take m)).length (l++[[110,101,119]]++[x.s,[123]]++Sx.record SY 0 (x.names.take m) (x.parts.take m)) wr∧KeepW w4 wr)
 case atStart=>exact⟨0,rfl,rfl,Nat.zero_le _,HS.o,KeepW.refl _⟩
 case round=>
  obtain⟨m,hi,rfl,hm,hW,hkw⟩:=hrel
  have Ji:=Sx.record_pre SY x.names x.parts 0 m
  have HI:=zh hi
  have m0:(0:Int)≤(m:Int):=by omega
  have Hc:=zh (hkw _ _ _ _ H4.o.b1 oEx.1 oEx.2)
  have J0:=zh (H4.o.kp.trans hkw)
  have Hj:=zh hkw
  rw[Ho.o]at Ji
  by_cases hlt:m<k
  ·have J7:(m:Int)<(k:Int):=by omega
   have He:m<x.parts.length:=by have:=HK.o;omega
   have Hf:m<x.names.length:=by have:=Hg.o;omega
   have Hv:(m:Int)<(x.names.length:Int):=by omega
   have H8:=Sx.record_pre SY x.names x.parts 0 (m+1)
   have Ht:=zh hW
   clear hi hW hkw
   obtain⟨g,off,At1,ct1,An1,cn1,Aq,cq,rfl,hty,hc7⟩:=HP.o.spot m He
   obtain⟨p,hxe⟩:=zE (x.parts[m]'He)
   have H1:p∈x.parts:=by rw[←hxe];exact List.getElem_mem He
   have H9:=Sx.record_take Hg.o He
   rw[hxe]at hc7 hty H9
   obtain⟨hg,c0,c1,c2,c3,c4,c5,c6⟩:=hc7 wr Ht.o.below
   have Jh:=Sx.sizeX_mem H1
   have Hl:Sx.sizeX p≤1000000:=by have:=HZ.o;omega
   obtain⟨q,hq⟩:=zE (Sx.expr SY p)
   rw[hq]at H9
   obtain⟨g1,off1,rfl,hsp1⟩:=Jf.o.spot m Hf
   obtain⟨s,hse⟩:=zE (x.names[m]'Hf)
   have Hp:s∈x.names:=by rw[←hse];exact List.getElem_mem Hf
   have Jk:=zh (J6.o s Hp)
   rw[hse]at hsp1 H9
   have J2:=zh hsp1
   rw[H9,Ho.o]at H8
   obtain⟨lm,hlm⟩:=zE (Sx.record SY 0 (x.names.take m) (x.parts.take m))
   rw[hlm]at H9 H8
   have Hy:=zh (show Wrote W0 b (l++[[110,101,119]]++[x.s,[123]]++lm).length (l++[[110,101,119]]++[x.s,[123]]++lm) wr by rw[←hlm];exact Ht.o)
   obtain⟨cm,hcm⟩:∃cm:List Lx.Bytes,(if 0<m then [[44]]else [])=cm:=⟨_,rfl⟩
   have J4:cm.length≤1:=by rw[←hcm];split <;> simp
   rw[hcm]at H9 H8
   simp only[List.length_append,List.length_cons,List.length_nil]at H8
   have Jn:(l++[[110,101,119]]++[x.s,[123]]++lm).length+1≤1000000000:=by simp;omega
   have Jd:(l++[[110,101,119]]++[x.s,[123]]++lm++cm).length+2≤1000000000:=by simp;omega
   have Jj:(l++[[110,101,119]]++[x.s,[123]]++lm++cm++[s,[58]]).length+q.length≤900000000:=by simp;omega
   have hE:=zh (show ∀u w,IsEx W0 u p→Wrote W0 b (l++[[110,101,119]]++[x.s,[123]]++lm++cm++[s,[58]]).length (l++[[110,101,119]]++[x.s,[123]]++lm++cm++[s,[58]]) w→Calls Tryz.prog 64 #[.pointer (some ⟨b,0,none⟩),u] w fun e w'=>e=.returned (.tuple #[])∧Wrote W0 b (l++[[110,101,119]]++[x.s,[123]]++lm++cm++[s,[58]]++q).length (l++[[110,101,119]]++[x.s,[123]]++lm++cm++[s,[58]]++q) w'∧KeepW w w' from fun u w hu hw=>by
    have:=J3.o p H1 u (l++[[110,101,119]]++[x.s,[123]]++lm++cm++[s,[58]]) w (Jl.o p H1) hu Hl hw (by rw[hq];exact Jj)
    rwa [hq]at this)
   have hCm:=zh (show ∀w,Wrote W0 b (l++[[110,101,119]]++[x.s,[123]]++lm).length (l++[[110,101,119]]++[x.s,[123]]++lm) w→Calls Tryz.prog 131 #[.pointer (some ⟨b,0,none⟩),.int .i64 (m:Int)] w fun e w'=>e=.returned (.tuple #[])∧Wrote W0 b ((l++[[110,101,119]]++[x.s,[123]]++lm).length+1) (l++[[110,101,119]]++[x.s,[123]]++lm++cm) w'∧KeepW w w' from fun w hw=>by
    have:=zemZ m hw (by omega) Jn
    rwa [hcm]at this)
   have H0:Live W0 b (l++[[110,101,119]]++[x.s,[123]]++lm) w4 wr L _ _ L _ _:=⟨Hy.o,Hj.o,Hc.o,Hc.o⟩
   obtain⟨x0,x1,x2,x3,x4,x5,x6⟩:=zbZ H0.b1
   obtain⟨hl1,hl2,hbl⟩:=H0.lt
   obtain⟨L4,hL4⟩:=zE (wr.heap.size)
   obtain⟨w4,hw4⟩:=zE (wr.alloc (.cells #[.int .i64 p.pos,.int .i64 p.kind,.int .i64 p.n,.string ⟨p.s.toArray⟩,.slice At1 p.t.length ct1,.slice An1 p.names.length cn1,.slice Aq p.parts.length cq] 39))
   have Ha:=H0.box #[.int .i64 p.pos,.int .i64 p.kind,.int .i64 p.n,.string ⟨p.s.toArray⟩,.slice At1 p.t.length ct1,.slice An1 p.names.length cn1,.slice Aq p.parts.length cq] 39 hw4
   rw[hL4]at Ha
   have H4:=zh Ha
   have Jc:=zh hty
   have J5:=zh H9
   clear H0 Ha hty H9 hcm hlm hq H1 hxe hc7 Jh Hl hse Hp hsp1
   clear x0 x1 x2 x3 x4 x5 x6 hl1 hl2 hbl
   obtain⟨x0,x1,x2,x3,x4,x5,x6⟩:=zbZ Hc.o
   have Jr:=zaZ Hc.o
   obtain⟨x0,x1,x2,x3,x4,x5,x6⟩:=zbZ H4.o.b1
   obtain⟨y0,y1,y2,y3,y4,y5,y6⟩:=zbZ H4.o.b2
   obtain⟨hl1,hl2,hbl⟩:=H4.o.lt
   go_upto_region 8 with(go_at_call 131;refine(hCm.o w4 H4.o.wr).mono ?_;rintro e w5 ⟨rfl,hW5,Hn⟩)
   have H5:=zh (H4.o.go oEx oEx hW5 Hn)
   clear hW5 Hn
   clear x0 x1 x2 x3 x4 x5 x6 y0 y1 y2 y3 y4 y5 y6 hl1 hl2 hbl
   obtain⟨x0,x1,x2,x3,x4,x5,x6⟩:=zbZ H5.o.b1
   obtain⟨y0,y1,y2,y3,y4,y5,y6⟩:=zbZ H5.o.b2
   obtain⟨hl1,hl2,hbl⟩:=H5.o.lt
   obtain⟨q0,q1⟩:=J2.o w5 H5.o.wr.below
   go_upto_region 8 with fail
   have Hk:=zh H5.o.drew
   go_region_with (go_at_call 100;refine(Hk.o.lput2 s [58] Jk.o ⟨by simp,by simp⟩ Jd).mono ?_;rintro e w6 ⟨rfl,hW6,Hs⟩)
   have H6:=zh (Hk.o.go oEx oEx hW6 Hs)
   clear hW6 Hs
   clear x0 x1 x2 x3 x4 x5 x6 y0 y1 y2 y3 y4 y5 y6 hl1 hl2 hbl
   obtain⟨x0,x1,x2,x3,x4,x5,x6⟩:=zbZ H6.o.b1
   obtain⟨y0,y1,y2,y3,y4,y5,y6⟩:=zbZ H6.o.b2
   obtain⟨hl1,hl2,hbl⟩:=H6.o.lt
   go_wp2_with (go_at_call 64;refine(hE.o _ w6 Jc.o H6.o.wr).mono ?_;rintro e w7 ⟨rfl,hW7,Hd⟩)
   have H7:=zh (H6.o.go oEx oEx hW7 Hd)
   clear hW7 Hd
   clear x0 x1 x2 x3 x4 x5 x6 y0 y1 y2 y3 y4 y5 y6 hl1 hl2 hbl
   go_roundg (k-(m+1))
   case measure=>have:=HI.o;omega
   case rel=>
    refine⟨m+1,rfl,by simp,hlt,?_,H7.o.kp⟩
    rw[J5.o]
    simpa[List.append_assoc]using H7.o.wr
  ·have J7:¬(m:Int)<(k:Int):=by omega
   have Hx:(l++[[110,101,119]]++[x.s,[123]]++Sx.record SY 0 (x.names.take m) (x.parts.take m)).length+1≤1000000000:=by simp;omega
   have HW:=zh hW
   have Jm:=hW.lt
   have J8:=zh (List.take_of_length_le (show x.parts.length≤m by have:=HK.o;omega))
   have J9:=zh (List.take_of_length_le (show x.names.length≤m by have:=HK.o;have:=Hg.o;omega))
   clear hi hW hkw
   go_wp2_with (go_at_call 100;refine(put1 (s:=[125]) HW.o ⟨by simp,by simp⟩ Hx).mono ?_;rintro e w7 ⟨rfl,hW7,Hd⟩)
   go_end0
   refine⟨rfl,?_,J0.o.trans Hd⟩
   rw[Jb.o]
   have h8:=hW7.tight
   rw[J8.o,J9.o]at h8
   simpa[List.append_assoc]using h8
end Go.Proofs.YtdncljdfmdgdaaaGreatDoor
