/-
  The walk of (*cutter).text.
-/
import Derived.Test.YtdncljdfmdgdaaaGreatDoorM3
set_option linter.unusedSimpArgs false
set_option linter.unusedVariables false
set_option maxRecDepth 100000
set_option maxHeartbeats 8000000
namespace Go.Proofs.YtdncljdfmdgdaaaGreatDoor
open Go.RowKit
structure TW (w:World) (b:Nat) (s:ByteArray) (k:Nat) (W:World) (m:Nat):Prop where
 g:w.grownBy W (some b)
 c:Cu W b s m
 t:W.heap[w.heap.size]? =some (.cells #[.int .i64 k,.int .i64 0,.string ⟨#[]⟩,.int .i64 0] 133 (0,0))
 z:W.heap[w.heap.size+1]? =some (.cells #[.int .i64 0,.int .i64 0,.string ⟨#[]⟩,.int .i64 0] 133 (0,0))
 b:b<w.heap.size
section
variable {w W W':World} {b:Nat} {s:ByteArray} {k m:Nat}
theorem TW.start (hc:Cu w b s k) (j:Int) (hj:j=((k+1:Nat):Int)):TW w b s k (((w.setCell ⟨b,1,none⟩ (.int .i64 j)).alloc (.cells #[.int .i64 k,.int .i64 0,.string ⟨#[]⟩,.int .i64 0] 133)).alloc (.cells #[.int .i64 0,.int .i64 0,.string ⟨#[]⟩,.int .i64 0] 133)) (k+1):=by
 have hz:(w.setCell ⟨b,1,none⟩ (.int .i64 j)).heap.size=w.heap.size:=by simp[World.setCell]
 refine⟨((ziZ _ _ _ _).trans (yeZ _ _ _)).trans (yeZ _ _ _),((hc.set j _ hj).alloc _).alloc _,?_,?_,hc.lt⟩
 ·have:=ydZ (w.setCell ⟨b,1,none⟩ (.int .i64 j)) (.cells #[.int .i64 k,.int .i64 0,.string ⟨#[]⟩,.int .i64 0] 133);rw[hz]at this;exact heap_alloc this _
 ·have:=ydZ ((w.setCell ⟨b,1,none⟩ (.int .i64 j)).alloc (.cells #[.int .i64 k,.int .i64 0,.string ⟨#[]⟩,.int .i64 0] 133)) (.cells #[.int .i64 0,.int .i64 0,.string ⟨#[]⟩,.int .i64 0] 133)
  rwa [World.size_alloc,hz]at this
theorem TW.set (h:TW w b s k W m) (j:Int) (p:Nat) (hj:j=(p:Int)):TW w b s k (W.setCell ⟨b,1,none⟩ (.int .i64 j)) p:=
 ⟨h.g.trans (ziZ _ _ _ _),h.c.set j p hj,(yuZ _ _ _ _ (fun e=>by have:=h.b;simp at e;omega)).trans h.t,(yuZ _ _ _ _ (fun e=>by have:=h.b;simp at e;omega)).trans h.z,h.b⟩
theorem TW.drewN (h:TW w b s k W m) (n:Nat):TW w b s k (W.drewN n) m:=⟨h.g.trans (zjZ _ _ _),h.c,h.t,h.z,h.b⟩
theorem TW.drew (h:TW w b s k W m):TW w b s k W.drew m:=h.drewN 1
theorem TW.row (h : TW w b s k W m) {row : Option Nat} (hg : W.grownBy W' row) (hr : ∀ g, row = some g -> w.heap.size + 2 <= g) : TW w b s k W' m :=
  ⟨by
    rcases row with _ | g
    · exact ⟨hg.os.trans h.g.os, hg.tape.trans h.g.tape, hg.output.trans h.g.output, ymZ h.g.size hg.size, fun j hj hne => (hg.block j (yJZ hj h.g.size) (fun e => nomatch e)).trans (h.g.block j hj hne)⟩
    · exact zbgZ h.g hg (by have := hr g rfl; omega),
   h.c.kept hg (fun e => by have := hr b e.symm; have := h.b; omega),
   (hg.block _ (zaZ h.t) (fun e => by have := hr _ e.symm; omega)).trans h.t,
   (hg.block _ (zaZ h.z) (fun e => by have := hr _ e.symm; omega)).trans h.z, h.b⟩
theorem TW.facts (h:TW w b s k W m) :
  W.cell? ⟨b,0,none⟩=some (.string s)/\W.cell? ⟨b,1,none⟩=some (.int .i64 m)/\W.frozen? ⟨b,1,none⟩=false/\
  (W.cell? ⟨w.heap.size,0,none⟩=some (.int .i64 k)/\W.cell? ⟨w.heap.size,1,none⟩=some (.int .i64 0)/\W.cell? ⟨w.heap.size,2,none⟩=some (.string ⟨#[]⟩)/\W.cell? ⟨w.heap.size,3,none⟩=some (.int .i64 0))/\
  (W.frozen? ⟨w.heap.size,0,none⟩=false/\W.frozen? ⟨w.heap.size,1,none⟩=false/\W.frozen? ⟨w.heap.size,2,none⟩=false/\W.frozen? ⟨w.heap.size,3,none⟩=false)/\
  (W.cell? ⟨w.heap.size+1,0,none⟩=some (.int .i64 0)/\W.cell? ⟨w.heap.size+1,1,none⟩=some (.int .i64 0)/\W.cell? ⟨w.heap.size+1,2,none⟩=some (.string ⟨#[]⟩)/\W.cell? ⟨w.heap.size+1,3,none⟩=some (.int .i64 0))/\
  (W.frozen? ⟨w.heap.size+1,0,none⟩=false/\W.frozen? ⟨w.heap.size+1,1,none⟩=false/\W.frozen? ⟨w.heap.size+1,2,none⟩=false/\W.frozen? ⟨w.heap.size+1,3,none⟩=false)/\
  w.heap.size<W.heap.size/\w.heap.size+1<W.heap.size/\b<W.heap.size:=
 ⟨h.c.c0,h.c.c1,h.c.f1,zgZ h.t,zqZ h.t,zgZ h.z,zqZ h.z,zaZ h.t,zaZ h.z,h.c.lt⟩
end
theorem zulZ {w wq:World} {b k m g:Nat} {s:ByteArray} {p a0 a1 a3:Int} {a2:ByteArray} {r:Lx.Res} {t:Lx.Tok} {n:Nat} (hr:r=.ok t n) (hm:m=k+n) (h0:a0=t.pos) (h1:a1=t.kind) (h2:a2.data.toList=t.s) (h3:a3=t.n)
  (hg:w.grownBy wq (some b)) (hC:Cu wq b s m) (hbg:b<g) (hwg:w.heap.size<=g) (d1 d2 c0 c1 c2 c3:Value) :
  ResIs p b s k w r (.returned (.tuple #[.agg #[.int .i64 a0,.int .i64 a1,.string a2,.int .i64 a3],.pointer none]))
   ((((((wq.setCell ⟨g,1,none⟩ d1).setCell ⟨g,2,none⟩ d2).setCell ⟨g+1,0,none⟩ c0).setCell ⟨g+1,1,none⟩ c1).setCell ⟨g+1,2,none⟩ c2).setCell ⟨g+1,3,none⟩ c3).drew:=by
 have H0:w.grownBy ((wq.setCell ⟨g,1,none⟩ d1).setCell ⟨g,2,none⟩ d2) (some b):=zbgZ hg ((ziZ _ _ _ _).trans (ziZ _ _ _ _)) hwg;have hC2:Cu ((wq.setCell ⟨g,1,none⟩ d1).setCell ⟨g,2,none⟩ d2) b s m:=(hC.far (by omega) _ _).far (by omega) _ _;generalize (wq.setCell ⟨g,1,none⟩ d1).setCell ⟨g,2,none⟩ d2=wz at H0 hC2 ⊢;have h:ResIs p b s k w r _ _:=resOk hr hm h0 h1 h2 h3 H0 hC2 (show b<g+1 by omega) (show w.heap.size<=g+1 by omega) c0 c1 c2 c3;subst hr;exact⟨h.1.trans (zjZ _ 1 _),h.2.1,h.2.2⟩
theorem zfyZ {p k:Nat} {c:UInt8} {t l:List UInt8} (h34:¬c.toNat=34) (h92:¬c.toNat=92) (hb:¬(c.toNat<32\/126<c.toNat)):Lx.quoted p (c::t) l k=Lx.quoted p t (l++[c]) (k+1):=by
 have e34:c≠34:=fun e=>h34 (by rw[e];rfl);have e92:c≠92:=fun e=>h92 (by rw[e];rfl);rw[Lx.quoted.eq_def];split
 ·cases ‹_::_=[]›
 ·rename_i h;injection h with h1 h2;exact absurd h1 e34
 ·rename_i h;injection h with h1 h2;exact absurd h1 e92
 ·rename_i h;injection h with h1 h2;exact absurd h1 e92
 ·rename_i h;injection h with h1 h2;subst h1;subst h2;rw[if_neg (by simpa using hb)]
theorem zigZ {p k:Nat} {c:UInt8} {t l:List UInt8} (h34:c.toNat=34):Lx.quoted p (c::t) l k=.ok ⟨p,5,l,0⟩ (k+1):=by
 have e:c=34:=(u8_eq _ 34 (by decide)).1 h34;subst e;rfl
theorem zihZ {p k:Nat} {c:UInt8} {l:List UInt8} (h92:c.toNat=92):Lx.quoted p [c] l k=.bad 12 (p+k+1):=by
 have e:c=92:=(u8_eq _ 92 (by decide)).1 h92;subst e;rfl
theorem zbtZ {p k:Nat} {c d:UInt8} {t l:List UInt8} (h92:c.toNat=92):Lx.quoted p (c::d::t) l k=
  if d.toNat==110 then Lx.quoted p t (l++[10]) (k+2)else if d.toNat==34||d.toNat==92 then Lx.quoted p t (l++[d]) (k+2)else .bad 12 (p+k+1):=by
 have e:c=92:=(u8_eq _ 92 (by decide)).1 h92;subst e;rfl
theorem zewZ {p k:Nat} {c:UInt8} {t l:List UInt8} (h34:¬c.toNat=34) (h92:¬c.toNat=92) (hb:c.toNat<32\/126<c.toNat):Lx.quoted p (c::t) l k=.bad 12 (p+k):=by
 have e34:c≠34:=fun e=>h34 (by rw[e];rfl);have e92:c≠92:=fun e=>h92 (by rw[e];rfl);rw[Lx.quoted.eq_def];split
 ·cases ‹_::_=[]›
 ·rename_i h;injection h with h1 h2;exact absurd h1 e34
 ·rename_i h;injection h with h1 h2;exact absurd h1 e92
 ·rename_i h;injection h with h1 h2;exact absurd h1 e92
 ·rename_i h;injection h with h1 h2;subst h1;rw[if_pos (by simpa using hb)]
theorem znfZ (s:ByteArray) (b k:Nat) (w:World) (hc:Cu w b s k) (hk:k<s.size) (hs:s.size<=140737488351232) (hG:GS w) (hb:NG<=b) :
  Calls Tryz.prog 147 #[.pointer (some ⟨b,0,none⟩),.agg #[.int .i64 k,.int .i64 0,.string ⟨#[]⟩,.int .i64 0]] w
   (ResIs k b s k w (Lx.quoted k (s.data.toList.drop (k+1)) [] 1)):=by
 have Hl:=zh hc;have Hs:=hc.lt;have hCb:=(hc.alloc (.cells #[.int .i64 k,.int .i64 0,.string ⟨#[]⟩,.int .i64 0] 133)).alloc (.cells #[.int .i64 0,.int .i64 0,.string ⟨#[]⟩,.int .i64 0] 133);have Hd:=hCb.c1;have Hg:=hCb.f1;clear hc hCb;have k1:(k:Int)<=140737488351232:=by omega
 go_enter Tryz.func147, Tryz.ntmps147
 go_wp2
 clear Hd Hg;have h2:=TW.start Hl.o ((k:Int)+1) (by omega);obtain⟨w2,hw2⟩:=zE ((((w.setCell ⟨b,1,none⟩ (.int .i64 ((k:Int)+1))).alloc (.cells #[.int .i64 k,.int .i64 0,.string ⟨#[]⟩,.int .i64 0] 133)).alloc (.cells #[.int .i64 0,.int .i64 0,.string ⟨#[]⟩,.int .i64 0] 133)));rw[hw2]at h2 ⊢;clear hw2;have H2:=zh h2;clear h2
 go_loopg [6] (s.size-(k+1)) (fun n v wr=>∃(m:Nat) (l:List UInt8),n=s.size-m/\k+1<=m/\m<=s.size/\TW w b s k wr m/\OwnB wr (w.heap.size+2) v l/\l.length<=m/\
  Lx.quoted k (s.data.toList.drop m) l (m-k)=Lx.quoted k (s.data.toList.drop (k+1)) [] 1)
 case atStart=>exact⟨k+1,[],rfl,ybZ _,by omega,H2.o,OwnB.nil _ _,by simp,by rw[show k+1-k=1 from by omega]⟩
 case round=>
  obtain⟨m,l,hn,hkm,hm,hW,hO,hl,he⟩:=hrel;obtain⟨c0,c1,cf1,⟨t0,t1,t2,t3⟩,⟨e0,e1,e2,e3⟩,⟨z0,z1,z2,z3⟩,⟨f0,f1,f2,f3⟩,l0,l1,lb⟩:=hW.facts;have HW:=zh hW;have HO:=zh hO;have HE:=zh he;have HN:=zh hn;obtain⟨A0,cap0,hv⟩:=hO.slice;clear he hn hW hO;subst hv;have m1:(m:Int)<=140737488351232:=(by omega);by_cases hlt:m<s.size
  ·have hi:(m:Int)<(s.size:Int):=(by omega);have Hx:(0:Int)<=(m:Int):=(by omega);have HD:=zh (zkZ s m hlt);go_wp2;go_quiet (fail);have hWq:=HW.o.drewN nq;have hOq:=HO.o.drewN nq;obtain⟨w3,hw3⟩:=zE (wr.drewN nq);rw[hw3]at hWq hOq ⊢;clear hw3;clear c0 c1 cf1 t0 t1 t2 t3 e0 e1 e2 e3 z0 z1 z2 z3 f0 f1 f2 f3 l0 l1 lb;obtain⟨c0,c1,cf1,⟨t0,t1,t2,t3⟩,⟨e0,e1,e2,e3⟩,⟨z0,z1,z2,z3⟩,⟨f0,f1,f2,f3⟩,l0,l1,lb⟩:=hWq.facts;have H9:=zh hWq;have Hm:=zh hOq;clear hWq hOq;go_wp2;go_quiet (fail);have hWr:=H9.o.drewN nq;have hOr:=Hm.o.drewN nq;obtain⟨w4,hw4⟩:=zE (w3.drewN nq);rw[hw4]at hWr hOr ⊢;clear hw4;clear c0 c1 cf1 t0 t1 t2 t3 e0 e1 e2 e3 z0 z1 z2 z3 f0 f1 f2 f3 l0 l1 lb;obtain⟨c0,c1,cf1,⟨t0,t1,t2,t3⟩,⟨e0,e1,e2,e3⟩,⟨z0,z1,z2,z3⟩,⟨f0,f1,f2,f3⟩,l0,l1,lb⟩:=hWr.facts;have H3:=zh hWr;have Ha:=zh hOr;clear hWr hOr;by_cases h34:(s[m]'hlt).toNat=34
   ·have B34:(((s[m]'hlt).toNat:Int)==34)=true:=(by simp;omega);have H8:=zh h34;clear h34
    have HQ:Hid (Lx.quoted k (s.data.toList.drop (k+1)) [] 1=.ok ⟨k,5,l,0⟩ (m+1-k)):=HE.o.symm.trans (by
     rw[HD.o,zigZ H8.o,show m-k+1=m+1-k from by omega])
    go_upto_region 9 with fail
    have hW6:=H3.o.set ((m:Int)+1) (m+1) (by omega);have hO6:=Ha.o.set (b:=b) (by omega) 1 (.int .i64 ((m:Int)+1));obtain⟨w6,hw6⟩:=zE (w4.setCell ⟨b,1,none⟩ (.int .i64 ((m:Int)+1)));rw[hw6]at hW6 hO6 ⊢;clear hw6;clear c0 c1 cf1 t0 t1 t2 t3 e0 e1 e2 e3 z0 z1 z2 z3 f0 f1 f2 f3 l0 l1 lb;obtain⟨c0,c1,cf1,⟨t0,t1,t2,t3⟩,⟨e0,e1,e2,e3⟩,⟨z0,z1,z2,z3⟩,⟨f0,f1,f2,f3⟩,l0,l1,lb⟩:=hW6.facts;have Hu:(convert 98 9 (.slice A0 l.length cap0)).run Tryz.prog w6.drew=.ok (.string ⟨l.toArray⟩) w6.drew:=zdpZ (hO6.drewN 1);have Ht:(convert 98 9 (.slice A0 l.length cap0)).run Tryz.prog (w6.setCell ⟨w.heap.size,1,none⟩ (.int .i64 5)).drew=.ok (.string ⟨l.toArray⟩) (w6.setCell ⟨w.heap.size,1,none⟩ (.int .i64 5)).drew:=zdpZ ((hO6.set (b:=w.heap.size) (by omega) 1 (.int .i64 5)).drewN 1);have H5:=zh hW6;have Hj:=zh hO6;clear hW6 hO6
    go_region
    all_goals
     go_wp2
     refine ylZ (v:=.tuple #[.agg #[.int .i64 k,.int .i64 5,.string ⟨l.toArray⟩,.int .i64 0],.pointer none]) (by simp[results, Tryz.results147,go_sem,z0,z1,z2,z3,f0,f1,f2,f3]) rfl ?_;refine zulZ HQ.o (by omega) rfl rfl rfl rfl H5.o.g H5.o.c (by omega) (by omega) _ _ _ _ _ _
   ·have B34:(((s[m]'hlt).toNat:Int)==34)=false:=(by simp;omega);have H8:=zh h34;clear h34;by_cases h92:(s[m]'hlt).toNat=92
    ·have B92:(((s[m]'hlt).toNat:Int)==92)=true:=(by simp;omega);have H7:=zh h92;clear h92;go_upto_region 13 with fail
     have hW5:=H3.o.set ((m:Int)+1) (m+1) (by omega);have hO5:=Ha.o.set (b:=b) (by omega) 1 (.int .i64 ((m:Int)+1));obtain⟨w5,hw5⟩:=zE (w4.setCell ⟨b,1,none⟩ (.int .i64 ((m:Int)+1)));rw[hw5]at hW5 hO5 ⊢;clear hw5;clear c0 c1 cf1 t0 t1 t2 t3 e0 e1 e2 e3 z0 z1 z2 z3 f0 f1 f2 f3 l0 l1 lb;obtain⟨c0,c1,cf1,⟨t0,t1,t2,t3⟩,⟨e0,e1,e2,e3⟩,⟨z0,z1,z2,z3⟩,⟨f0,f1,f2,f3⟩,l0,l1,lb⟩:=hW5.facts;go_quiet (fail);have hW6:=hW5.drewN nq;have hO6:=hO5.drewN nq;obtain⟨w6,hw6⟩:=zE (w5.drewN nq);rw[hw6]at hW6 hO6 ⊢;clear hw6;clear c0 c1 cf1 t0 t1 t2 t3 e0 e1 e2 e3 z0 z1 z2 z3 f0 f1 f2 f3 l0 l1 lb;obtain⟨c0,c1,cf1,⟨t0,t1,t2,t3⟩,⟨e0,e1,e2,e3⟩,⟨z0,z1,z2,z3⟩,⟨f0,f1,f2,f3⟩,l0,l1,lb⟩:=hW6.facts;have H5:=zh hW6;have Hj:=zh hO6;clear hW6 hO6 hW5 hO5;by_cases hend:m+1=s.size
     ·have bend:((m:Int)+1==(s.size:Int))=true:=(by simp;omega);have Hp:=zh hend;clear hend
      have HQ:Hid (Lx.quoted k (s.data.toList.drop (k+1)) [] 1=.bad 12 (m+1)):=HE.o.symm.trans (by
       rw[HD.o,yNZ (i:=m+1) (by rw[zhZ,Hp.o];exact ybZ _),zihZ H7.o,show k+(m-k)+1=m+1 from by omega])
      go_wp2
      go_region_with (go_at_call 124;refine(zcjZ _ _ _).mono ?_;rintro e w' ⟨rfl,rfl⟩)
      all_goals
       go_wp2
       refine ylZ (v:=.tuple #[.agg #[.int .i64 k,.int .i64 0,.string ⟨#[]⟩,.int .i64 0],.pointer (some ⟨w6.heap.size,0,none⟩)]) (by simp[results, Tryz.results147,go_sem,z0,z1,z2,z3,f0,f1,f2,f3,l1]) rfl ?_;exact zduZ (xa:=m+1) (by first | rfl | omega) HQ.o H5.o.g H5.o.c (by have:=H5.o.b;omega) (by omega) _ _ _ _
     ·have bend:((m:Int)+1==(s.size:Int))=false:=(by simp;omega);have H0:m+1<s.size:=(by omega);have Hv:(m:Int)+1<(s.size:Int):=(by omega);have Hn:(0:Int)<=(m:Int)+1:=(by omega);have Hq:=zh (zkZ s (m+1) H0);go_wp2;go_quiet (fail);have hW7:=H5.o.drewN nq;have hO7:=Hj.o.drewN nq;obtain⟨w7,hw7⟩:=zE (w6.drewN nq);rw[hw7]at hW7 hO7 ⊢;clear hw7;clear c0 c1 cf1 t0 t1 t2 t3 e0 e1 e2 e3 z0 z1 z2 z3 f0 f1 f2 f3 l0 l1 lb;obtain⟨c0,c1,cf1,⟨t0,t1,t2,t3⟩,⟨e0,e1,e2,e3⟩,⟨z0,z1,z2,z3⟩,⟨f0,f1,f2,f3⟩,l0,l1,lb⟩:=hW7.facts;have H6:=zh hW7;have H4:=zh hO7;clear hW7 hO7;have Hh:Hid (Lx.quoted k (s.data.toList.drop (k+1)) [] 1=if(s[m+1]'H0).toNat==110 then Lx.quoted k (s.data.toList.drop (m+1+1)) (l++[10]) (m-k+2)else if(s[m+1]'H0).toNat==34||(s[m+1]'H0).toNat==92 then Lx.quoted k (s.data.toList.drop (m+1+1)) (l++[s[m+1]'H0]) (m-k+2)else .bad 12 (k+(m-k)+1)):=
       HE.o.symm.trans (by rw[HD.o,Hq.o];exact zbtZ H7.o)
      by_cases h110:(s[m+1]'H0).toNat=110
      ·have B110:(((s[m+1]'H0).toNat:Int)==110)=true:=(by simp;omega);have HQ:Hid (Lx.quoted k (s.data.toList.drop (m+2)) (l++[10]) (m+2-k)=Lx.quoted k (s.data.toList.drop (k+1)) [] 1):=(by have e:=Hh.o;rw[if_pos (by simp[h110]),show m-k+2=m+2-k from by omega]at e;exact e.symm);clear h110;go_wp2_with (at_builtin;refine zcnZ (w.heap.size+2) rfl (.tmp 103) (.tmp 104) rfl _ l 10 rfl rfl H4.o (by omega) (by omega) ?_;intro v1 w1 hown H1;have hW1:=(H6.o.row (yeZ w7 _ none) (fun g e=>nomatch e)).row H1 (fun g hg=>OwnB.base H4.o g hg);clear c0 c1 cf1 t0 t1 t2 t3 e0 e1 e2 e3 z0 z1 z2 z3 f0 f1 f2 f3 l0 l1 lb;obtain⟨c0,c1,cf1,⟨t0,t1,t2,t3⟩,⟨e0,e1,e2,e3⟩,⟨z0,z1,z2,z3⟩,⟨f0,f1,f2,f3⟩,l0,l1,lb⟩:=hW1.facts);have Hf:=zh hown;have Hi:=zh hW1;clear hown H1 hW1;go_wp2;go_roundg (s.size-(m+2))
       case measure=>have:=HN.o;omega
       case rel=>exact⟨m+2,_,rfl,by omega,by omega,Hi.o.set _ _ (by omega),Hf.o.set (by omega) _ _,by simp;omega,HQ.o⟩
      ·have B110:(((s[m+1]'H0).toNat:Int)==110)=false:=(by simp;omega);by_cases hq:(s[m+1]'H0).toNat=34\/(s[m+1]'H0).toNat=92
       ·have HQ:Hid (Lx.quoted k (s.data.toList.drop (m+2)) (l++[s[m+1]'H0]) (m+2-k)=Lx.quoted k (s.data.toList.drop (k+1)) [] 1):=(by have e:=Hh.o;rw[if_neg (by simpa using h110),if_pos (by simpa using hq),show m-k+2=m+2-k from by omega]at e;exact e.symm);clear h110;have Hw:Hid (TW w b s k w7.drew (m+1)):=H6.o.drewN 1;have Hr:Hid (OwnB w7.drew (w.heap.size+2) (.slice A0 l.length cap0) l):=H4.o.drewN 1;by_cases h34b:(s[m+1]'H0).toNat=34
        ·have B34b:(((s[m+1]'H0).toNat:Int)==34)=true:=(by simp;omega);clear h34b hq;go_upto_region 21 with fail
         go_region_law (refine zkvZ (W:=(w7.alloc (.cells #[.int .u8 ((s[m+1]'H0).toNat:Int)] 5)).drew) (w.heap.size+2) rfl (.tmp 109) (.tmp 119) rfl _ l (s[m+1]'H0) w7.heap.size rfl rfl (by exact ydZ w7 _) (by exact(H4.o.alloc _).drewN 1) (by simp;omega) (by omega) ?_;intro v1 w1 hown H1;have hW1:=((H6.o.row (yeZ w7 _ none) (fun g e=>nomatch e)).drewN 1).row H1 (fun g hg=>OwnB.base H4.o g hg);clear c0 c1 cf1 t0 t1 t2 t3 e0 e1 e2 e3 z0 z1 z2 z3 f0 f1 f2 f3 l0 l1 lb;obtain⟨c0,c1,cf1,⟨t0,t1,t2,t3⟩,⟨e0,e1,e2,e3⟩,⟨z0,z1,z2,z3⟩,⟨f0,f1,f2,f3⟩,l0,l1,lb⟩:=hW1.facts)
         all_goals
          have Hb:=zh hown;have Hc:=zh hW1;clear hown H1 hW1;go_wp2;go_roundg (s.size-(m+2))
          case measure=>have:=HN.o;omega
          case rel=>exact⟨m+2,_,rfl,by omega,by omega,Hc.o.set _ _ (by omega),Hb.o.set (by omega) _ _,by simp;omega,HQ.o⟩
        ·have B34b:(((s[m+1]'H0).toNat:Int)==34)=false:=(by simp;omega);have B92b:(((s[m+1]'H0).toNat:Int)==92)=true:=(by simp;omega);clear h34b hq;go_upto_region 21 with fail
         go_region_law (refine zkvZ (W:=(w7.alloc (.cells #[.int .u8 ((s[m+1]'H0).toNat:Int)] 5)).drew) (w.heap.size+2) rfl (.tmp 109) (.tmp 119) rfl _ l (s[m+1]'H0) w7.heap.size rfl rfl (by exact ydZ w7 _) (by exact(H4.o.alloc _).drewN 1) (by simp;omega) (by omega) ?_;intro v1 w1 hown H1;have hW1:=((H6.o.row (yeZ w7 _ none) (fun g e=>nomatch e)).drewN 1).row H1 (fun g hg=>OwnB.base H4.o g hg);clear c0 c1 cf1 t0 t1 t2 t3 e0 e1 e2 e3 z0 z1 z2 z3 f0 f1 f2 f3 l0 l1 lb;obtain⟨c0,c1,cf1,⟨t0,t1,t2,t3⟩,⟨e0,e1,e2,e3⟩,⟨z0,z1,z2,z3⟩,⟨f0,f1,f2,f3⟩,l0,l1,lb⟩:=hW1.facts)
         all_goals
          have Hb:=zh hown;have Hc:=zh hW1;clear hown H1 hW1;go_wp2;go_roundg (s.size-(m+2))
          case measure=>have:=HN.o;omega
          case rel=>exact⟨m+2,_,rfl,by omega,by omega,Hc.o.set _ _ (by omega),Hb.o.set (by omega) _ _,by simp;omega,HQ.o⟩
       ·have HQ:Hid (Lx.quoted k (s.data.toList.drop (k+1)) [] 1=.bad 12 (m+1)):=(by have e:=Hh.o;rw[if_neg (by simpa using h110),if_neg (by simpa using hq),show k+(m-k)+1=m+1 from by omega]at e;exact e);have B34b:(((s[m+1]'H0).toNat:Int)==34)=false:=(by simp;omega);have B92b:(((s[m+1]'H0).toNat:Int)==92)=false:=(by simp;omega);clear h110 hq;go_wp2
        go_region_with (go_at_call 124;refine(zcjZ _ _ _).mono ?_;rintro e w' ⟨rfl,rfl⟩)
        all_goals
         go_wp2
         refine ylZ (v:=.tuple #[.agg #[.int .i64 k,.int .i64 0,.string ⟨#[]⟩,.int .i64 0],.pointer (some ⟨w7.heap.size,0,none⟩)]) (by simp[results, Tryz.results147,go_sem,z0,z1,z2,z3,f0,f1,f2,f3,l1]) rfl ?_;exact zduZ (xa:=m+1) (by first | rfl | omega) HQ.o H6.o.g H6.o.c (by have:=H6.o.b;omega) (by omega) _ _ _ _
    ·have B92:(((s[m]'hlt).toNat:Int)==92)=false:=(by simp;omega);have H7:=zh h92;clear h92;by_cases hbad:(s[m]'hlt).toNat<32\/126<(s[m]'hlt).toNat
     ·have HB:=zh hbad;by_cases Hk:(((s[m]'hlt).toNat:Nat):Int)<32
      ·clear hbad;have HQ:Hid (Lx.quoted k (s.data.toList.drop (k+1)) [] 1=.bad 12 m):=(HE.o.symm.trans (by rw[HD.o,zewZ H8.o H7.o HB.o,show k+(m-k)=m from by omega]));go_wp2
       go_region_with (go_at_call 124;refine(zcjZ _ _ _).mono ?_;rintro e w' ⟨rfl,rfl⟩)
       all_goals
        go_wp2
        refine ylZ (v:=.tuple #[.agg #[.int .i64 k,.int .i64 0,.string ⟨#[]⟩,.int .i64 0],.pointer (some ⟨w4.heap.size,0,none⟩)]) (by simp[results, Tryz.results147,go_sem,z0,z1,z2,z3,f0,f1,f2,f3,l1]) rfl ?_;exact zduZ (xa:=m) (by first | rfl | omega) HQ.o H3.o.g H3.o.c (by have:=H3.o.b;omega) (by omega) _ _ _ _
      ·have He:(126:Int)<(((s[m]'hlt).toNat:Nat):Int):=(by omega);have Ho:¬(((s[m]'hlt).toNat:Nat):Int)<32:=Hk;clear hbad;have HQ:Hid (Lx.quoted k (s.data.toList.drop (k+1)) [] 1=.bad 12 m):=(HE.o.symm.trans (by rw[HD.o,zewZ H8.o H7.o HB.o,show k+(m-k)=m from by omega]));go_wp2
       go_region_with (go_at_call 124;refine(zcjZ _ _ _).mono ?_;rintro e w' ⟨rfl,rfl⟩)
       all_goals
        go_wp2
        refine ylZ (v:=.tuple #[.agg #[.int .i64 k,.int .i64 0,.string ⟨#[]⟩,.int .i64 0],.pointer (some ⟨w4.heap.size,0,none⟩)]) (by simp[results, Tryz.results147,go_sem,z0,z1,z2,z3,f0,f1,f2,f3,l1]) rfl ?_;exact zduZ (xa:=m) (by first | rfl | omega) HQ.o H3.o.g H3.o.c (by have:=H3.o.b;omega) (by omega) _ _ _ _
     ·have HB:=zh hbad;have Hk:(32:Int)<=(((s[m]'hlt).toNat:Nat):Int):=(by omega);have He:(((s[m]'hlt).toNat:Nat):Int)<=126:=(by omega);clear hbad;have HQ:Hid (Lx.quoted k (s.data.toList.drop (m+1)) (l++[s[m]'hlt]) (m+1-k)=Lx.quoted k (s.data.toList.drop (k+1)) [] 1):=(by have e:=HE.o;rw[HD.o,zfyZ H8.o H7.o HB.o,show m-k+1=m+1-k from by omega]at e;exact e);go_wp2_with (at_builtin;refine zcnZ (w.heap.size+2) rfl (.tmp 41) (.tmp 43) rfl _ l (s[m]'hlt) rfl rfl Ha.o (by omega) (by omega) ?_;intro v1 w1 hown H1;have hW1:=(H3.o.row (yeZ w4 _ none) (fun g e=>nomatch e)).row H1 (fun g hg=>OwnB.base Ha.o g hg);clear c0 c1 cf1 t0 t1 t2 t3 e0 e1 e2 e3 z0 z1 z2 z3 f0 f1 f2 f3 l0 l1 lb;obtain⟨c0,c1,cf1,⟨t0,t1,t2,t3⟩,⟨e0,e1,e2,e3⟩,⟨z0,z1,z2,z3⟩,⟨f0,f1,f2,f3⟩,l0,l1,lb⟩:=hW1.facts);have Hf:=zh hown;have Hi:=zh hW1;clear hown H1 hW1;go_wp2;go_roundg (s.size-(m+1))
      case measure=>have:=HN.o;omega
      case rel=>exact⟨m+1,_,rfl,by omega,by omega,Hi.o.set _ _ (by omega),Hf.o.set (by omega) _ _,by simp;omega,HQ.o⟩
  ·have HM:Hid (m=s.size):=(by have:m=s.size:=(by omega);exact this);go_wp2;go_quiet (fail)
   have hWq:=HW.o.drewN nq;obtain⟨w3,hw3⟩:=zE (wr.drewN nq);rw[hw3]at hWq ⊢;clear hw3;clear c0 c1 cf1 t0 t1 t2 t3 e0 e1 e2 e3 z0 z1 z2 z3 f0 f1 f2 f3 l0 l1 lb;obtain⟨c0,c1,cf1,⟨t0,t1,t2,t3⟩,⟨e0,e1,e2,e3⟩,⟨z0,z1,z2,z3⟩,⟨f0,f1,f2,f3⟩,l0,l1,lb⟩:=hWq.facts;have H9:=zh hWq;clear hWq
   have HQ:Hid (Lx.quoted k (s.data.toList.drop (k+1)) [] 1=.bad 12 m):=HE.o.symm.trans (by
    rw[yNZ (by rw[zhZ,HM.o];exact ybZ _),Lx.quoted,show k+(m-k)=m from by omega])
   go_wp2
   go_region_with (go_at_call 124;refine(zcjZ _ _ _).mono ?_;rintro e w' ⟨rfl,rfl⟩)
   all_goals
    go_wp2
    refine ylZ (v:=.tuple #[.agg #[.int .i64 k,.int .i64 0,.string ⟨#[]⟩,.int .i64 0],.pointer (some ⟨w3.heap.size,0,none⟩)]) (by simp[results, Tryz.results147,go_sem,z0,z1,z2,z3,f0,f1,f2,f3,l1]) rfl ?_;exact zduZ (xa:=m) (by first | rfl | omega) HQ.o H9.o.g H9.o.c (by have:=H9.o.b;omega) (by omega) _ _ _ _
end Go.Proofs.YtdncljdfmdgdaaaGreatDoor
