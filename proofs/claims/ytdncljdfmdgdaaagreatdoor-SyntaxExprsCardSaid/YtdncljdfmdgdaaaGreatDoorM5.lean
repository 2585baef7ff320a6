/-
  The walk of (*cutter).text.
-/
import Derived.Test.YtdncljdfmdgdaaaGreatDoorM1
import Derived.Test.YtdncljdfmdgdaaaGreatDoorM4
import Derived.Test.YtdncljdfmdgdaaaGreatDoorM3
import Derived.StillTailTactics
set_option linter.unusedSimpArgs false
set_option linter.unusedVariables false
set_option maxRecDepth 100000
set_option maxHeartbeats 8000000
namespace Go.Proofs.YtdncljdfmdgdaaaGreatDoor
open Go.RowKit
structure TW (w:World) (b:Nat) (s:ByteArray) (k:Nat) (W:World) (m:Nat):Prop where
 g:w.grownBy W (some b)
 c:Cu W b s m
 t:W.heap[w.heap.size]? =some (.cells #[.int .i64 k,.int .i64 0,.string ⟨#[]⟩,.int .i64 0] 133 (0,0))
 z:W.heap[w.heap.size+1]? =some (.cells #[.int .i64 0,.int .i64 0,.string ⟨#[]⟩,.int .i64 0] 133 (0,0))
 b:b<w.heap.size
section
variable {w W W':World} {b:Nat} {s:ByteArray} {k m:Nat}
theorem TW.start (hc:Cu w b s k) (j:Int) (hj:j=((k+1:Nat):Int)):TW w b s k (((w.setCell ⟨b,1,none⟩ (.int .i64 j)).alloc (.cells #[.int .i64 k,.int .i64 0,.string ⟨#[]⟩,.int .i64 0] 133)).alloc (.cells #[.int .i64 0,.int .i64 0,.string ⟨#[]⟩,.int .i64 0] 133)) (k+1):=by
 have hz:(w.setCell ⟨b,1,none⟩ (.int .i64 j)).heap.size=w.heap.size:=by simp[World.setCell]
 refine⟨((zjZ _ _ _ _).trans (World.grownBy_alloc _ _ _)).trans (World.grownBy_alloc _ _ _),((hc.set j _ hj).alloc _).alloc _,?_,?_,hc.lt⟩
 ·have:=heap_alloc_new (w.setCell ⟨b,1,none⟩ (.int .i64 j)) (.cells #[.int .i64 k,.int .i64 0,.string ⟨#[]⟩,.int .i64 0] 133)
  rw[hz]at this
  exact heap_alloc this _
 ·have:=heap_alloc_new ((w.setCell ⟨b,1,none⟩ (.int .i64 j)).alloc (.cells #[.int .i64 k,.int .i64 0,.string ⟨#[]⟩,.int .i64 0] 133)) (.cells #[.int .i64 0,.int .i64 0,.string ⟨#[]⟩,.int .i64 0] 133)
  rwa [World.size_alloc,hz]at this
theorem TW.set (h:TW w b s k W m) (j:Int) (p:Nat) (hj:j=(p:Int)):TW w b s k (W.setCell ⟨b,1,none⟩ (.int .i64 j)) p:=
 ⟨h.g.trans (zjZ _ _ _ _),h.c.set j p hj,(Below.heap_setCell _ _ _ _ (fun e=>by have:=h.b;simp at e;omega)).trans h.t,(Below.heap_setCell _ _ _ _ (fun e=>by have:=h.b;simp at e;omega)).trans h.z,h.b⟩
theorem TW.drewN (h:TW w b s k W m) (n:Nat):TW w b s k (W.drewN n) m:=⟨h.g.trans (zkZ _ _ _),h.c,h.t,h.z,h.b⟩
theorem TW.drew (h:TW w b s k W m):TW w b s k W.drew m:=h.drewN 1
theorem TW.row (h : TW w b s k W m) {row : Option Nat} (hg : W.grownBy W' row) (hr : ∀ g, row = some g → w.heap.size + 2 ≤ g) : TW w b s k W' m :=
  ⟨by
    rcases row with _ | g
    · exact ⟨hg.os.trans h.g.os, hg.tape.trans h.g.tape, hg.output.trans h.g.output, Nat.le_trans h.g.size hg.size, fun j hj hne => (hg.block j (Nat.lt_of_lt_of_le hj h.g.size) (fun e => nomatch e)).trans (h.g.block j hj hne)⟩
    · exact zbeZ h.g hg (by have := hr g rfl; omega),
   h.c.kept hg (fun e => by have := hr b e.symm; have := h.b; omega),
   (hg.block _ (zaZ h.t) (fun e => by have := hr _ e.symm; omega)).trans h.t,
   (hg.block _ (zaZ h.z) (fun e => by have := hr _ e.symm; omega)).trans h.z, h.b⟩
theorem TW.facts (h:TW w b s k W m) :
  W.cell? ⟨b,0,none⟩=some (.string s)∧W.cell? ⟨b,1,none⟩=some (.int .i64 m)∧W.frozen? ⟨b,1,none⟩=false∧
  (W.cell? ⟨w.heap.size,0,none⟩=some (.int .i64 k)∧W.cell? ⟨w.heap.size,1,none⟩=some (.int .i64 0)∧W.cell? ⟨w.heap.size,2,none⟩=some (.string ⟨#[]⟩)∧W.cell? ⟨w.heap.size,3,none⟩=some (.int .i64 0))∧
  (W.frozen? ⟨w.heap.size,0,none⟩=false∧W.frozen? ⟨w.heap.size,1,none⟩=false∧W.frozen? ⟨w.heap.size,2,none⟩=false∧W.frozen? ⟨w.heap.size,3,none⟩=false)∧
  (W.cell? ⟨w.heap.size+1,0,none⟩=some (.int .i64 0)∧W.cell? ⟨w.heap.size+1,1,none⟩=some (.int .i64 0)∧W.cell? ⟨w.heap.size+1,2,none⟩=some (.string ⟨#[]⟩)∧W.cell? ⟨w.heap.size+1,3,none⟩=some (.int .i64 0))∧
  (W.frozen? ⟨w.heap.size+1,0,none⟩=false∧W.frozen? ⟨w.heap.size+1,1,none⟩=false∧W.frozen? ⟨w.heap.size+1,2,none⟩=false∧W.frozen? ⟨w.heap.size+1,3,none⟩=false)∧
  w.heap.size<W.heap.size∧w.heap.size+1<W.heap.size∧b<W.heap.size:=
 ⟨h.c.c0,h.c.c1,h.c.f1,zhZ h.t,zrZ h.t,zhZ h.z,zrZ h.z,zaZ h.t,zaZ h.z,h.c.lt⟩
end
theorem ztaZ {w wq:World} {b k m g:Nat} {s:ByteArray} {p a0 a1 a3:Int} {a2:ByteArray} {r:Lx.Res} {t:Lx.Tok} {n:Nat} (hr:r=.ok t n) (hm:m=k+n) (h0:a0=t.pos) (h1:a1=t.kind) (h2:a2.data.toList=t.s) (h3:a3=t.n)
  (hg:w.grownBy wq (some b)) (hC:Cu wq b s m) (hbg:b<g) (hwg:w.heap.size≤g) (d1 d2 c0 c1 c2 c3:Value) :
  ResIs p b s k w r (.returned (.tuple #[.agg #[.int .i64 a0,.int .i64 a1,.string a2,.int .i64 a3],.pointer none]))
   ((((((wq.setCell ⟨g,1,none⟩ d1).setCell ⟨g,2,none⟩ d2).setCell ⟨g+1,0,none⟩ c0).setCell ⟨g+1,1,none⟩ c1).setCell ⟨g+1,2,none⟩ c2).setCell ⟨g+1,3,none⟩ c3).drew:=by
 have H0:w.grownBy ((wq.setCell ⟨g,1,none⟩ d1).setCell ⟨g,2,none⟩ d2) (some b):=zbeZ hg ((zjZ _ _ _ _).trans (zjZ _ _ _ _)) hwg
 have hC2:Cu ((wq.setCell ⟨g,1,none⟩ d1).setCell ⟨g,2,none⟩ d2) b s m:=(hC.far (by omega) _ _).far (by omega) _ _
 generalize (wq.setCell ⟨g,1,none⟩ d1).setCell ⟨g,2,none⟩ d2=wz at H0 hC2 ⊢
 have h:ResIs p b s k w r _ _:=resOk hr hm h0 h1 h2 h3 H0 hC2 (show b<g+1 by omega) (show w.heap.size≤g+1 by omega) c0 c1 c2 c3
 subst hr
 exact⟨h.1.trans (zkZ _ 1 _),h.2.1,h.2.2⟩
theorem zffZ {p k:Nat} {c:UInt8} {t l:List UInt8} (h34:¬c.toNat=34) (h92:¬c.toNat=92) (hb:¬(c.toNat<32∨126<c.toNat)):Lx.quoted p (c::t) l k=Lx.quoted p t (l++[c]) (k+1):=by
 have e34:c≠34:=fun e=>h34 (by rw[e];rfl)
 have e92:c≠92:=fun e=>h92 (by rw[e];rfl)
 rw[Lx.quoted.eq_def]
 split
 ·cases ‹_::_=[]›
 ·rename_i h;injection h with h1 h2;exact absurd h1 e34
 ·rename_i h;injection h with h1 h2;exact absurd h1 e92
 ·rename_i h;injection h with h1 h2;exact absurd h1 e92
 ·rename_i h;injection h with h1 h2;subst h1;subst h2;rw[if_neg (by simpa using hb)]
theorem zhfZ {p k:Nat} {c:UInt8} {t l:List UInt8} (h34:c.toNat=34):Lx.quoted p (c::t) l k=.ok ⟨p,5,l,0⟩ (k+1):=by
 have e:c=34:=(u8_eq _ 34 (by decide)).1 h34
 subst e
 rfl
theorem zhgZ {p k:Nat} {c:UInt8} {l:List UInt8} (h92:c.toNat=92):Lx.quoted p [c] l k=.bad 12 (p+k+1):=by
 have e:c=92:=(u8_eq _ 92 (by decide)).1 h92
 subst e
 rfl
theorem zbqZ {p k:Nat} {c d:UInt8} {t l:List UInt8} (h92:c.toNat=92):Lx.quoted p (c::d::t) l k=
  if d.toNat==110 then Lx.quoted p t (l++[10]) (k+2)else if d.toNat==34||d.toNat==92 then Lx.quoted p t (l++[d]) (k+2)else .bad 12 (p+k+1):=by
 have e:c=92:=(u8_eq _ 92 (by decide)).1 h92
 subst e
 rfl
theorem zejZ {p k:Nat} {c:UInt8} {t l:List UInt8} (h34:¬c.toNat=34) (h92:¬c.toNat=92) (hb:c.toNat<32∨126<c.toNat):Lx.quoted p (c::t) l k=.bad 12 (p+k):=by
 have e34:c≠34:=fun e=>h34 (by rw[e];rfl)
 have e92:c≠92:=fun e=>h92 (by rw[e];rfl)
 rw[Lx.quoted.eq_def]
 split
 ·cases ‹_::_=[]›
 ·rename_i h;injection h with h1 h2;exact absurd h1 e34
 ·rename_i h;injection h with h1 h2;exact absurd h1 e92
 ·rename_i h;injection h with h1 h2;exact absurd h1 e92
 ·rename_i h;injection h with h1 h2;subst h1;rw[if_pos (by simpa using hb)]
theorem zmdZ (s:ByteArray) (b k:Nat) (w:World) (hc:Cu w b s k) (hk:k<s.size) (hs:s.size≤140737488351232) (hG:GS w) (hb:NG≤b) :
  Calls Tryz.prog 147 #[.pointer (some ⟨b,0,none⟩),.agg #[.int .i64 k,.int .i64 0,.string ⟨#[]⟩,.int .i64 0]] w
   (ResIs k b s k w (Lx.quoted k (s.data.toList.drop (k+1)) [] 1)):=by
 have Hm:=zh hc
 have Hs:=hc.lt
 have hCb:=(hc.alloc (.cells #[.int .i64 k,.int .i64 0,.string ⟨#[]⟩,.int .i64 0] 133)).alloc (.cells #[.int .i64 0,.int .i64 0,.string ⟨#[]⟩,.int .i64 0] 133)
 have Hi:=hCb.c1
 have He:=hCb.f1
 clear hc hCb
 have k1:(k:Int)≤140737488351232:=by omega
 go_enter Tryz.func147, Tryz.ntmps147
 go_wp2
 clear Hi He
 have h2:=TW.start Hm.o ((k:Int)+1) (by omega)
 obtain⟨w2,hw2⟩:=zE ((((w.setCell ⟨b,1,none⟩ (.int .i64 ((k:Int)+1))).alloc (.cells #[.int .i64 k,.int .i64 0,.string ⟨#[]⟩,.int .i64 0] 133)).alloc (.cells #[.int .i64 0,.int .i64 0,.string ⟨#[]⟩,.int .i64 0] 133)))
 rw[hw2]at h2 ⊢
 clear hw2
 have H2:=zh h2
 clear h2
 go_loopg [6] (s.size-(k+1)) (fun n v wr=>∃(m:Nat) (l:List UInt8),n=s.size-m∧k+1≤m∧m≤s.size∧TW w b s k wr m∧OwnB wr (w.heap.size+2) v l∧l.length≤m∧
  Lx.quoted k (s.data.toList.drop m) l (m-k)=Lx.quoted k (s.data.toList.drop (k+1)) [] 1)
 case atStart=>exact⟨k+1,[],rfl,Nat.le_refl _,by omega,H2.o,OwnB.nil _ _,by simp,by rw[show k+1-k=1 from by omega]⟩
 case round=>
  obtain⟨m,l,hn,hkm,hm,hW,hO,hl,he⟩:=hrel
  obtain⟨c0,c1,cf1,⟨t0,t1,t2,t3⟩,⟨e0,e1,e2,e3⟩,⟨z0,z1,z2,z3⟩,⟨f0,f1,f2,f3⟩,l0,l1,lb⟩:=hW.facts
  have HW:=zh hW
  have HO:=zh hO
  have HE:=zh he
  have HN:=zh hn
  obtain⟨A0,cap0,hv⟩:=hO.slice
  clear he hn hW hO
  subst hv
  have m1:(m:Int)≤140737488351232:=by omega
  by_cases hlt:m<s.size
  ·have hi:(m:Int)<(s.size:Int):=by omega
   have Hx:(0:Int)≤(m:Int):=by omega
   have HD:=zh (zlZ s m hlt)
   go_wp2
   go_quiet (fail)
   have hWq:=HW.o.drewN nq
   have hOq:=HO.o.drewN nq
   obtain⟨w3,hw3⟩:=zE (wr.drewN nq)
   rw[hw3]at hWq hOq ⊢
   clear hw3
   clear c0 c1 cf1 t0 t1 t2 t3 e0 e1 e2 e3 z0 z1 z2 z3 f0 f1 f2 f3 l0 l1 lb
   obtain⟨c0,c1,cf1,⟨t0,t1,t2,t3⟩,⟨e0,e1,e2,e3⟩,⟨z0,z1,z2,z3⟩,⟨f0,f1,f2,f3⟩,l0,l1,lb⟩:=hWq.facts
   have H8:=zh hWq
   have Hq:=zh hOq
   clear hWq hOq
   go_wp2
   go_quiet (fail)
   have hWr:=H8.o.drewN nq
   have hOr:=Hq.o.drewN nq
   obtain⟨w4,hw4⟩:=zE (w3.drewN nq)
   rw[hw4]at hWr hOr ⊢
   clear hw4
   clear c0 c1 cf1 t0 t1 t2 t3 e0 e1 e2 e3 z0 z1 z2 z3 f0 f1 f2 f3 l0 l1 lb
   obtain⟨c0,c1,cf1,⟨t0,t1,t2,t3⟩,⟨e0,e1,e2,e3⟩,⟨z0,z1,z2,z3⟩,⟨f0,f1,f2,f3⟩,l0,l1,lb⟩:=hWr.facts
   have H3:=zh hWr
   have Ha:=zh hOr
   clear hWr hOr
   by_cases h34:(s[m]'hlt).toNat=34
   ·have B34:(((s[m]'hlt).toNat:Int)==34)=true:=by simp;omega
    have H9:=zh h34
    clear h34
    have HQ:Hid (Lx.quoted k (s.data.toList.drop (k+1)) [] 1=.ok ⟨k,5,l,0⟩ (m+1-k)):=HE.o.symm.trans (by
     rw[HD.o,zhfZ H9.o,show m-k+1=m+1-k from by omega])
    go_upto_region 9 with fail
    have hW6:=H3.o.set ((m:Int)+1) (m+1) (by omega)
    have hO6:=Ha.o.set (b:=b) (by omega) 1 (.int .i64 ((m:Int)+1))
    obtain⟨w6,hw6⟩:=zE (w4.setCell ⟨b,1,none⟩ (.int .i64 ((m:Int)+1)))
    rw[hw6]at hW6 hO6 ⊢
    clear hw6
    clear c0 c1 cf1 t0 t1 t2 t3 e0 e1 e2 e3 z0 z1 z2 z3 f0 f1 f2 f3 l0 l1 lb
    obtain⟨c0,c1,cf1,⟨t0,t1,t2,t3⟩,⟨e0,e1,e2,e3⟩,⟨z0,z1,z2,z3⟩,⟨f0,f1,f2,f3⟩,l0,l1,lb⟩:=hW6.facts
    have Ht:(convert 98 9 (.slice A0 l.length cap0)).run Tryz.prog w6.drew=.ok (.string ⟨l.toArray⟩) w6.drew:=zdkZ (hO6.drewN 1)
    have Hv:(convert 98 9 (.slice A0 l.length cap0)).run Tryz.prog (w6.setCell ⟨w.heap.size,1,none⟩ (.int .i64 5)).drew=.ok (.string ⟨l.toArray⟩) (w6.setCell ⟨w.heap.size,1,none⟩ (.int .i64 5)).drew:=zdkZ ((hO6.set (b:=w.heap.size) (by omega) 1 (.int .i64 5)).drewN 1)
    have H6:=zh hW6
    have Hj:=zh hO6
    clear hW6 hO6
    go_region
    all_goals
     go_wp2
     refine bodyPost_ret (v:=.tuple #[.agg #[.int .i64 k,.int .i64 5,.string ⟨l.toArray⟩,.int .i64 0],.pointer none]) (by simp[results, Tryz.results147,go_sem,z0,z1,z2,z3,f0,f1,f2,f3]) rfl ?_
     refine ztaZ HQ.o (by omega) rfl rfl rfl rfl H6.o.g H6.o.c (by omega) (by omega) _ _ _ _ _ _
   ·have B34:(((s[m]'hlt).toNat:Int)==34)=false:=by simp;omega
    have H9:=zh h34
    clear h34
    by_cases h92:(s[m]'hlt).toNat=92
    ·have B92:(((s[m]'hlt).toNat:Int)==92)=true:=by simp;omega
     have H7:=zh h92
     clear h92
     go_upto_region 13 with fail
     have hW5:=H3.o.set ((m:Int)+1) (m+1) (by omega)
     have hO5:=Ha.o.set (b:=b) (by omega) 1 (.int .i64 ((m:Int)+1))
     obtain⟨w5,hw5⟩:=zE (w4.setCell ⟨b,1,none⟩ (.int .i64 ((m:Int)+1)))
     rw[hw5]at hW5 hO5 ⊢
     clear hw5
     clear c0 c1 cf1 t0 t1 t2 t3 e0 e1 e2 e3 z0 z1 z2 z3 f0 f1 f2 f3 l0 l1 lb
     obtain⟨c0,c1,cf1,⟨t0,t1,t2,t3⟩,⟨e0,e1,e2,e3⟩,⟨z0,z1,z2,z3⟩,⟨f0,f1,f2,f3⟩,l0,l1,lb⟩:=hW5.facts
     go_quiet (fail)
     have hW6:=hW5.drewN nq
     have hO6:=hO5.drewN nq
     obtain⟨w6,hw6⟩:=zE (w5.drewN nq)
     rw[hw6]at hW6 hO6 ⊢
     clear hw6
     clear c0 c1 cf1 t0 t1 t2 t3 e0 e1 e2 e3 z0 z1 z2 z3 f0 f1 f2 f3 l0 l1 lb
     obtain⟨c0,c1,cf1,⟨t0,t1,t2,t3⟩,⟨e0,e1,e2,e3⟩,⟨z0,z1,z2,z3⟩,⟨f0,f1,f2,f3⟩,l0,l1,lb⟩:=hW6.facts
     have H6:=zh hW6
     have Hj:=zh hO6
     clear hW6 hO6 hW5 hO5
     by_cases hend:m+1=s.size
     ·have bend:((m:Int)+1==(s.size:Int))=true:=by simp;omega
      have Ho:=zh hend
      clear hend
      have HQ:Hid (Lx.quoted k (s.data.toList.drop (k+1)) [] 1=.bad 12 (m+1)):=HE.o.symm.trans (by
       rw[HD.o,List.drop_eq_nil_of_le (i:=m+1) (by rw[ziZ,Ho.o];exact Nat.le_refl _),zhgZ H7.o,show k+(m-k)+1=m+1 from by omega])
      go_wp2
      go_region_with (go_at_call 124;refine(zccZ _ _ _).mono ?_;rintro e w' ⟨rfl,rfl⟩)
      all_goals
       go_wp2
       refine bodyPost_ret (v:=.tuple #[.agg #[.int .i64 k,.int .i64 0,.string ⟨#[]⟩,.int .i64 0],.pointer (some ⟨w6.heap.size,0,none⟩)]) (by simp[results, Tryz.results147,go_sem,z0,z1,z2,z3,f0,f1,f2,f3,l1]) rfl ?_
       exact zdoZ (xa:=m+1) (by first | rfl | omega) HQ.o H6.o.g H6.o.c (by have:=H6.o.b;omega) (by omega) _ _ _ _
     ·have bend:((m:Int)+1==(s.size:Int))=false:=by simp;omega
      have H0:m+1<s.size:=by omega
      have Hr:(m:Int)+1<(s.size:Int):=by omega
      have Hn:(0:Int)≤(m:Int)+1:=by omega
      have Hl:=zh (zlZ s (m+1) H0)
      go_wp2
      go_quiet (fail)
      have hW7:=H6.o.drewN nq
      have hO7:=Hj.o.drewN nq
      obtain⟨w7,hw7⟩:=zE (w6.drewN nq)
      rw[hw7]at hW7 hO7 ⊢
      clear hw7
      clear c0 c1 cf1 t0 t1 t2 t3 e0 e1 e2 e3 z0 z1 z2 z3 f0 f1 f2 f3 l0 l1 lb
      obtain⟨c0,c1,cf1,⟨t0,t1,t2,t3⟩,⟨e0,e1,e2,e3⟩,⟨z0,z1,z2,z3⟩,⟨f0,f1,f2,f3⟩,l0,l1,lb⟩:=hW7.facts
      have H4:=zh hW7
      have H5:=zh hO7
      clear hW7 hO7
      have Hg:Hid (Lx.quoted k (s.data.toList.drop (k+1)) [] 1=if(s[m+1]'H0).toNat==110 then Lx.quoted k (s.data.toList.drop (m+1+1)) (l++[10]) (m-k+2)else if(s[m+1]'H0).toNat==34||(s[m+1]'H0).toNat==92 then Lx.quoted k (s.data.toList.drop (m+1+1)) (l++[s[m+1]'H0]) (m-k+2)else .bad 12 (k+(m-k)+1)):=
       HE.o.symm.trans (by rw[HD.o,Hl.o];exact zbqZ H7.o)
      by_cases h110:(s[m+1]'H0).toNat=110
      ·have B110:(((s[m+1]'H0).toNat:Int)==110)=true:=by simp;omega
       have HQ:Hid (Lx.quoted k (s.data.toList.drop (m+2)) (l++[10]) (m+2-k)=Lx.quoted k (s.data.toList.drop (k+1)) [] 1):=by
        have e:=Hg.o
        rw[if_pos (by simp[h110]),show m-k+2=m+2-k from by omega]at e
        exact e.symm
       clear h110
       go_wp2_with (at_builtin;refine zcgZ (w.heap.size+2) rfl (.tmp 103) (.tmp 104) rfl _ l 10 rfl rfl H5.o (by omega) (by omega) ?_;intro v1 w1 hown H1;have hW1:=(H4.o.row (World.grownBy_alloc w7 _ none) (fun g e=>nomatch e)).row H1 (fun g hg=>OwnB.base H5.o g hg);clear c0 c1 cf1 t0 t1 t2 t3 e0 e1 e2 e3 z0 z1 z2 z3 f0 f1 f2 f3 l0 l1 lb;obtain⟨c0,c1,cf1,⟨t0,t1,t2,t3⟩,⟨e0,e1,e2,e3⟩,⟨z0,z1,z2,z3⟩,⟨f0,f1,f2,f3⟩,l0,l1,lb⟩:=hW1.facts)
       have Hf:=zh hown
       have Hb:=zh hW1
       clear hown H1 hW1
       go_wp2
       go_roundg (s.size-(m+2))
       case measure=>have:=HN.o;omega
       case rel=>exact⟨m+2,_,rfl,by omega,by omega,Hb.o.set _ _ (by omega),Hf.o.set (by omega) _ _,by simp;omega,HQ.o⟩
      ·have B110:(((s[m+1]'H0).toNat:Int)==110)=false:=by simp;omega
       by_cases hq:(s[m+1]'H0).toNat=34∨(s[m+1]'H0).toNat=92
       ·have HQ:Hid (Lx.quoted k (s.data.toList.drop (m+2)) (l++[s[m+1]'H0]) (m+2-k)=Lx.quoted k (s.data.toList.drop (k+1)) [] 1):=by
         have e:=Hg.o
         rw[if_neg (by simpa using h110),if_pos (by simpa using hq),show m-k+2=m+2-k from by omega]at e
         exact e.symm
        clear h110
        have Hw:Hid (TW w b s k w7.drew (m+1)):=H4.o.drewN 1
        have Hu:Hid (OwnB w7.drew (w.heap.size+2) (.slice A0 l.length cap0) l):=H5.o.drewN 1
        by_cases h34b:(s[m+1]'H0).toNat=34
        ·have B34b:(((s[m+1]'H0).toNat:Int)==34)=true:=by simp;omega
         clear h34b hq
         go_upto_region 21 with fail
         go_region_law (refine zjqZ (W:=(w7.alloc (.cells #[.int .u8 ((s[m+1]'H0).toNat:Int)] 5)).drew) (w.heap.size+2) rfl (.tmp 109) (.tmp 119) rfl _ l (s[m+1]'H0) w7.heap.size rfl rfl (by exact heap_alloc_new w7 _) (by exact(H5.o.alloc _).drewN 1) (by simp;omega) (by omega) ?_;intro v1 w1 hown H1;have hW1:=((H4.o.row (World.grownBy_alloc w7 _ none) (fun g e=>nomatch e)).drewN 1).row H1 (fun g hg=>OwnB.base H5.o g hg);clear c0 c1 cf1 t0 t1 t2 t3 e0 e1 e2 e3 z0 z1 z2 z3 f0 f1 f2 f3 l0 l1 lb;obtain⟨c0,c1,cf1,⟨t0,t1,t2,t3⟩,⟨e0,e1,e2,e3⟩,⟨z0,z1,z2,z3⟩,⟨f0,f1,f2,f3⟩,l0,l1,lb⟩:=hW1.facts)
         all_goals
          have Hh:=zh hown
          have Hc:=zh hW1
          clear hown H1 hW1
          go_wp2
          go_roundg (s.size-(m+2))
          case measure=>have:=HN.o;omega
          case rel=>exact⟨m+2,_,rfl,by omega,by omega,Hc.o.set _ _ (by omega),Hh.o.set (by omega) _ _,by simp;omega,HQ.o⟩
        ·have B34b:(((s[m+1]'H0).toNat:Int)==34)=false:=by simp;omega
         have B92b:(((s[m+1]'H0).toNat:Int)==92)=true:=by simp;omega
         clear h34b hq
         go_upto_region 21 with fail
         go_region_law (refine zjqZ (W:=(w7.alloc (.cells #[.int .u8 ((s[m+1]'H0).toNat:Int)] 5)).drew) (w.heap.size+2) rfl (.tmp 109) (.tmp 119) rfl _ l (s[m+1]'H0) w7.heap.size rfl rfl (by exact heap_alloc_new w7 _) (by exact(H5.o.alloc _).drewN 1) (by simp;omega) (by omega) ?_;intro v1 w1 hown H1;have hW1:=((H4.o.row (World.grownBy_alloc w7 _ none) (fun g e=>nomatch e)).drewN 1).row H1 (fun g hg=>OwnB.base H5.o g hg);clear c0 c1 cf1 t0 t1 t2 t3 e0 e1 e2 e3 z0 z1 z2 z3 f0 f1 f2 f3 l0 l1 lb;obtain⟨c0,c1,cf1,⟨t0,t1,t2,t3⟩,⟨e0,e1,e2,e3⟩,⟨z0,z1,z2,z3⟩,⟨f0,f1,f2,f3⟩,l0,l1,lb⟩:=hW1.facts)
         all_goals
          have Hh:=zh hown
          have Hc:=zh hW1
          clear hown H1 hW1
          go_wp2
          go_roundg (s.size-(m+2))
          case measure=>have:=HN.o;omega
          case rel=>exact⟨m+2,_,rfl,by omega,by omega,Hc.o.set _ _ (by omega),Hh.o.set (by omega) _ _,by simp;omega,HQ.o⟩
       ·have HQ:Hid (Lx.quoted k (s.data.toList.drop (k+1)) [] 1=.bad 12 (m+1)):=by
         have e:=Hg.o
         rw[if_neg (by simpa using h110),if_neg (by simpa using hq),show k+(m-k)+1=m+1 from by omega]at e
         exact e
        have B34b:(((s[m+1]'H0).toNat:Int)==34)=false:=by simp;omega
        have B92b:(((s[m+1]'H0).toNat:Int)==92)=false:=by simp;omega
        clear h110 hq
        go_wp2
        go_region_with (go_at_call 124;refine(zccZ _ _ _).mono ?_;rintro e w' ⟨rfl,rfl⟩)
        all_goals
         go_wp2
         refine bodyPost_ret (v:=.tuple #[.agg #[.int .i64 k,.int .i64 0,.string ⟨#[]⟩,.int .i64 0],.pointer (some ⟨w7.heap.size,0,none⟩)]) (by simp[results, Tryz.results147,go_sem,z0,z1,z2,z3,f0,f1,f2,f3,l1]) rfl ?_
         exact zdoZ (xa:=m+1) (by first | rfl | omega) HQ.o H4.o.g H4.o.c (by have:=H4.o.b;omega) (by omega) _ _ _ _
    ·have B92:(((s[m]'hlt).toNat:Int)==92)=false:=by simp;omega
     have H7:=zh h92
     clear h92
     by_cases hbad:(s[m]'hlt).toNat<32∨126<(s[m]'hlt).toNat
     ·have HB:=zh hbad
      by_cases Hk:(((s[m]'hlt).toNat:Nat):Int)<32
      ·clear hbad
       have HQ:Hid (Lx.quoted k (s.data.toList.drop (k+1)) [] 1=.bad 12 m):=(HE.o.symm.trans (by rw[HD.o,zejZ H9.o H7.o HB.o,show k+(m-k)=m from by omega]))
       go_wp2
       go_region_with (go_at_call 124;refine(zccZ _ _ _).mono ?_;rintro e w' ⟨rfl,rfl⟩)
       all_goals
        go_wp2
        refine bodyPost_ret (v:=.tuple #[.agg #[.int .i64 k,.int .i64 0,.string ⟨#[]⟩,.int .i64 0],.pointer (some ⟨w4.heap.size,0,none⟩)]) (by simp[results, Tryz.results147,go_sem,z0,z1,z2,z3,f0,f1,f2,f3,l1]) rfl ?_
        exact zdoZ (xa:=m) (by first | rfl | omega) HQ.o H3.o.g H3.o.c (by have:=H3.o.b;omega) (by omega) _ _ _ _
      ·have Hd:(126:Int)<(((s[m]'hlt).toNat:Nat):Int):=by omega
       have Hp:¬(((s[m]'hlt).toNat:Nat):Int)<32:=Hk
       clear hbad
       have HQ:Hid (Lx.quoted k (s.data.toList.drop (k+1)) [] 1=.bad 12 m):=(HE.o.symm.trans (by rw[HD.o,zejZ H9.o H7.o HB.o,show k+(m-k)=m from by omega]))
       go_wp2
       go_region_with (go_at_call 124;refine(zccZ _ _ _).mono ?_;rintro e w' ⟨rfl,rfl⟩)
       all_goals
        go_wp2
        refine bodyPost_ret (v:=.tuple #[.agg #[.int .i64 k,.int .i64 0,.string ⟨#[]⟩,.int .i64 0],.pointer (some ⟨w4.heap.size,0,none⟩)]) (by simp[results, Tryz.results147,go_sem,z0,z1,z2,z3,f0,f1,f2,f3,l1]) rfl ?_
        exact zdoZ (xa:=m) (by first | rfl | omega) HQ.o H3.o.g H3.o.c (by have:=H3.o.b;omega) (by omega) _ _ _ _
     ·have HB:=zh hbad
      have Hk:(32:Int)≤(((s[m]'hlt).toNat:Nat):Int):=by omega
      have Hd:(((s[m]'hlt).toNat:Nat):Int)≤126:=by omega
      clear hbad
      have HQ:Hid (Lx.quoted k (s.data.toList.drop (m+1)) (l++[s[m]'hlt]) (m+1-k)=Lx.quoted k (s.data.toList.drop (k+1)) [] 1):=by
       have e:=HE.o
       rw[HD.o,zffZ H9.o H7.o HB.o,show m-k+1=m+1-k from by omega]at e
       exact e
      go_wp2_with (at_builtin;refine zcgZ (w.heap.size+2) rfl (.tmp 41) (.tmp 43) rfl _ l (s[m]'hlt) rfl rfl Ha.o (by omega) (by omega) ?_;intro v1 w1 hown H1;have hW1:=(H3.o.row (World.grownBy_alloc w4 _ none) (fun g e=>nomatch e)).row H1 (fun g hg=>OwnB.base Ha.o g hg);clear c0 c1 cf1 t0 t1 t2 t3 e0 e1 e2 e3 z0 z1 z2 z3 f0 f1 f2 f3 l0 l1 lb;obtain⟨c0,c1,cf1,⟨t0,t1,t2,t3⟩,⟨e0,e1,e2,e3⟩,⟨z0,z1,z2,z3⟩,⟨f0,f1,f2,f3⟩,l0,l1,lb⟩:=hW1.facts)
      have Hf:=zh hown
      have Hb:=zh hW1
      clear hown H1 hW1
      go_wp2
      go_roundg (s.size-(m+1))
      case measure=>have:=HN.o;omega
      case rel=>exact⟨m+1,_,rfl,by omega,by omega,Hb.o.set _ _ (by omega),Hf.o.set (by omega) _ _,by simp;omega,HQ.o⟩
  ·have HM:Hid (m=s.size):=by
    have:m=s.size:=by omega
    exact this
   go_wp2
   go_quiet (fail)
   have hWq:=HW.o.drewN nq
   obtain⟨w3,hw3⟩:=zE (wr.drewN nq)
   rw[hw3]at hWq ⊢
   clear hw3
   clear c0 c1 cf1 t0 t1 t2 t3 e0 e1 e2 e3 z0 z1 z2 z3 f0 f1 f2 f3 l0 l1 lb
   obtain⟨c0,c1,cf1,⟨t0,t1,t2,t3⟩,⟨e0,e1,e2,e3⟩,⟨z0,z1,z2,z3⟩,⟨f0,f1,f2,f3⟩,l0,l1,lb⟩:=hWq.facts
   have H8:=zh hWq
   clear hWq
   have HQ:Hid (Lx.quoted k (s.data.toList.drop (k+1)) [] 1=.bad 12 m):=HE.o.symm.trans (by
    rw[List.drop_eq_nil_of_le (by rw[ziZ,HM.o];exact Nat.le_refl _),Lx.quoted,show k+(m-k)=m from by omega])
   go_wp2
   go_region_with (go_at_call 124;refine(zccZ _ _ _).mono ?_;rintro e w' ⟨rfl,rfl⟩)
   all_goals
    go_wp2
    refine bodyPost_ret (v:=.tuple #[.agg #[.int .i64 k,.int .i64 0,.string ⟨#[]⟩,.int .i64 0],.pointer (some ⟨w3.heap.size,0,none⟩)]) (by simp[results, Tryz.results147,go_sem,z0,z1,z2,z3,f0,f1,f2,f3,l1]) rfl ?_
    exact zdoZ (xa:=m) (by first | rfl | omega) HQ.o H8.o.g H8.o.c (by have:=H8.o.b;omega) (by omega) _ _ _ _
section
variable {w w':World} {b k n:Nat} {s:ByteArray} {p:Int} {r:Lx.Res} {t:Lx.Tok} {e:Ending}
theorem ResIs.ok' (hr:r=.ok t n) (h:ResIs p b s k w r e w'):e=.returned (.tuple #[.agg #[.int .i64 t.pos,.int .i64 t.kind,.string ⟨t.s.toArray⟩,.int .i64 t.n],.pointer none])∧w.grownBy w' (some b)∧Cu w' b s (k+n):=by
 subst hr;exact⟨h.2.1,h.1,h.2.2⟩
theorem ResIs.bad' {y x:Nat} (hr:r=.bad y x) (h:ResIs p b s k w r e w') :
  ∃g j,e=.returned (.tuple #[.agg #[.int .i64 p,.int .i64 0,.string ⟨#[]⟩,.int .i64 0],.pointer (some ⟨g,0,none⟩)])∧w.grownBy w' (some b)∧IsRef w' g x y∧w.heap.size≤g∧Cu w' b s j:=by
 subst hr
 obtain⟨hg,g,j,h1,h2,h3,h4⟩:=h
 exact⟨g,j,h1,hg,h2,h3,h4⟩
theorem zhvZ {wq:World} {g g2 j y x:Nat} (hr:r=.bad y x) (hg:w.grownBy wq (some b)) (hC:Cu wq b s j) (hbg:b<g) (hwg:w.heap.size≤g) (hR:IsRef wq g2 x y) (h2:g<g2) (c0 c1 c2 c3:Value) :
  ResIs p b s k w r (.returned (.tuple #[.agg #[.int .i64 p,.int .i64 0,.string ⟨#[]⟩,.int .i64 0],.pointer (some ⟨g2,0,none⟩)]))
   ((((wq.setCell ⟨g,0,none⟩ c0).setCell ⟨g,1,none⟩ c1).setCell ⟨g,2,none⟩ c2).setCell ⟨g,3,none⟩ c3):=by
 subst hr
 refine⟨zbeZ hg ((((zjZ _ _ _ _).trans (zjZ _ _ _ _)).trans (zjZ _ _ _ _)).trans (zjZ _ _ _ _)) hwg,g2,j,rfl,?_,by omega,?_⟩
 ·have H0:g2≠g:=by omega
  exact(Below.heap_setCell _ ⟨g,3,none⟩ _ g2 H0).trans ((Below.heap_setCell _ ⟨g,2,none⟩ _ g2 H0).trans ((Below.heap_setCell _ ⟨g,1,none⟩ _ g2 H0).trans ((Below.heap_setCell _ ⟨g,0,none⟩ _ g2 H0).trans hR)))
 ·exact((((hC.far (by omega) _ _).far (by omega) _ _).far (by omega) _ _).far (by omega) _ _)
end
section
variable {s:ByteArray} {k:Nat} (hk:k<s.size)
theorem zqqZ (h:Lx.letter (s[k]'hk)=true):Lx.cut k (s.data.toList.drop k)=Lx.cutName k (s.data.toList.drop k):=by
 rw[zlZ s k hk];simp[Lx.cut,h]
theorem zmwZ (h:Lx.letter (s[k]'hk)=false) (h1:Lx.digit (s[k]'hk)=true):Lx.cut k (s.data.toList.drop k)=Lx.cutNumber k (s.data.toList.drop k):=by
 rw[zlZ s k hk];simp[Lx.cut,h,h1]
theorem zqrZ (h:Lx.letter (s[k]'hk)=false) (h1:Lx.digit (s[k]'hk)=false) (h2:(s[k]'hk).toNat=34):Lx.cut k (s.data.toList.drop k)=Lx.quoted k (s.data.toList.drop (k+1)) [] 1:=by
 rw[zlZ s k hk];simp[Lx.cut,h,h1,h2]
theorem zqsZ (h:Lx.letter (s[k]'hk)=false) (h1:Lx.digit (s[k]'hk)=false) (h2:(s[k]'hk).toNat=61) (hk2:k+1<s.size) (h3:(s[k+1]'hk2).toNat=61):Lx.cut k (s.data.toList.drop k)=.ok ⟨k,6,[61,61],0⟩ 2:=by
 have e:s[k+1]'hk2=61:=(u8_eq _ 61 (by decide)).1 h3
 rw[zlZ s k hk,zlZ s (k+1) hk2];simp[Lx.cut,h,h1,h2,e]
theorem ztbZ (h:Lx.letter (s[k]'hk)=false) (h1:Lx.digit (s[k]'hk)=false) (h2:(s[k]'hk).toNat≠34) (h3:(s[k]'hk).toNat=61→∀hk2:k+1<s.size,(s[k+1]'hk2).toNat≠61):Lx.cut k (s.data.toList.drop k)=.ok ⟨k,6,[s[k]'hk],0⟩ 1:=by
 rw[zlZ s k hk]
 have e:((s[k]'hk).toNat==61&&(s.data.toList.drop (k+1)).head? ==some 61)=false:=by
  rw[Bool.and_eq_false_iff]
  by_cases hq:(s[k]'hk).toNat=61
  ·right
   by_cases hk2:k+1<s.size
   ·rw[zlZ s (k+1) hk2]
    have:=h3 hq hk2
    have e:¬s[k+1]'hk2=61:=fun he=>this (by rw[he];rfl)
    simpa using e
   ·rw[List.drop_eq_nil_of_le (by rw[ziZ];omega)]
    rfl
  ·left;simpa using hq
 show(if Lx.letter (s[k]'hk)then _ else if Lx.digit (s[k]'hk)then _ else if(s[k]'hk).toNat==34 then _ else if((s[k]'hk).toNat==61&&(s.data.toList.drop (k+1)).head? ==some 61)then _ else _)=_
 rw[e,h,h1]
 simp[h2]
end
theorem zmxZ {c:UInt8} (h:Lx.begins c=true) (h0:Lx.letter c=false) (h1:Lx.digit c=false) (h2:¬c.toNat=34):c.toNat<128:=by
 simp only[Lx.begins,h0,h1,Bool.false_or,Bool.or_eq_true,beq_iff_eq]at h
 rcases h with h | h
 ·exact absurd h h2
 ·have:=List.contains_iff_mem.1 h
  have H0:∀x∈Lx.signs,x.toNat<128:=by decide
  exact H0 _ this
theorem zjwZ (c:UInt8) (h:c.toNat<128):Utf8.encode (c.toNat:Int)=⟨#[c]⟩:=by
 have hv:Utf8.valid (c.toNat:Int)=true:=by
  simp[Utf8.valid];omega
 unfold Utf8.encode
 simp[hv,h]
theorem zjxZ (s:ByteArray) (b k:Nat) (w:World) (hc:Cu w b s k) (hk:k<s.size) (hs:s.size≤140737488351232) (hG:GS w) (hb:NG≤b) (hbeg:Lx.begins (s[k]'hk)=true) :
  Calls Tryz.prog 127 #[.pointer (some ⟨b,0,none⟩)] w
   (ResIs k b s k w (Lx.cut k (s.data.toList.drop k))):=by
 have Hq:=zh hc
 have H5:=hc.lt
 have hi:(k:Int)<(s.size:Int):=by omega
 have J3:(0:Int)≤(k:Int):=by omega
 have hCb:=hc.alloc (.cells #[.int .i64 0,.int .i64 0,.string ⟨#[]⟩,.int .i64 0] 133)
 have c0:=hCb.c0
 have c1:=hCb.c1
 have cf1:=hCb.f1
 clear hc hCb
 have k1:(k:Int)≤140737488351232:=by omega
 go_enter Tryz.func127, Tryz.ntmps127
 go_wp2
 go_quiet (fail)
 obtain⟨w3,hw3⟩:=zE ((w.alloc (.cells #[.int .i64 0,.int .i64 0,.string ⟨#[]⟩,.int .i64 0] 133)).drewN nq)
 have Hl:w3.heap[w.heap.size]? =some (.cells #[.int .i64 0,.int .i64 0,.string ⟨#[]⟩,.int .i64 0] 133 (0,0)):=by rw[←hw3];exact heap_alloc_new w _
 have Ho:w.grownBy w3 (some b):=by rw[←hw3];exact(World.grownBy_alloc _ _ _).trans (zkZ _ _ _)
 have hC3:Cu w3 b s k:=by rw[←hw3];exact(Hq.o.alloc _).drewN _
 have Hv:w3.heap.size=w.heap.size+1:=by rw[←hw3];simp
 rw[hw3]
 clear c0 c1 cf1 hw3
 have c0:=hC3.c0
 have c1:=hC3.c1
 have cf1:=hC3.f1
 go_upto_region 3 with fail
 clear c0 c1 cf1
 have He:w.grownBy (w3.alloc (.cells #[.int .i64 k,.int .i64 0,.string ⟨#[]⟩,.int .i64 0] 133)) (some b):=Ho.trans (World.grownBy_alloc _ _ _)
 have hC4:=hC3.alloc (.cells #[.int .i64 k,.int .i64 0,.string ⟨#[]⟩,.int .i64 0] 133)
 have Hj:=heap_alloc Hl (.cells #[.int .i64 k,.int .i64 0,.string ⟨#[]⟩,.int .i64 0] 133)
 have H9:=heap_alloc_new w3 (.cells #[.int .i64 k,.int .i64 0,.string ⟨#[]⟩,.int .i64 0] 133)
 have Ht:w.heap.size+2≤(w3.alloc (.cells #[.int .i64 k,.int .i64 0,.string ⟨#[]⟩,.int .i64 0] 133)).heap.size:=by simp;omega
 obtain⟨w4,hw4⟩:=zE (w3.alloc (.cells #[.int .i64 k,.int .i64 0,.string ⟨#[]⟩,.int .i64 0] 133))
 rw[hw4]at He hC4 Hj H9 Ht ⊢
 rw[Hv]at H9
 have Ha:w.heap.size<w4.heap.size:=by omega
 have Hw:w.heap.size+1<w4.heap.size:=by omega
 have Hz:b<w4.heap.size:=by omega
 have H8:=zh He
 have H6:=zh hC4
 have H7:=zh Hj
 have hG4:GS w4:=hG.grown He hb
 clear hw4 Hl Ho hC3
 obtain⟨t0,t1,t2,t3⟩:=zhZ H9
 obtain⟨tf0,tf1,tf2,tf3⟩:=zrZ H9
 have Hs:=zh H9
 clear He hC4 Hj H9
 by_cases hL:Lx.letter (s[k]'hk)=true
 ·
  have HX:=zh (zqqZ hk hL)
  cases hr:Lx.cutName k (s.data.toList.drop k)with
  | ok t n=>
   have HR:=zh hr
   clear hr
   go_wp2_with (first | (go_at_call 142;refine(zbmZ _ _).mono ?_;rintro e w' ⟨rfl,rfl⟩) | (go_at_call 145;refine(zmcZ s b k w4 H6.o hk hs hG4 hb hL).mono ?_;intro e w5 H0;obtain⟨rfl,H1,hC5⟩:=ResIs.ok' HR.o H0;clear H0;have H2:=(H1.block _ Ha (by simp;omega)).trans H7.o;obtain⟨z0,z1,z2,z3⟩:=zhZ H2;obtain⟨zf0,zf1,zf2,zf3⟩:=zrZ H2))
   refine bodyPost_ret (v:=.tuple #[.agg #[.int .i64 t.pos,.int .i64 t.kind,.string ⟨t.s.toArray⟩,.int .i64 t.n],.pointer none]) (by simp[results, Tryz.results127,go_sem,z0,z1,z2,z3,zf0,zf1,zf2,zf3]) rfl ?_
   exact resOk (wq:=w5) (g:=w.heap.size) (m:=k+n) (t:=t) (n:=n) (p:=(k:Int)) (a0:=t.pos) (a1:=t.kind) (a2:=⟨t.s.toArray⟩) (a3:=t.n) (HX.o.trans HR.o) rfl rfl rfl (by rfl) rfl (H8.o.trans H1) hC5 H5 (Nat.le_refl _) _ _ _ _
  | bad y x=>
   have HR:=zh hr
   clear hr
   go_wp2_with (first | (go_at_call 142;refine(zbmZ _ _).mono ?_;rintro e w' ⟨rfl,rfl⟩) | (go_at_call 145;refine(zmcZ s b k w4 H6.o hk hs hG4 hb hL).mono ?_;intro e w5 H0;obtain⟨g,j,rfl,H1,hR5,hgl,hC5⟩:=ResIs.bad' HR.o H0;clear H0;have H2:=(H1.block _ Ha (by simp;omega)).trans H7.o;obtain⟨z0,z1,z2,z3⟩:=zhZ H2;obtain⟨zf0,zf1,zf2,zf3⟩:=zrZ H2))
   refine bodyPost_ret (v:=.tuple #[.agg #[.int .i64 k,.int .i64 0,.string ⟨#[]⟩,.int .i64 0],.pointer (some ⟨g,0,none⟩)]) (by simp[results, Tryz.results127,go_sem,z0,z1,z2,z3,zf0,zf1,zf2,zf3]) rfl ?_
   exact zhvZ (wq:=w5) (g:=w.heap.size) (g2:=g) (j:=j) (y:=y) (x:=x) (p:=(k:Int)) (HX.o.trans HR.o) (H8.o.trans H1) hC5 H5 (Nat.le_refl _) hR5 (by omega) _ _ _ _
 ·have hL0:Lx.letter (s[k]'hk)=false:=by simpa using hL
  clear hL
  by_cases hD:Lx.digit (s[k]'hk)=true
  ·
   have HX:=zh (zmwZ hk hL0 hD)
   cases hr:Lx.cutNumber k (s.data.toList.drop k)with
   | ok t n=>
    have HR:=zh hr
    clear hr
    go_wp2_with (first | (go_at_call 142;refine(zbmZ _ _).mono ?_;rintro e w' ⟨rfl,rfl⟩) | (go_at_call 143;refine(zbxZ _ _).mono ?_;rintro e w' ⟨rfl,rfl⟩) | (go_at_call 146;refine(zihZ s b k w4 H6.o hk hs hG4 hb hD).mono ?_;intro e w5 H0;obtain⟨rfl,H1,hC5⟩:=ResIs.ok' HR.o H0;clear H0;have H2:=(H1.block _ Ha (by simp;omega)).trans H7.o;obtain⟨z0,z1,z2,z3⟩:=zhZ H2;obtain⟨zf0,zf1,zf2,zf3⟩:=zrZ H2))
    refine bodyPost_ret (v:=.tuple #[.agg #[.int .i64 t.pos,.int .i64 t.kind,.string ⟨t.s.toArray⟩,.int .i64 t.n],.pointer none]) (by simp[results, Tryz.results127,go_sem,z0,z1,z2,z3,zf0,zf1,zf2,zf3]) rfl ?_
    exact resOk (wq:=w5) (g:=w.heap.size) (m:=k+n) (t:=t) (n:=n) (p:=(k:Int)) (a0:=t.pos) (a1:=t.kind) (a2:=⟨t.s.toArray⟩) (a3:=t.n) (HX.o.trans HR.o) rfl rfl rfl (by rfl) rfl (H8.o.trans H1) hC5 H5 (Nat.le_refl _) _ _ _ _
   | bad y x=>
    have HR:=zh hr
    clear hr
    go_wp2_with (first | (go_at_call 142;refine(zbmZ _ _).mono ?_;rintro e w' ⟨rfl,rfl⟩) | (go_at_call 143;refine(zbxZ _ _).mono ?_;rintro e w' ⟨rfl,rfl⟩) | (go_at_call 146;refine(zihZ s b k w4 H6.o hk hs hG4 hb hD).mono ?_;intro e w5 H0;obtain⟨g,j,rfl,H1,hR5,hgl,hC5⟩:=ResIs.bad' HR.o H0;clear H0;have H2:=(H1.block _ Ha (by simp;omega)).trans H7.o;obtain⟨z0,z1,z2,z3⟩:=zhZ H2;obtain⟨zf0,zf1,zf2,zf3⟩:=zrZ H2))
    refine bodyPost_ret (v:=.tuple #[.agg #[.int .i64 k,.int .i64 0,.string ⟨#[]⟩,.int .i64 0],.pointer (some ⟨g,0,none⟩)]) (by simp[results, Tryz.results127,go_sem,z0,z1,z2,z3,zf0,zf1,zf2,zf3]) rfl ?_
    exact zhvZ (wq:=w5) (g:=w.heap.size) (g2:=g) (j:=j) (y:=y) (x:=x) (p:=(k:Int)) (HX.o.trans HR.o) (H8.o.trans H1) hC5 H5 (Nat.le_refl _) hR5 (by omega) _ _ _ _
  ·have hD0:Lx.digit (s[k]'hk)=false:=by simpa using hD
   clear hD
   by_cases h34:(s[k]'hk).toNat=34
   ·have B34:(((s[k]'hk).toNat:Int)==34)=true:=by simp;omega
    have Hk:=zh h34
    clear h34
    have HX:=zh (zqrZ hk hL0 hD0 Hk.o)
    cases hr:Lx.quoted k (s.data.toList.drop (k+1)) [] 1 with
    | ok t n=>
     have HR:=zh hr
     clear hr
     go_wp2_with (first | (go_at_call 142;refine(zbmZ _ _).mono ?_;rintro e w' ⟨rfl,rfl⟩) | (go_at_call 143;refine(zbxZ _ _).mono ?_;rintro e w' ⟨rfl,rfl⟩) | (go_at_call 147;refine(zmdZ s b k w4 H6.o hk hs hG4 hb).mono ?_;intro e w5 H0;obtain⟨rfl,H1,hC5⟩:=ResIs.ok' HR.o H0;clear H0;have H2:=(H1.block _ Ha (by simp;omega)).trans H7.o;obtain⟨z0,z1,z2,z3⟩:=zhZ H2;obtain⟨zf0,zf1,zf2,zf3⟩:=zrZ H2))
     refine bodyPost_ret (v:=.tuple #[.agg #[.int .i64 t.pos,.int .i64 t.kind,.string ⟨t.s.toArray⟩,.int .i64 t.n],.pointer none]) (by simp[results, Tryz.results127,go_sem,z0,z1,z2,z3,zf0,zf1,zf2,zf3]) rfl ?_
     exact resOk (wq:=w5) (g:=w.heap.size) (m:=k+n) (t:=t) (n:=n) (p:=(k:Int)) (a0:=t.pos) (a1:=t.kind) (a2:=⟨t.s.toArray⟩) (a3:=t.n) (HX.o.trans HR.o) rfl rfl rfl (by rfl) rfl (H8.o.trans H1) hC5 H5 (Nat.le_refl _) _ _ _ _
    | bad y x=>
     have HR:=zh hr
     clear hr
     go_wp2_with (first | (go_at_call 142;refine(zbmZ _ _).mono ?_;rintro e w' ⟨rfl,rfl⟩) | (go_at_call 143;refine(zbxZ _ _).mono ?_;rintro e w' ⟨rfl,rfl⟩) | (go_at_call 147;refine(zmdZ s b k w4 H6.o hk hs hG4 hb).mono ?_;intro e w5 H0;obtain⟨g,j,rfl,H1,hR5,hgl,hC5⟩:=ResIs.bad' HR.o H0;clear H0;have H2:=(H1.block _ Ha (by simp;omega)).trans H7.o;obtain⟨z0,z1,z2,z3⟩:=zhZ H2;obtain⟨zf0,zf1,zf2,zf3⟩:=zrZ H2))
     refine bodyPost_ret (v:=.tuple #[.agg #[.int .i64 k,.int .i64 0,.string ⟨#[]⟩,.int .i64 0],.pointer (some ⟨g,0,none⟩)]) (by simp[results, Tryz.results127,go_sem,z0,z1,z2,z3,zf0,zf1,zf2,zf3]) rfl ?_
     exact zhvZ (wq:=w5) (g:=w.heap.size) (g2:=g) (j:=j) (y:=y) (x:=x) (p:=(k:Int)) (HX.o.trans HR.o) (H8.o.trans H1) hC5 H5 (Nat.le_refl _) hR5 (by omega) _ _ _ _
   ·have B34:(((s[k]'hk).toNat:Int)==34)=false:=by simp;omega
    have Hg:=zmxZ hbeg hL0 hD0 h34
    have HE:=zh (zjwZ _ Hg)
    have hu:((s[k]'hk).toNat:Int)<256:=by omega
    go_upto_region 9 with(first | (go_at_call 142;refine(zbmZ _ _).mono ?_;rintro e w' ⟨rfl,rfl⟩) | (go_at_call 143;refine(zbxZ _ _).mono ?_;rintro e w' ⟨rfl,rfl⟩))
    go_upto_region 10 with fail
    rw[HE.o]
    have H1:w.grownBy ((w4.setCell ⟨w.heap.size+1,1,none⟩ (.int .i64 6)).setCell ⟨w.heap.size+1,2,none⟩ (.string ⟨#[s[k]'hk]⟩)) (some b):=zbeZ H8.o ((zjZ _ _ _ _).trans (zjZ _ _ _ _)) (by omega)
    have hC5:Cu ((w4.setCell ⟨w.heap.size+1,1,none⟩ (.int .i64 6)).setCell ⟨w.heap.size+1,2,none⟩ (.string ⟨#[s[k]'hk]⟩)) b s k:=(H6.o.far (by omega) _ _).far (by omega) _ _
    have H2:((w4.setCell ⟨w.heap.size+1,1,none⟩ (.int .i64 6)).setCell ⟨w.heap.size+1,2,none⟩ (.string ⟨#[s[k]'hk]⟩)).heap[w.heap.size]? =_:=(Below.heap_setCell _ ⟨w.heap.size+1,2,none⟩ _ _ (by simp)).trans ((Below.heap_setCell _ ⟨w.heap.size+1,1,none⟩ _ _ (by simp)).trans H7.o)
    have Hh:((w4.setCell ⟨w.heap.size+1,1,none⟩ (.int .i64 6)).setCell ⟨w.heap.size+1,2,none⟩ (.string ⟨#[s[k]'hk]⟩)).heap[w.heap.size+1]? =some (.cells #[.int .i64 k,.int .i64 6,.string ⟨#[s[k]'hk]⟩,.int .i64 0] 133 (0,0)):=by
     simp[World.setCell,Array.getElem?_modify,Hs.o]
    obtain⟨w5,hw5⟩:=zE ((w4.setCell ⟨w.heap.size+1,1,none⟩ (.int .i64 6)).setCell ⟨w.heap.size+1,2,none⟩ (.string ⟨#[s[k]'hk]⟩))
    rw[hw5]at H1 hC5 H2 Hh ⊢
    clear hw5 t0 t1 t2 t3 tf0 tf1 tf2 tf3
    have c1:=hC5.c1
    have cf1:=hC5.f1
    go_upto_region 11 with fail
    have Hf:w.grownBy (w5.setCell ⟨b,1,none⟩ (.int .i64 (k+1))) (some b):=H1.trans (zjZ _ _ _ _)
    have hC6:=hC5.set (k+1) (k+1) (by omega)
    have Hb:=(Below.heap_setCell w5 ⟨b,1,none⟩ (.int .i64 (k+1)) w.heap.size (by simp;omega)).trans H2
    have Hc:=(Below.heap_setCell w5 ⟨b,1,none⟩ (.int .i64 (k+1)) (w.heap.size+1) (by simp;omega)).trans Hh
    obtain⟨w6,hw6⟩:=zE (w5.setCell ⟨b,1,none⟩ (.int .i64 (k+1)))
    rw[hw6]at Hf hC6 Hb Hc ⊢
    clear hw6 c1 cf1 H1 hC5 H2 Hh
    have c0:=hC6.c0
    have c1:=hC6.c1
    have cf1:=hC6.f1
    have Hn:=zh Hf
    have Hm:=zh hC6
    have J2:=zh Hb
    have J1:=zh Hc
    obtain⟨t0,t1,t2,t3⟩:=zhZ Hc
    obtain⟨tf0,tf1,tf2,tf3⟩:=zrZ Hc
    obtain⟨z0,z1,z2,z3⟩:=zhZ Hb
    obtain⟨zf0,zf1,zf2,zf3⟩:=zrZ Hb
    clear Hf hC6 Hb Hc
    have Hk:=zh h34
    clear h34
    have H3:∀(nq:Nat),(((s[k]'hk).toNat:Int)==61)=false∨¬k+1<s.size∨(∃H4:k+1<s.size,(((s[k+1]'H4).toNat:Int)==61)=false)→
      ResIs k b s k w (Lx.cut k (s.data.toList.drop k)) (.returned (.tuple #[.agg #[.int .i64 k,.int .i64 6,.string ⟨#[s[k]'hk]⟩,.int .i64 0],.pointer none]))
       (((((w6.drewN nq).setCell ⟨w.heap.size,0,none⟩ (.int .i64 k)).setCell ⟨w.heap.size,1,none⟩ (.int .i64 6)).setCell ⟨w.heap.size,2,none⟩ (.string ⟨#[s[k]'hk]⟩)).setCell ⟨w.heap.size,3,none⟩ (.int .i64 0)):=by
     intro nq J0
     refine resOk (wq:=w6.drewN nq) (g:=w.heap.size) (m:=k+1) (t:=⟨k,6,[s[k]'hk],0⟩) (n:=1) (p:=(k:Int)) (a0:=k) (a1:=6) (a2:=⟨#[s[k]'hk]⟩) (a3:=0)
      (ztbZ hk hL0 hD0 Hk.o ?_) rfl rfl rfl (by rfl) rfl (Hn.o.trans (zkZ _ _ _)) (Hm.o.drewN _) H5 (Nat.le_refl _) _ _ _ _
     intro Hd H4 h2
     rcases J0 with h | h | ⟨_,h⟩
     ·rw[Hd]at h;exact absurd h (by decide)
     ·exact h H4
     ·rw[h2]at h;exact absurd h (by decide)
    by_cases Hd:(s[k]'hk).toNat=61
    ·have B61:(((s[k]'hk).toNat:Int)==61)=true:=by simp;omega
     have Hu:=zh Hd
     clear Hd
     by_cases H4:k+1<s.size
     ·have Hx:(k:Int)+1<(s.size:Int):=by omega
      have Hy:(0:Int)≤(k:Int)+1:=by omega
      by_cases hn61:(s[k+1]'H4).toNat=61
      ·have N61:(((s[k+1]'H4).toNat:Int)==61)=true:=by simp;omega
       have Hi:=zh hn61
       clear hn61
       go_quiet (fail)
       go_wp2
       clear H3
       refine bodyPost_ret (v:=.tuple #[.agg #[.int .i64 k,.int .i64 6,.string ⟨#[61,61]⟩,.int .i64 0],.pointer none]) (by simp[results, Tryz.results127,go_sem,z0,z1,z2,z3,zf0,zf1,zf2,zf3]) rfl ?_
       have Hr:w.grownBy ((w6.drewN nq).setCell ⟨w.heap.size+1,2,none⟩ (.string ⟨#[61,61]⟩)) (some b):=zbeZ Hn.o ((zkZ w6 nq (some (w.heap.size+1))).trans (zjZ _ _ _ _)) (by omega)
       have Hp:w.grownBy (((w6.drewN nq).setCell ⟨w.heap.size+1,2,none⟩ (.string ⟨#[61,61]⟩)).setCell ⟨b,1,none⟩ (.int .i64 ((k:Int)+1+1))) (some b):=Hr.trans (zjZ _ _ _ _)
       have hC8:Cu (((w6.drewN nq).setCell ⟨w.heap.size+1,2,none⟩ (.string ⟨#[61,61]⟩)).setCell ⟨b,1,none⟩ (.int .i64 ((k:Int)+1+1))) b s (k+2):=((Hm.o.drewN nq).far (by omega) _ _).set _ _ (by omega)
       generalize ((w6.drewN nq).setCell ⟨w.heap.size+1,2,none⟩ (.string ⟨#[61,61]⟩)).setCell ⟨b,1,none⟩ (.int .i64 ((k:Int)+1+1))=w8 at Hp hC8 ⊢
       exact resOk (wq:=w8) (g:=w.heap.size) (m:=k+2) (t:=⟨k,6,[61,61],0⟩) (n:=2) (p:=(k:Int)) (a0:=k) (a1:=6) (a2:=⟨#[61,61]⟩) (a3:=0)
        (zqsZ hk hL0 hD0 Hu.o H4 Hi.o) rfl rfl rfl (by rfl) rfl Hp hC8 H5 (Nat.le_refl _) _ _ _ _
      ·have N61:(((s[k+1]'H4).toNat:Int)==61)=false:=by simp;omega
       clear hn61
       go_quiet (fail)
       have hE:=H3 nq (.inr (.inr ⟨H4,N61⟩))
       clear H3
       go_wp2
       refine bodyPost_ret (v:=.tuple #[.agg #[.int .i64 k,.int .i64 6,.string ⟨#[s[k]'hk]⟩,.int .i64 0],.pointer none]) (by simp[results, Tryz.results127,go_sem,z0,z1,z2,z3,zf0,zf1,zf2,zf3]) rfl ?_
       exact hE
     ·have Hx:¬(k:Int)+1<(s.size:Int):=by omega
      go_quiet (fail)
      have hE:=H3 nq (.inr (.inl H4))
      clear H3
      go_wp2
      refine bodyPost_ret (v:=.tuple #[.agg #[.int .i64 k,.int .i64 6,.string ⟨#[s[k]'hk]⟩,.int .i64 0],.pointer none]) (by simp[results, Tryz.results127,go_sem,z0,z1,z2,z3,zf0,zf1,zf2,zf3]) rfl ?_
      exact hE
    ·have B61:(((s[k]'hk).toNat:Int)==61)=false:=by simp;omega
     clear Hd
     go_quiet (fail)
     have hE:=H3 nq (.inl B61)
     clear H3
     go_wp2
     refine bodyPost_ret (v:=.tuple #[.agg #[.int .i64 k,.int .i64 6,.string ⟨#[s[k]'hk]⟩,.int .i64 0],.pointer none]) (by simp[results, Tryz.results127,go_sem,z0,z1,z2,z3,zf0,zf1,zf2,zf3]) rfl ?_
     exact hE
namespace Lx
theorem skip_suffix:∀(m:Bool) (l:Bytes),∃j,j≤l.length∧skip m l=l.drop j
 | _,[]=>⟨0,Nat.le_refl _,by simp[skip_end]⟩
 | false,c::t=>by
  unfold skip
  split
  ·obtain⟨j,hj,e⟩:=skip_suffix false t;exact⟨j+1,by simp;omega,by simpa using e⟩
  ·split
   ·obtain⟨j,hj,e⟩:=skip_suffix true t;exact⟨j+1,by simp;omega,by simpa using e⟩
   ·exact⟨0,Nat.zero_le _,rfl⟩
 | true,c::t=>by
  unfold skip
  split
  ·obtain⟨j,hj,e⟩:=skip_suffix false t;exact⟨j+1,by simp;omega,by simpa using e⟩
  ·obtain⟨j,hj,e⟩:=skip_suffix true t;exact⟨j+1,by simp;omega,by simpa using e⟩
theorem zdiZ (p:Nat) (t:Tok) (n:Nat):∀(m:Nat) (l acc:Bytes) (k:Nat),l.length≤m→quoted p l acc k=.ok t n→k<n∧n≤k+l.length
 | m,[],acc,k,hm,h=>by simp[quoted]at h
 | m+1,c::t',acc,k,hm,h=>by
  have H1:t'.length≤m:=by simpa using hm
  by_cases e34:c=34
  ·subst e34;simp[quoted]at h;have:=h.2;simp;omega
  ·by_cases e92:c=92
   ·subst e92
    cases t' with
    | nil=>simp[quoted]at h
    | cons d t''=>
     have H0:t''.length≤m:=by simp at H1;omega
     have h':(if d.toNat==110 then quoted p t'' (acc++[10]) (k+2)else if d.toNat==34||d.toNat==92 then quoted p t'' (acc++[d]) (k+2)else .bad 12 (p+k+1))=.ok t n:=h
     split at h'
     ·have:=zdiZ p t n m t'' _ _ H0 h';simp;omega
     ·split at h'
      ·have:=zdiZ p t n m t'' _ _ H0 h';simp;omega
      ·cases h'
   ·have h':(if c.toNat<32||126<c.toNat then Res.bad 12 (p+k)else quoted p t' (acc++[c]) (k+1))=.ok t n:=by
     rw[quoted.eq_def]at h
     split at h
     ·cases ‹_::_=[]›
     ·rename_i h1;injection h1 with h1 h2;exact absurd h1 e34
     ·rename_i h1;injection h1 with h1 h2;exact absurd h1 e92
     ·rename_i h1;injection h1 with h1 h2;exact absurd h1 e92
     ·rename_i h1;injection h1 with h1 h2;subst h1;subst h2;exact h
    split at h'
    ·cases h'
    ·have:=zdiZ p t n m t' _ _ H1 h';simp;omega
 | 0,c::t',acc,k,hm,h=>by simp at hm
theorem zewZ {l:Bytes} (f:UInt8→Bool):(l.takeWhile f).length≤l.length:=(List.takeWhile_sublist f).length_le
theorem cut_len {p:Nat} {l:Bytes} {t:Tok} {n:Nat} (h:cut p l=.ok t n):0<n∧n≤l.length:=by
 cases l with
 | nil=>simp[cut]at h
 | cons b l=>
  simp only[cut]at h
  split at h
  ·rename_i hb
   unfold cutName at h
   simp only at h
   split at h
   ·cases h
   ·injection h with h1 h2
    subst h2
    refine⟨?_,zewZ _⟩
    rw[List.takeWhile_cons,if_pos (by simp[within,hb])]
    simp
  ·split at h
   ·rename_i hb
    unfold cutNumber at h
    simp only at h
    split at h
    ·cases h
    ·injection h with h1 h2
     subst h2
     refine⟨?_,zewZ _⟩
     rw[List.takeWhile_cons,if_pos hb]
     simp
   ·split at h
    ·have:=zdiZ p t n _ l [] 1 (Nat.le_refl _) h
     simp;omega
    ·split at h
     ·rename_i h2
      injection h with h1 h2'
      subst h2'
      simp at h2
      cases l with
      | nil=>simp at h2
      | cons d l=>simp
     ·injection h with h1 h2
      subst h2
      simp
end Lx
section
variable {s:ByteArray} {m i f:Nat}
theorem zdmZ (s:ByteArray) (m:Nat) (hm:m≤s.size):m≤skipAt s m∧skipAt s m≤s.size∧Lx.skip false (s.data.toList.drop m)=s.data.toList.drop (skipAt s m):=by
 obtain⟨j,hj,e⟩:=Lx.skip_suffix false (s.data.toList.drop m)
 have hl:(s.data.toList.drop m).length=s.size-m:=by rw[List.length_drop,ziZ]
 have h1:skipAt s m=m+j:=by
  unfold skipAt
  rw[e,List.length_drop,hl]
  omega
 rw[h1,e,List.drop_drop]
 exact⟨by omega,by omega,rfl⟩
theorem zqtZ (hm:m≤s.size):m+((s.data.toList.drop m).length-(Lx.skip false (s.data.toList.drop m)).length)=skipAt s m:=by
 have h:=zdmZ s m hm
 rw[h.2.2,List.length_drop,List.length_drop,ziZ]
 omega
theorem zuzZ (hm:m≤s.size) (hq:skipAt s m=s.size):Lx.go (f+1) m i (s.data.toList.drop m)=([],none):=by
 have h:=zdmZ s m hm
 simp only[Lx.go]
 rw[h.2.2,hq,List.drop_eq_nil_of_le (by rw[ziZ];exact Nat.le_refl _)]
theorem go_at (hm:m≤s.size) (hq:skipAt s m<s.size):Lx.go (f+1) m i (s.data.toList.drop m)=
  if !Lx.begins (s[skipAt s m]'hq)then([],some (10,skipAt s m))
   else if i==4096 then([],some (3,skipAt s m))
   else match Lx.cut (skipAt s m) (s.data.toList.drop (skipAt s m))with
    | .bad why x=>([],some (why,x))
    | .ok t n=>((t::(Lx.go f (skipAt s m+n) (i+1) (s.data.toList.drop (skipAt s m+n))).1),(Lx.go f (skipAt s m+n) (i+1) (s.data.toList.drop (skipAt s m+n))).2):=by
 have h:=zdmZ s m hm
 simp only[Lx.go,zqtZ hm]
 rw[h.2.2]
 have e:∀(n:Nat),List.drop n (List.drop (skipAt s m) s.data.toList)=List.drop (skipAt s m+n) s.data.toList:=fun n=>by rw[List.drop_drop]
 rw[zlZ s _ hq]
 simp only
 rw[←zlZ s _ hq]
 simp only[e]
 rfl
theorem ztcZ (hm:m≤s.size) (hq:skipAt s m<s.size) (hb:Lx.begins (s[skipAt s m]'hq)=false):Lx.go (f+1) m i (s.data.toList.drop m)=([],some (10,skipAt s m)):=by
 rw[go_at hm hq,hb];rfl
theorem ztdZ (hm:m≤s.size) (hq:skipAt s m<s.size) (hb:Lx.begins (s[skipAt s m]'hq)=true) (hi:i=4096):Lx.go (f+1) m i (s.data.toList.drop m)=([],some (3,skipAt s m)):=by
 rw[go_at hm hq,hb,hi];rfl
theorem zvaZ {y x:Nat} (hm:m≤s.size) (hq:skipAt s m<s.size) (hb:Lx.begins (s[skipAt s m]'hq)=true) (hi:i≠4096) (h:Lx.cut (skipAt s m) (s.data.toList.drop (skipAt s m))=.bad y x) :
  Lx.go (f+1) m i (s.data.toList.drop m)=([],some (y,x)):=by
 rw[go_at hm hq,hb,h,if_neg (by simp),if_neg (by simpa using hi)]
theorem go_ok {t:Lx.Tok} {n:Nat} (hm:m≤s.size) (hq:skipAt s m<s.size) (hb:Lx.begins (s[skipAt s m]'hq)=true) (hi:i≠4096) (h:Lx.cut (skipAt s m) (s.data.toList.drop (skipAt s m))=.ok t n) :
  Lx.go (f+1) m i (s.data.toList.drop m)=(t::(Lx.go f (skipAt s m+n) (i+1) (s.data.toList.drop (skipAt s m+n))).1,(Lx.go f (skipAt s m+n) (i+1) (s.data.toList.drop (skipAt s m+n))).2):=by
 rw[go_at hm hq,hb,h,if_neg (by simp),if_neg (by simpa using hi)]
theorem zjyZ {q:Nat} {t:Lx.Tok} {n:Nat} (hq:q<s.size) (h:Lx.cut q (s.data.toList.drop q)=.ok t n):0<n∧q+n≤s.size:=by
 have:=Lx.cut_len h
 rw[List.length_drop,ziZ]at this
 omega
end
end Go.Proofs.YtdncljdfmdgdaaaGreatDoor
