/-
  The walk of (*cutter).name.
-/
import Derived.Test.YtdncljdfmdgdaaaGreatDoorM1
import Derived.Test.YtdncljdfmdgdaaaGreatDoorM2
import Derived.Test.YtdncljdfmdgdaaaGreatDoorM3
import Derived.BigRegion
import Derived.Deep.DeepCutAuto
import Derived.Deep.CutBlock
import Derived.Deep.RegionHeld3
import Derived.Lib.AtoiErrMem
set_option linter.unusedSimpArgs false
set_option linter.unusedVariables false
set_option maxRecDepth 100000
set_option maxHeartbeats 4000000
namespace Go.Proofs.YtdncljdfmdgdaaaGreatDoor
open Go.RowKit
def tokV (t:Lx.Tok):Value:=.agg #[.int .i64 t.pos,.int .i64 t.kind,.string ⟨t.s.toArray⟩,.int .i64 t.n]
def ResIs (p:Int) (b:Nat) (s:ByteArray) (k:Nat) (w:World) (r:Lx.Res) (e:Ending) (w':World):Prop:=
 w.grownBy w' (some b)∧
 match r with
 | .ok t n=>e=.returned (.tuple #[tokV t,.pointer none])∧Cu w' b s (k+n)
 | .bad y x=>∃g j,e=.returned (.tuple #[tokV ⟨p,0,[],0⟩,.pointer (some ⟨g,0,none⟩)])∧IsRef w' g x y∧w.heap.size≤g∧Cu w' b s j
theorem zdoZ {w wq:World} {b k m g:Nat} {s:ByteArray} {p x:Int} {y:Nat} {r:Lx.Res} {xa:Nat} (hx:x=(xa:Int)) (hr:r=.bad y xa) (hg:w.grownBy wq (some b)) (hC:Cu wq b s m) (hbg:b<g) (hwg:w.heap.size≤g) (c0 c1 c2 c3:Value) :
  ResIs p b s k w r (.returned (.tuple #[.agg #[.int .i64 p,.int .i64 0,.string ⟨#[]⟩,.int .i64 0],.pointer (some ⟨wq.heap.size,0,none⟩)]))
   (((((wq.setCell ⟨g,0,none⟩ c0).setCell ⟨g,1,none⟩ c1).setCell ⟨g,2,none⟩ c2).setCell ⟨g,3,none⟩ c3).alloc (.cells #[.int .i64 x,.int .i64 y] 183)).drew:=by
 subst hr
 refine⟨?_,wq.heap.size,m,rfl,?_,hg.size,?_⟩
 ·exact zbeZ hg ((((((zjZ _ _ _ _).trans (zjZ _ _ _ _)).trans (zjZ _ _ _ _)).trans (zjZ _ _ _ _)).trans (World.grownBy_alloc _ _ _)).trans (zkZ _ 1 _)) hwg
 ·have h:=heap_alloc_new ((((wq.setCell ⟨g,0,none⟩ c0).setCell ⟨g,1,none⟩ c1).setCell ⟨g,2,none⟩ c2).setCell ⟨g,3,none⟩ c3) (.cells #[.int .i64 x,.int .i64 y] 183)
  have e:((((wq.setCell ⟨g,0,none⟩ c0).setCell ⟨g,1,none⟩ c1).setCell ⟨g,2,none⟩ c2).setCell ⟨g,3,none⟩ c3).heap.size=wq.heap.size:=by simp[World.setCell]
  rw[e]at h
  subst hx
  exact h
 ·exact((((hC.far (by omega) _ _).far (by omega) _ _).far (by omega) _ _).far (by omega) _ _).alloc _
theorem zgaZ {s:ByteArray} {k m:Nat} (hm:m=k+32) (hlt:m<s.size) (hw:Lx.within (s[m]'hlt)=true)
  (he:(s.data.toList.drop k).takeWhile Lx.within=(s.data.toList.drop k).take (m-k)++(s.data.toList.drop m).takeWhile Lx.within) :
  Lx.cutName k (s.data.toList.drop k)=.bad 2 (k+32):=by
 unfold Lx.cutName
 have hl:32<((s.data.toList.drop k).takeWhile Lx.within).length:=by
  rw[he,zlZ s m hlt,List.takeWhile_cons,if_pos hw]
  simp
  omega
 simp[hl]
theorem zeiZ {s:ByteArray} {k m:Nat} (hkm:k≤m) (hm:m≤s.size) (hm32:m≤k+32) (he:(s.data.toList.drop k).takeWhile Lx.within=(s.data.toList.drop k).take (m-k)) :
  Lx.cutName k (s.data.toList.drop k)=.ok ⟨k,Lx.nameKind ((s.data.toList.drop k).take (m-k)),(s.data.toList.drop k).take (m-k),0⟩ (m-k):=by
 unfold Lx.cutName
 have hl:((s.data.toList.drop k).take (m-k)).length=m-k:=by
  rw[List.length_take,List.length_drop,ziZ]
  omega
 rw[he]
 simp only[hl]
 rw[if_neg (by omega)]
theorem resOk {w wq:World} {b k m g:Nat} {s:ByteArray} {p a0 a1 a3:Int} {a2:ByteArray} {r:Lx.Res} {t:Lx.Tok} {n:Nat} (hr:r=.ok t n) (hm:m=k+n) (h0:a0=t.pos) (h1:a1=t.kind) (h2:a2.data.toList=t.s) (h3:a3=t.n)
  (hg:w.grownBy wq (some b)) (hC:Cu wq b s m) (hbg:b<g) (hwg:w.heap.size≤g) (c0 c1 c2 c3:Value) :
  ResIs p b s k w r (.returned (.tuple #[.agg #[.int .i64 a0,.int .i64 a1,.string a2,.int .i64 a3],.pointer none]))
   ((((wq.setCell ⟨g,0,none⟩ c0).setCell ⟨g,1,none⟩ c1).setCell ⟨g,2,none⟩ c2).setCell ⟨g,3,none⟩ c3):=by
 subst hr
 refine⟨?_,?_,?_⟩
 ·exact zbeZ hg ((((zjZ _ _ _ _).trans (zjZ _ _ _ _)).trans (zjZ _ _ _ _)).trans (zjZ _ _ _ _)) hwg
 ·subst h0 h1 h3
  have e:a2=⟨t.s.toArray⟩:=by
   rw[←h2]
  rw[e]
  rfl
 ·subst hm
  exact((((hC.far (by omega) _ _).far (by omega) _ _).far (by omega) _ _).far (by omega) _ _)
theorem zbpZ (s:ByteArray) (k m:Nat):(s.extract k m).data.toList=(s.data.toList.drop k).take (m-k):=Lib.extract_data s k m
theorem zjtZ (s:ByteArray) (k m:Nat) (hnz:0<(s.extract k m).size) :
  ((if(Lx.words.take 25).contains (s.extract k m).data.toList then(3:Nat)else(if Lx.great ((s.extract k m)[0]'hnz)then 2 else 1):Nat))=Lx.nameKind ((s.data.toList.drop k).take (m-k)):=by
 have hh:(s.extract k m).data.toList.head? =some ((s.extract k m)[0]'hnz):=by
  rw[List.head?_eq_getElem?,List.getElem?_eq_getElem (by rw[ziZ];exact hnz)]
  rfl
 unfold Lx.nameKind
 rw[←zbpZ,hh,show Lx.words.take 25=Lx.words from rfl]
 rfl
theorem zjuZ (j:Nat) (h:j<25):wordCells[j]? =some (.string ⟨(Lx.words.getD j []).toArray⟩):=by
 have hl:Lx.words.length=25:=rfl
 unfold wordCells
 rw[List.getElem?_toArray,List.getElem?_map,List.getElem?_eq_getElem (by omega),List.getD_eq_getElem?_getD,List.getElem?_eq_getElem (by omega)]
 rfl
theorem zhdZ (j:Nat) (h:j<25) (x:List UInt8):(Lx.words.take (j+1)).contains x=((Lx.words.take j).contains x||(Lx.words.getD j []==x)):=by
 have hl:j<Lx.words.length:=by show j<25;exact h
 rw[List.take_succ_eq_append_getElem hl,List.getD_eq_getElem?_getD,List.getElem?_eq_getElem hl,Bool.eq_iff_iff]
 generalize Lx.words[j]=y
 generalize Lx.words.take j=l
 simp only[List.contains_iff_mem,List.mem_append,List.mem_singleton,Bool.or_eq_true,beq_iff_eq,Option.getD_some]
 exact⟨fun h=>h.imp id Eq.symm,fun h=>h.imp id Eq.symm⟩
def kindUpTo (j:Nat) (nm:List UInt8) (kd:Nat):Nat:=if(Lx.words.take j).contains nm then 3 else kd
theorem zmcZ (s:ByteArray) (b k:Nat) (w:World) (hc:Cu w b s k) (hk:k<s.size) (hs:s.size≤140737488351232) (hG:GS w) (hb:NG≤b) (hl:Lx.letter (s[k]'hk)=true) :
  Calls Tryz.prog 145 #[.pointer (some ⟨b,0,none⟩),.agg #[.int .i64 k,.int .i64 0,.string ⟨#[]⟩,.int .i64 0]] w
   (ResIs k b s k w (Lx.cutName k (s.data.toList.drop k))):=by
 have Hl:=zh hc
 have H1:=hc.c1
 have Ho:=hc.lt
 have H9:((w.alloc (.cells #[.int .i64 k,.int .i64 0,.string ⟨#[]⟩,.int .i64 0] 133)).alloc (.cells #[.int .i64 0,.int .i64 0,.string ⟨#[]⟩,.int .i64 0] 133)).cell? ⟨b,1,none⟩=some (.int .i64 k):=by
  rw[World.cell?_alloc_lt _ _ ⟨b,1,none⟩ (by simp;omega),World.cell?_alloc_lt _ _ ⟨b,1,none⟩ Ho]
  exact H1
 clear hc
 go_enter Tryz.func145, Tryz.ntmps145
 go_upto_block 0 with fail
 clear H9
 obtain⟨w2,hw2⟩:=zE ((w.alloc (.cells #[.int .i64 k,.int .i64 0,.string ⟨#[]⟩,.int .i64 0] 133)).alloc (.cells #[.int .i64 0,.int .i64 0,.string ⟨#[]⟩,.int .i64 0] 133))
 rw[hw2]
 have Hh:w.grownBy w2 (some b):=by rw[←hw2];exact(World.grownBy_alloc _ _ _).trans (World.grownBy_alloc _ _ _)
 have hT:w2.heap[w.heap.size]? =some (.cells #[.int .i64 k,.int .i64 0,.string ⟨#[]⟩,.int .i64 0] 133 (0,0)):=by
  rw[←hw2,Below.heap_alloc _ _ _ (by simp)];exact heap_alloc_new w _
 have hZ:w2.heap[w.heap.size+1]? =some (.cells #[.int .i64 0,.int .i64 0,.string ⟨#[]⟩,.int .i64 0] 133 (0,0)):=by
  rw[←hw2];have:=heap_alloc_new (w.alloc (.cells #[.int .i64 k,.int .i64 0,.string ⟨#[]⟩,.int .i64 0] 133)) (.cells #[.int .i64 0,.int .i64 0,.string ⟨#[]⟩,.int .i64 0] 133);rwa [World.size_alloc]at this
 have Hq:w2.heap.size=w.heap.size+2:=by rw[←hw2];simp
 have hC2:Cu w2 b s k:=by rw[←hw2];exact(Hl.o.alloc _).alloc _
 have HT:=zh hT
 have HZ:=zh hZ
 have Hr:=zh hC2
 have Hv:w.heap.size+2≤w2.heap.size:=by omega
 clear hT hZ hC2 Hq hw2
 go_cut [] (fun wx=>∃m:Nat,k≤m∧m≤s.size∧m≤k+32∧Cu wx b s m∧w2.grownBy wx (some b)∧(s.data.toList.drop k).takeWhile Lx.within=(s.data.toList.drop k).take (m-k))
 case first=>
  go_wp2
  go_loopg [] (s.size-k) (fun n wr=>∃m:Nat,n=s.size-m∧k≤m∧m≤s.size∧m≤k+32∧Cu wr b s m∧w2.grownBy wr (some b)∧
   (s.data.toList.drop k).takeWhile Lx.within=(s.data.toList.drop k).take (m-k)++(s.data.toList.drop m).takeWhile Lx.within)
  case atStart=>exact⟨k,rfl,Nat.le_refl _,by omega,by omega,Hr.o,World.grownBy.refl _ _,by simp⟩
  case round=>
   obtain⟨m,hn,hkm,hm,hm32,hcm,hg,he⟩:=hrel
   have H6:=hcm.c0
   have H1:=hcm.c1
   have Hz:=hcm.f1
   have HE:=zh he
   have HN:=zh hn
   have HC:=zh hcm
   clear he hn hcm
   by_cases hlt:m<s.size
   ·have hi:(m:Int)<(s.size:Int):=by omega
    have J1:(0:Int)≤(m:Int):=by omega
    have Hd:=zh (zlZ s m hlt)
    go_wp2
    go_quiet ((go_at_call 157;exact zehZ (zfaZ _ _)))
    have H0:=hg.trans (zkZ wr nq (some b))
    have hCq:=HC.o.drewN nq
    obtain⟨wq,hwq⟩:=zE (wr.drewN nq)
    rw[hwq]at H0 hCq ⊢
    have H6:=hCq.c0
    have H1:=hCq.c1
    have Hz:=hCq.f1
    have H4:=zh hCq
    clear hwq hCq
    cases hwi:Lx.within (s[m]'hlt)
    ·go_wp2
     go_meet
     refine⟨m,hkm,hm,hm32,H4.o,?_,?_⟩
     ·repeat (first | exact H0 | refine World.grownBy.trans ?_ (zkZ _ _ _))
     ·have e:=HE.o
      rw[Hd.o,List.takeWhile_cons,hwi]at e
      simpa using e
    ·by_cases h32:m=k+32
     ·have hB:((m:Int)-(k:Int)==32)=true:=by simp;omega
      have He:=zh h32
      clear h32
      have hTr:=(H0.block w.heap.size (by omega) (by intro e;injection e with e;omega)).trans HT.o
      have hZr:=(H0.block (w.heap.size+1) (by omega) (by intro e;injection e with e;omega)).trans HZ.o
      obtain⟨t0,t1,t2,t3⟩:=zhZ hTr
      obtain⟨z0,z1,z2,z3⟩:=zhZ hZr
      obtain⟨f0,f1,f2,f3⟩:=zrZ hZr
      have Hn:=H0.size
      have H8:w.heap.size<wq.heap.size:=by omega
      have H2:w.heap.size+1<wq.heap.size:=by omega
      have H7:b<wq.heap.size:=by omega
      have H5:=zh hTr
      have Hg:=zh hZr
      clear hTr hZr
      go_wp2
      go_region_with (go_at_call 124;refine(zccZ _ _ _).mono ?_;rintro e w' ⟨rfl,rfl⟩)
      all_goals
       go_wp2
       refine bodyPost_ret (v:=.tuple #[.agg #[.int .i64 k,.int .i64 0,.string ⟨#[]⟩,.int .i64 0],.pointer (some ⟨wq.heap.size,0,none⟩)]) (by simp[results, Tryz.results145,go_sem,z0,z1,z2,z3,f0,f1,f2,f3,H2]) rfl ?_
       exact zdoZ (by rw[He.o]) (zgaZ He.o hlt hwi HE.o) (Hh.trans H0) H4.o (by omega) (by omega) _ _ _ _
     ·have hB:((m:Int)-(k:Int)==32)=false:=by simp;omega
      go_wp2
      go_roundg (s.size-(m+1))
      case measure=>have:=HN.o;omega
      case rel=>
       refine⟨m+1,rfl,by omega,by omega,by omega,H4.o.set _ _ (by omega),?_,?_⟩
       ·repeat (first | exact H0 | refine World.grownBy.trans ?_ (zkZ _ _ _) | refine World.grownBy.trans ?_ (zjZ _ _ _ _))
       ·have e:=HE.o
        rw[Hd.o,List.takeWhile_cons,hwi]at e
        rw[e,zcfZ s k m hkm hlt]
        simp
   ·go_wp2
    go_quiet (fail)
    go_wp2
    go_meet
    refine⟨m,hkm,hm,hm32,HC.o,?_,?_⟩
    ·repeat (first | exact hg | refine World.grownBy.trans ?_ (zkZ _ _ _))
    ·have e:=HE.o
     have Hw:s.data.toList.drop m=[]:=List.drop_eq_nil_of_le (by rw[ziZ];omega)
     rw[Hw]at e
     simpa using e
 case rest=>
  obtain⟨m,hkm,hm,hm32,hcm,hg,he⟩:=hcut
  obtain⟨wo,rfl⟩:∃wo:World,wo=wc:=⟨_,rfl⟩
  have hTx:=(hg.block w.heap.size (by omega) (by intro e;injection e with e;omega)).trans HT.o
  have hZx:=(hg.block (w.heap.size+1) (by omega) (by intro e;injection e with e;omega)).trans HZ.o
  obtain⟨t0,t1,t2,t3⟩:=zhZ hTx
  obtain⟨e0,e1,e2,e3⟩:=zrZ hTx
  obtain⟨z0,z1,z2,z3⟩:=zhZ hZx
  obtain⟨f0,f1,f2,f3⟩:=zrZ hZx
  have Hn:=hg.size
  have H8:w.heap.size<wo.heap.size:=by omega
  have H2:w.heap.size+1<wo.heap.size:=by omega
  have H7:b<wo.heap.size:=by omega
  have H6:=hcm.c0
  have H1:=hcm.c1
  have Hu:k<m:=by
   rcases Nat.lt_or_ge k m with h | h
   ·exact h
   ·exfalso
    rw[zlZ s k hk,List.takeWhile_cons,if_pos (by simp[Lx.within,hl]),show m-k=0 from by omega]at he
    simp at he
  have J2:=zh hTx
  have Hs:=zh hZx
  have Hy:=zh hcm
  have Ht:=zh he
  have i1:(k:Int)≤(m:Int):=by omega
  have i2:(m:Int)≤(s.size:Int):=by omega
  have Ha:0<(s.extract k m).size:=by simp;omega
  clear hTx hZx hcm he
  go_wp2
  go_region
  go_upto_if 70 with(go_at_call 155;refine(zjoZ _ _).mono ?_;rintro e w' ⟨rfl,rfl⟩)
  obtain⟨wv,hwv⟩:=zE (((wo.setCell ⟨w.heap.size,2,none⟩ (.string (s.extract k m))).setCell ⟨w.heap.size,1,none⟩ (.int .i64 1)).drew)
  rw[hwv]
  have hTv:wv.heap[w.heap.size]? =some (.cells #[.int .i64 k,.int .i64 1,.string (s.extract k m),.int .i64 0] 133 (0,0)):=by
   rw[←hwv]
   show((wo.setCell ⟨w.heap.size,2,none⟩ (.string (s.extract k m))).setCell ⟨w.heap.size,1,none⟩ (.int .i64 1)).heap[w.heap.size]? =_
   simp[World.setCell,Array.getElem?_modify,J2.o]
  have Hb:wo.grownBy wv (some w.heap.size):=by
   rw[←hwv]
   exact((zjZ _ _ _ _).trans (zjZ _ _ _ _)).trans (zkZ _ 1 _)
  obtain⟨g0,g1,g2,g3⟩:=zhZ hTv
  obtain⟨y0,y1,y2,y3⟩:=zrZ hTv
  have Hj:=zh hTv
  clear hwv hTv
  go_cut [] (fun wx=>wx.heap[w.heap.size]? =some (.cells #[.int .i64 k,.int .i64 (if Lx.great ((s.extract k m)[0]'Ha)then 2 else 1),.string (s.extract k m),.int .i64 0] 133 (0,0))∧wo.grownBy wx (some w.heap.size))
  case first=>
   go_wp2
   ·go_meet
    rename_i hgt
    refine⟨?_,Hb.trans (zjZ _ _ _ _)⟩
    rw[if_pos hgt]
    simp[World.setCell,Array.getElem?_modify,Hj.o]
   ·go_meet
    rename_i hgt
    refine⟨?_,Hb⟩
    rw[if_neg (by rw[hgt];decide)]
    exact Hj.o
  case rest=>
   obtain⟨hTy,hgy⟩:=hcut
   obtain⟨kd,hkd⟩:∃kd:Nat,kd=(if Lx.great ((s.extract k m)[0]'Ha)then 2 else 1):=⟨_,rfl⟩
   have hTy:wc.heap[w.heap.size]? =some (.cells #[.int .i64 k,.int .i64 kd,.string (s.extract k m),.int .i64 0] 133 (0,0)):=by
    rw[hTy,hkd]
    split <;> rfl
   have Hx:=zh hkd
   have hZy:=(hgy.block (w.heap.size+1) (by omega) (by intro e;injection e with e;omega)).trans Hs.o
   have hCy:Cu wc b s m:=Hy.o.kept hgy (by intro e;injection e with e;omega)
   have Hi:w.grownBy wc (some b):=zbeZ (Hh.trans hg) hgy (by omega)
   have hGy:GS wc:=hG.grown Hi hb
   have J0:=hgy.size
   have Hp:=zh hTy
   have J3:=zh hZy
   have Hm:=zh hCy
   clear hkd hTy hZy hCy t0 t1 t2 t3 e0 e1 e2 e3 z0 z1 z2 z3 f0 f1 f2 f3 H6 H1 g0 g1 g2 g3 y0 y1 y2 y3
   go_wp2_with (go_at_call 158;refine(zqmZ _ hGy.asc).mono ?_;rintro e w' ⟨rfl,rfl⟩)
   go_loopg [74] 25 (fun n v wr=>∃j:Nat,n=25-j∧j≤25∧v=.int .i64 j∧
    wr.heap[w.heap.size]? =some (.cells #[.int .i64 k,.int .i64 (kindUpTo j (s.extract k m).data.toList kd),.string (s.extract k m),.int .i64 0] 133 (0,0))∧
    (wc.alloc (.cells wordCells 9)).grownBy wr (some w.heap.size))
   case atStart=>exact⟨0,rfl,by omega,rfl,heap_alloc Hp.o _,World.grownBy.refl _ _⟩
   case round=>
    obtain⟨j,hn,hj,rfl,hTr,hgr⟩:=hrel
    obtain⟨t0,t1,t2,t3⟩:=zhZ hTr
    obtain⟨e0,e1,e2,e3⟩:=zrZ hTr
    have HN:=zh hn
    have H5:=zh hTr
    clear hn hTr
    by_cases hlt:j<25
    ·have J4:wr.cell? ⟨wc.heap.size,j,none⟩=some (.string ⟨(Lx.words.getD j []).toArray⟩):=by
      rw[zdZ ((hgr.block wc.heap.size (by simp) (by intro e;injection e with e;omega)).trans (heap_alloc_new wc _)),zjuZ j hlt]
     have J5:(j:Int)<25:=by omega
     have J1:(0:Int)≤(j:Int):=by omega
     have Hf:=zh (zhdZ j hlt (s.extract k m).data.toList)
     go_wp2
     ·have H3:(Lx.words[j]?.getD []==(s.extract k m).toList)=true:=by assumption
      go_roundg (25-(j+1))
      case measure=>have:=HN.o;omega
      case rel=>
       refine⟨j+1,rfl,by omega,by go_num,?_,hgr.trans (zjZ _ _ _ _)⟩
       have e3:kindUpTo (j+1) (s.extract k m).data.toList kd=3:=by
        unfold kindUpTo
        rw[Lib.toList_data,←List.getD_eq_getElem?_getD]at H3
        rw[Hf.o,H3,Bool.or_true,if_pos rfl]
       rw[e3]
       simp[World.setCell,Array.getElem?_modify,H5.o]
     ·have H3:(Lx.words[j]?.getD []==(s.extract k m).toList)=false:=by assumption
      go_roundg (25-(j+1))
      case measure=>have:=HN.o;omega
      case rel=>
       refine⟨j+1,rfl,by omega,by go_num,?_,hgr⟩
       have e3:kindUpTo (j+1) (s.extract k m).data.toList kd=kindUpTo j (s.extract k m).data.toList kd:=by
        unfold kindUpTo
        rw[Lib.toList_data,←List.getD_eq_getElem?_getD]at H3
        rw[Hf.o,H3,Bool.or_false]
       rw[e3]
       exact H5.o
    ·have hZr:=(hgr.block (w.heap.size+1) (by simp;omega) (by intro e;injection e with e;omega)).trans (heap_alloc J3.o _)
     obtain⟨z0,z1,z2,z3⟩:=zhZ hZr
     obtain⟨f0,f1,f2,f3⟩:=zrZ hZr
     have Hg:=zh hZr
     clear hZr
     have Hc:w.heap.size+1<wr.heap.size:=zaZ Hg.o
     have Hk:j=25:=by omega
     have HJ:=zh Hk
     clear Hk
     go_wp2
     refine bodyPost_ret (v:=.tuple #[.agg #[.int .i64 k,.int .i64 (kindUpTo j (s.extract k m).data.toList kd),.string (s.extract k m),.int .i64 0],.pointer none]) (by simp[results, Tryz.results145,go_sem,z0,z1,z2,z3,f0,f1,f2,f3]) rfl ?_
     refine resOk (zeiZ hkm hm hm32 Ht.o) (by omega) rfl ?_ (zbpZ _ _ _) rfl (zbeZ Hi ((World.grownBy_alloc _ _ _).trans hgr) (by omega)) (Hm.o.alloc _ |>.kept hgr (by intro e;injection e with e;omega)) (by omega) (by omega) _ _ _ _
     rw[HJ.o,Hx.o]
     unfold kindUpTo
     rw[zjtZ s k m Ha]
namespace Lx
def valueFrom (acc:Nat) (l:Bytes):Nat:=l.foldl (fun v c=>v * 10+(c.toNat-48)) acc
theorem zqoZ (l:Bytes):value l=valueFrom 0 l:=rfl
theorem zfcZ:∀(l:Bytes) (acc:Nat),acc≤valueFrom acc l
 | [],acc=>Nat.le_refl _
 | c::t,acc=>by
  have:=zfcZ t (acc * 10+(c.toNat-48))
  show acc≤valueFrom (acc * 10+(c.toNat-48)) t
  omega
theorem zfdZ:∀(l:Bytes) (acc:Nat),l.all digit=true→acc<18446744073709551616→
  Lib.parseUint10 acc l=if valueFrom acc l<18446744073709551616 then .ok (valueFrom acc l)else .range
 | [],acc,_,h=>by simp[Lib.parseUint10,valueFrom,h]
 | c::t,acc,hd,h=>by
  simp only[List.all_cons,Bool.and_eq_true]at hd
  have h1:48≤c.toNat∧c.toNat≤57:=by simpa[digit]using hd.1
  have H0:=zfcZ t (acc * 10+(c.toNat-48))
  have hv:valueFrom acc (c::t)=valueFrom (acc * 10+(c.toNat-48)) t:=rfl
  unfold Lib.parseUint10
  rw[if_pos h1,hv]
  by_cases a:1844674407370955162≤acc
  ·rw[if_pos a,if_neg (by omega)]
  ·rw[if_neg a]
   by_cases b:18446744073709551616≤acc * 10+(c.toNat-48)
   ·rw[if_pos b,if_neg (by omega)]
   ·rw[if_neg b]
    exact zfdZ t _ hd.2 (by omega)
theorem atoi_digits (l:Bytes) (hne:l≠[]) (hd:l.all digit=true):Lib.atoiAll l=if value l≤9223372036854775807 then .ok (value l:Int)else .range:=by
 cases l with
 | nil=>exact absurd rfl hne
 | cons c t=>
  have H0:=hd
  simp only[List.all_cons,Bool.and_eq_true]at H0
  have h1:48≤c.toNat∧c.toNat≤57:=by simpa[digit]using H0.1
  have hp:=zfdZ (c::t) 0 hd (by omega)
  rw[←zqoZ]at hp
  unfold Lib.atoiAll
  simp only
  rw[if_neg (by omega)]
  unfold Lib.parseMag
  rw[if_neg (by simp),hp]
  by_cases a:value (c::t)<18446744073709551616
  ·rw[if_pos a]
   simp only
   by_cases b:value (c::t)≤9223372036854775807
   ·rw[if_pos b,if_neg (by omega),if_neg (by omega),if_neg (by omega)]
   ·rw[if_neg b,if_pos ⟨by omega,by omega⟩]
  ·rw[if_neg a,if_neg (by omega)]
end Lx
theorem zuxZ (d:ByteArray) (w:World) (hne:0<d.size) (hs:d.size≤140737488351232) (hd:d.data.toList.all Lx.digit=true) (hv:Lx.value d.data.toList≤9223372036854775807) :
  Calls Tryz.prog 159 #[.string d] w fun e w'=>e=.returned (.tuple #[.int .i64 (Lx.value d.data.toList:Nat),.nilIface])∧Below w.heap.size w w':=by
 have hl:d.data.toList≠[]:=by
  intro e
  have:=ziZ d
  rw[e]at this
  simp at this
  omega
 refine(Tryz.strconv_Atoi_ok d (by omega) _ (by rw[Lx.atoi_digits _ hl hd,if_pos hv]) w).mono ?_
 rintro e w' ⟨rfl,rfl | ⟨t,rfl⟩⟩
 ·exact⟨rfl,Below.refl _ _⟩
 ·exact⟨rfl,Lib.bytesWorld_below _ _ _⟩
theorem znyZ (d:ByteArray) (w:World) (hG:GS w) (hne:0<d.size) (hs:d.size≤140737488351232) (hd:d.data.toList.all Lx.digit=true) (hv:¬Lx.value d.data.toList≤9223372036854775807) :
  Calls Tryz.prog 159 #[.string d] w fun e w'=>(∃(x:Int) (N:Nat),e=.returned (.tuple #[.int .i64 x,.iface 216 (.pointer (some ⟨N,0,none⟩))]))∧Below w.heap.size w w':=by
 have hl:d.data.toList≠[]:=by
  intro e
  have:=ziZ d
  rw[e]at this
  simp at this
  omega
 obtain⟨ev,hc,hev⟩:=hG.rng
 refine(Tryz.strconv_Atoi_range d (by omega) (by rw[Lx.atoi_digits _ hl hd,if_neg hv]) ev w hc hev).mono ?_
 rintro e w' ⟨N,rfl,_,_,hb⟩
 exact⟨⟨_,N,rfl⟩,hb⟩
theorem zuyZ {w wq:World} {b k m g:Nat} {s:ByteArray} {p a0 a1 a3:Int} {a2:ByteArray} {r:Lx.Res} {t:Lx.Tok} {n:Nat} (hr:r=.ok t n) (hm:m=k+n) (h0:a0=t.pos) (h1:a1=t.kind) (h2:a2.data.toList=t.s) (h3:a3=t.n)
  (hg:w.grownBy wq (some b)) (hC:Cu wq b s m) (hbg:b<g) (hwg:w.heap.size≤g) (d1 d2 c0 c1 c2 c3:Value) :
  ResIs p b s k w r (.returned (.tuple #[.agg #[.int .i64 a0,.int .i64 a1,.string a2,.int .i64 a3],.pointer none]))
   ((((((wq.setCell ⟨g,1,none⟩ d1).setCell ⟨g,3,none⟩ d2).setCell ⟨g+1,0,none⟩ c0).setCell ⟨g+1,1,none⟩ c1).setCell ⟨g+1,2,none⟩ c2).setCell ⟨g+1,3,none⟩ c3):=
 resOk hr hm h0 h1 h2 h3 (zbeZ hg ((zjZ _ _ _ _).trans (zjZ _ _ _ _)) hwg) ((hC.far (by omega) _ _).far (by omega) _ _) (by omega) (by omega) _ _ _ _
def fitsI (d:ByteArray):Bool:=decide (Lx.value d.data.toList≤9223372036854775807)
def valI (d:ByteArray):Int:=(Lx.value d.data.toList:Nat)
theorem zszZ (d:ByteArray) (w:World) (hne:0<d.size) (hs:d.size≤140737488351232) (hd:Hid (d.data.toList.all Lx.digit=true)) (hv:Hid (fitsI d=true)) :
  Calls Tryz.prog 159 #[.string d] w fun e w'=>e=.returned (.tuple #[.int .i64 (valI d),.nilIface])∧Below w.heap.size w w':=
 zuxZ d w hne hs hd (of_decide_eq_true hv)
theorem zqpZ (d:ByteArray) (w:World) (hG:GS w) (hne:0<d.size) (hs:d.size≤140737488351232) (hd:Hid (d.data.toList.all Lx.digit=true)) (hv:Hid (fitsI d=false)) :
  Calls Tryz.prog 159 #[.string d] w fun e w'=>(∃(x:Int) (N:Nat),e=.returned (.tuple #[.int .i64 x,.iface 216 (.pointer (some ⟨N,0,none⟩))]))∧Below w.heap.size w w':=
 znyZ d w hG hne hs hd (of_decide_eq_false hv)
def numBad (s:ByteArray) (k m:Nat):Bool:=
 !fitsI (s.extract k m)||(s.data.toList.getD k 0==48&&decide (1<m-k))||(decide (m<s.size)&&Lx.within (s.data.toList.getD m 0))
theorem zebZ (s:ByteArray) (k:Nat) (h:k<s.size):s.data.toList.getD k 0=s[k]'h:=by
 rw[List.getD_eq_getElem?_getD,List.getElem?_eq_getElem (by rw[ziZ];exact h)]
 rfl
theorem zgbZ {s:ByteArray} {k m:Nat} (h:fitsI (s.extract k m)=false):numBad s k m=true:=by simp[numBad,h]
theorem zljZ {s:ByteArray} {k m:Nat} (hk:k<s.size) (h:fitsI (s.extract k m)=true) (h48:(s[k]'hk).toNat=48) (hl:1<m-k):numBad s k m=true:=by
 have e:(s[k]'hk)=48:=(u8_eq _ 48 (by decide)).1 h48
 unfold numBad
 rw[zebZ s k hk,e]
 simp[hl]
theorem zigZ {s:ByteArray} {k m:Nat} (hm:m<s.size) (h:fitsI (s.extract k m)=true) (hn:¬((s.data.toList.getD k 0).toNat=48∧1<m-k)):numBad s k m=Lx.within (s[m]'hm):=by
 unfold numBad
 rw[h,zebZ s m hm]
 have:(s.data.toList.getD k 0==48&&decide (1<m-k))=false:=by
  rw[Bool.and_eq_false_iff]
  by_cases a:1<m-k
  ·left
   have:¬(s.data.toList.getD k 0).toNat=48:=fun e=>hn ⟨e,a⟩
   simp only[beq_eq_false_iff_ne,ne_eq]
   intro e
   rw[e]at this
   exact this rfl
  ·right;simpa using a
 rw[this]
 simp[hm]
theorem zheZ {s:ByteArray} {k m:Nat} (hm:¬m<s.size) (h:fitsI (s.extract k m)=true) (hn:¬((s.data.toList.getD k 0).toNat=48∧1<m-k)):numBad s k m=false:=by
 unfold numBad
 rw[h]
 have:(s.data.toList.getD k 0==48&&decide (1<m-k))=false:=by
  rw[Bool.and_eq_false_iff]
  by_cases a:1<m-k
  ·left
   have:¬(s.data.toList.getD k 0).toNat=48:=fun e=>hn ⟨e,a⟩
   simp only[beq_eq_false_iff_ne,ne_eq]
   intro e
   rw[e]at this
   exact this rfl
  ·right;simpa using a
 rw[this]
 simp[hm]
theorem zfeZ {s:ByteArray} {k m:Nat} (hk:k<s.size) (hkm:k<m) (hm:m≤s.size) (he:(s.data.toList.drop k).takeWhile Lx.digit=(s.data.toList.drop k).take (m-k)) :
  Lx.cutNumber k (s.data.toList.drop k)=if numBad s k m then .bad 11 k else .ok ⟨k,4,[],valI (s.extract k m)⟩ (m-k):=by
 have hl:((s.data.toList.drop k).take (m-k)).length=m-k:=by
  rw[List.length_take,List.length_drop,ziZ]
  omega
 have h1:((s.data.toList.drop k).head? ==some 48)=(s.data.toList.getD k 0==48):=by
  rw[zlZ s k hk,zebZ s k hk]
  simp
 have h2:(((s.data.toList.drop k).drop (m-k)).head?.map Lx.within).getD false=(decide (m<s.size)&&Lx.within (s.data.toList.getD m 0)):=by
  rw[List.drop_drop,show k+(m-k)=m from by omega]
  by_cases h:m<s.size
  ·rw[zlZ s m h,zebZ s m h]
   simp[h]
  ·rw[List.drop_eq_nil_of_le (by rw[ziZ];omega)]
   simp[h]
 have h3:decide (9223372036854775807<Lx.value ((s.data.toList.drop k).take (m-k)))=!fitsI (s.extract k m):=by
  unfold fitsI
  rw[zbpZ,Bool.eq_iff_iff]
  simp
 unfold Lx.cutNumber numBad
 simp only[he,hl]
 simp only[h1,h2,←h3,valI,zbpZ,Bool.or_eq_true,decide_eq_true_eq]
theorem ziyZ {s:ByteArray} {k m:Nat} (hk:k<s.size) (hkm:k<m) (hm:m≤s.size) (he:(s.data.toList.drop k).takeWhile Lx.digit=(s.data.toList.drop k).take (m-k)) (h:numBad s k m=true) :
  Lx.cutNumber k (s.data.toList.drop k)=.bad 11 k:=by rw[zfeZ hk hkm hm he,h];rfl
theorem zjvZ {s:ByteArray} {k m:Nat} (hk:k<s.size) (hkm:k<m) (hm:m≤s.size) (he:(s.data.toList.drop k).takeWhile Lx.digit=(s.data.toList.drop k).take (m-k)) (h:numBad s k m=false) :
  Lx.cutNumber k (s.data.toList.drop k)=.ok ⟨k,4,[],valI (s.extract k m)⟩ (m-k):=by rw[zfeZ hk hkm hm he,h];rfl
theorem zihZ (s:ByteArray) (b k:Nat) (w:World) (hc:Cu w b s k) (hk:k<s.size) (hs:s.size≤140737488351232) (hG:GS w) (hb:NG≤b) (hl:Lx.digit (s[k]'hk)=true) :
  Calls Tryz.prog 146 #[.pointer (some ⟨b,0,none⟩),.agg #[.int .i64 k,.int .i64 0,.string ⟨#[]⟩,.int .i64 0]] w
   (ResIs k b s k w (Lx.cutNumber k (s.data.toList.drop k))):=by
 have Hh:=zh hc
 have H1:=hc.c1
 have Hi:=hc.lt
 have H8:((w.alloc (.cells #[.int .i64 k,.int .i64 0,.string ⟨#[]⟩,.int .i64 0] 133)).alloc (.cells #[.int .i64 0,.int .i64 0,.string ⟨#[]⟩,.int .i64 0] 133)).cell? ⟨b,1,none⟩=some (.int .i64 k):=by
  rw[World.cell?_alloc_lt _ _ ⟨b,1,none⟩ (by simp;omega),World.cell?_alloc_lt _ _ ⟨b,1,none⟩ Hi]
  exact H1
 clear hc
 go_enter Tryz.func146, Tryz.ntmps146
 go_upto_block 0 with fail
 clear H8
 obtain⟨w2,hw2⟩:=zE ((w.alloc (.cells #[.int .i64 k,.int .i64 0,.string ⟨#[]⟩,.int .i64 0] 133)).alloc (.cells #[.int .i64 0,.int .i64 0,.string ⟨#[]⟩,.int .i64 0] 133))
 rw[hw2]
 have Hn:w.grownBy w2 (some b):=by rw[←hw2];exact(World.grownBy_alloc _ _ _).trans (World.grownBy_alloc _ _ _)
 have hT:w2.heap[w.heap.size]? =some (.cells #[.int .i64 k,.int .i64 0,.string ⟨#[]⟩,.int .i64 0] 133 (0,0)):=by
  rw[←hw2,Below.heap_alloc _ _ _ (by simp)];exact heap_alloc_new w _
 have hZ:w2.heap[w.heap.size+1]? =some (.cells #[.int .i64 0,.int .i64 0,.string ⟨#[]⟩,.int .i64 0] 133 (0,0)):=by
  rw[←hw2];have:=heap_alloc_new (w.alloc (.cells #[.int .i64 k,.int .i64 0,.string ⟨#[]⟩,.int .i64 0] 133)) (.cells #[.int .i64 0,.int .i64 0,.string ⟨#[]⟩,.int .i64 0] 133);rwa [World.size_alloc]at this
 have Hj:w2.heap.size=w.heap.size+2:=by rw[←hw2];simp
 have hC2:Cu w2 b s k:=by rw[←hw2];exact(Hh.o.alloc _).alloc _
 have HT:=zh hT
 have HZ:=zh hZ
 have Hk:=zh hC2
 have Ho:w.heap.size+2≤w2.heap.size:=by omega
 clear hT hZ hC2 Hj hw2
 go_cut [] (fun wx=>∃m:Nat,k≤m∧m≤s.size∧Cu wx b s m∧w2.grownBy wx (some b)∧(s.data.toList.drop k).takeWhile Lx.digit=(s.data.toList.drop k).take (m-k))
 case first=>
  go_wp2
  go_loopg [] (s.size-k) (fun n wr=>∃m:Nat,n=s.size-m∧k≤m∧m≤s.size∧Cu wr b s m∧w2.grownBy wr (some b)∧
   (s.data.toList.drop k).takeWhile Lx.digit=(s.data.toList.drop k).take (m-k)++(s.data.toList.drop m).takeWhile Lx.digit)
  case atStart=>exact⟨k,rfl,Nat.le_refl _,by omega,Hk.o,World.grownBy.refl _ _,by simp⟩
  case round=>
   obtain⟨m,hn,hkm,hm,hcm,hg,he⟩:=hrel
   have H5:=hcm.c0
   have H1:=hcm.c1
   have Hr:=hcm.f1
   have HE:=zh he
   have HN:=zh hn
   have HC:=zh hcm
   clear he hn hcm
   by_cases hlt:m<s.size
   ·have hi:(m:Int)<(s.size:Int):=by omega
    have Hz:(0:Int)≤(m:Int):=by omega
    have Hc:=zh (zlZ s m hlt)
    go_wp2
    go_quiet ((go_at_call 143;exact zehZ (zbxZ _ _)))
    have H7:=hg.trans (zkZ wr nq (some b))
    have hCq:=HC.o.drewN nq
    obtain⟨wq,hwq⟩:=zE (wr.drewN nq)
    rw[hwq]at H7 hCq ⊢
    have H5:=hCq.c0
    have H1:=hCq.c1
    have Hr:=hCq.f1
    have H9:=zh hCq
    clear hwq hCq
    cases hwi:Lx.digit (s[m]'hlt)
    ·go_wp2
     go_meet
     refine⟨m,hkm,hm,H9.o,?_,?_⟩
     ·repeat (first | exact H7 | refine World.grownBy.trans ?_ (zkZ _ _ _))
     ·have e:=HE.o
      rw[Hc.o,List.takeWhile_cons,hwi]at e
      simpa using e
    ·go_wp2
     go_roundg (s.size-(m+1))
     case measure=>have:=HN.o;omega
     case rel=>
      refine⟨m+1,rfl,by omega,by omega,H9.o.set _ _ (by omega),?_,?_⟩
      ·repeat (first | exact H7 | refine World.grownBy.trans ?_ (zkZ _ _ _) | refine World.grownBy.trans ?_ (zjZ _ _ _ _))
      ·have e:=HE.o
       rw[Hc.o,List.takeWhile_cons,hwi]at e
       rw[e,zcfZ s k m hkm hlt]
       simp
   ·go_wp2
    go_quiet (fail)
    go_wp2
    go_meet
    refine⟨m,hkm,hm,HC.o,?_,?_⟩
    ·repeat (first | exact hg | refine World.grownBy.trans ?_ (zkZ _ _ _))
    ·have e:=HE.o
     have Hp:s.data.toList.drop m=[]:=List.drop_eq_nil_of_le (by rw[ziZ];omega)
     rw[Hp]at e
     simpa using e
 case rest=>
  obtain⟨m,hkm,hm,hcm,hg,he⟩:=hcut
  obtain⟨wo,rfl⟩:∃wo:World,wo=wc:=⟨_,rfl⟩
  have hTx:=(hg.block w.heap.size (by omega) (by intro e;injection e with e;omega)).trans HT.o
  have hZx:=(hg.block (w.heap.size+1) (by omega) (by intro e;injection e with e;omega)).trans HZ.o
  have H0:w.grownBy wo (some b):=Hn.trans hg
  have hGo:GS wo:=hG.grown H0 hb
  have hGd:GS wo.drew:=hGo.drewN 1
  have Hx:=hg.size
  have H5:=hcm.c0
  have H1:=hcm.c1
  have H2:k<m:=by
   rcases Nat.lt_or_ge k m with h | h
   ·exact h
   ·exfalso
    rw[zlZ s k hk,List.takeWhile_cons,if_pos hl,show m-k=0 from by omega]at he
    simp at he
  have H4:(s.extract k m).data.toList.all Lx.digit=true:=by
   rw[zbpZ,←he]
   exact List.all_takeWhile
  have Hv:=zh hTx
  have Hl:=zh hZx
  have Hq:=zh hcm
  have He:=zh he
  have Hd:=zh H4
  have i1:(k:Int)≤(m:Int):=by omega
  have i2:(m:Int)≤(s.size:Int):=by omega
  have Hg:0<(s.extract k m).size:=by simp;omega
  have Hf:(s.extract k m).size≤140737488351232:=by simp;omega
  clear hTx hZx hcm he H4
  go_upto_region 4 with fail
  go_cut [7,8] (fun v7 v8 wx=>((fitsI (s.extract k m)=true∧v7=.int .i64 (valI (s.extract k m))∧v8=.nilIface)∨
   (fitsI (s.extract k m)=false∧(∃x:Int,v7=.int .i64 x)∧∃N:Nat,v8=.iface 216 (.pointer (some ⟨N,0,none⟩))))∧wo.grownBy wx none)
  case first=>
   cases hv:fitsI (s.extract k m)
   ·have HV:=zh hv
    clear hv
    go_region_with (go_at_call 159;refine(zqpZ _ _ hGd Hg Hf Hd HV).mono ?_;rintro e w' ⟨⟨x,N,rfl⟩,hb⟩)
    all_goals
     go_wp2_with fail
     go_meet
     exact⟨.inr ⟨HV.o,⟨_,rfl⟩,_,rfl⟩,⟨hb.os,hb.tape,hb.output,hb.size,fun k hk _=>hb.block k hk⟩⟩
   ·have HV:=zh hv
    clear hv
    go_region_with (go_at_call 159;refine(zszZ _ _ Hg Hf Hd HV).mono ?_;rintro e w' ⟨rfl,hb⟩)
    all_goals
     go_wp2_with fail
     go_meet
     exact⟨.inl ⟨HV.o,rfl,rfl⟩,⟨hb.os,hb.tape,hb.output,hb.size,fun k hk _=>hb.block k hk⟩⟩
  case rest=>
   obtain⟨hcase,hgx⟩:=hcut
   obtain⟨w5,rfl⟩:∃w5:World,w5=wc:=⟨_,rfl⟩
   have hC5:=Hq.o.kept hgx (fun e=>nomatch e)
   have c50:=hC5.c0
   have c51:=hC5.c1
   have Hs:=zh hC5
   have Hu:=hgx.size
   clear H5 H1 hC5
   go_upto_region 5 with fail
   go_cut [99] (fun v wx=>v=.bool (numBad s k m)∧w5.grownBy wx none)
   case first=>
    rcases hcase with⟨hv,rfl,rfl⟩ | ⟨hv,⟨x,rfl⟩,N,rfl⟩
    ·have HV:=zh hv
     clear hv
     by_cases h48:(s[k]'hk).toNat=48
     ·have b1:(((s[k]'hk).toNat:Int)==48)=true:=by simp[h48]
      have Ht:=zh h48
      clear h48
      by_cases h1:1<m-k
      ·have b2:decide ((1:Int)<(m:Int)-(k:Int))=true:=by simp;omega
       have b3:(1:Int)<(m:Int)-(k:Int):=by omega
       go_wp2
       go_quiet (fail)
       go_wp2
       go_meet
       exact⟨congrArg Value.bool (zljZ hk HV.o Ht.o h1).symm,zkZ _ _ _⟩
      ·have b2:decide ((1:Int)<(m:Int)-(k:Int))=false:=by simp;omega
       have b3:(m:Int)-(k:Int)≤1:=by omega
       by_cases hms:m<s.size
       ·have c1:(m:Int)<(s.size:Int):=by omega
        have c2:(0:Int)≤(m:Int):=by omega
        go_wp2
        go_quiet ((go_at_call 157;exact zehZ (zfaZ _ _)))
        go_wp2
        go_meet
        exact⟨congrArg Value.bool (zigZ hms HV.o (fun h=>h1 h.2)).symm,zkZ _ _ _⟩
       ·have c1:(s.size:Int)≤(m:Int):=by omega
        have c3:decide (m<s.size)=false:=by simp;omega
        go_wp2
        go_quiet (fail)
        go_wp2
        go_meet
        exact⟨congrArg Value.bool (zheZ hms HV.o (fun h=>h1 h.2)).symm,zkZ _ _ _⟩
     ·have b1:(((s[k]'hk).toNat:Int)==48)=false:=by simp;omega
      have hn:¬((s.data.toList.getD k 0).toNat=48∧1<m-k):=fun h=>h48 (by rw[←h.1,zebZ s k hk])
      have HN:=zh hn
      clear hn h48
      by_cases hms:m<s.size
      ·have c1:(m:Int)<(s.size:Int):=by omega
       have c2:(0:Int)≤(m:Int):=by omega
       go_wp2
       go_quiet ((go_at_call 157;exact zehZ (zfaZ _ _)))
       go_wp2
       go_meet
       exact⟨congrArg Value.bool (zigZ hms HV.o HN.o).symm,zkZ _ _ _⟩
      ·have c1:(s.size:Int)≤(m:Int):=by omega
       have c3:decide (m<s.size)=false:=by simp;omega
       go_wp2
       go_quiet (fail)
       go_wp2
       go_meet
       exact⟨congrArg Value.bool (zheZ hms HV.o HN.o).symm,zkZ _ _ _⟩
    ·have HV:=zh hv
     clear hv
     go_wp2
     go_quiet (fail)
     go_wp2
     go_meet
     exact⟨congrArg Value.bool (zgbZ HV.o).symm,zkZ _ _ _⟩
   case rest=>
    obtain⟨rfl,hg6⟩:=hcut
    have hTy:=(hgx.trans hg6).block w.heap.size (by omega) (fun e=>nomatch e)
    have hTy:=hTy.trans Hv.o
    have hZy:=((hgx.trans hg6).block (w.heap.size+1) (by omega) (fun e=>nomatch e)).trans Hl.o
    have hCy:=Hs.o.kept hg6 (fun e=>nomatch e)
    have Hb:w.grownBy wc (some b):=⟨((H0.os▸(hgx.trans hg6).os)),(H0.tape▸(hgx.trans hg6).tape),(H0.output▸(hgx.trans hg6).output),Nat.le_trans H0.size (hgx.trans hg6).size,fun j hj hne=>((hgx.trans hg6).block j (Nat.lt_of_lt_of_le hj H0.size) (fun e=>nomatch e)).trans (H0.block j hj hne)⟩
    obtain⟨t0,t1,t2,t3⟩:=zhZ hTy
    obtain⟨e0,e1,e2,e3⟩:=zrZ hTy
    obtain⟨z0,z1,z2,z3⟩:=zhZ hZy
    obtain⟨f0,f1,f2,f3⟩:=zrZ hZy
    have Hw:w.heap.size<wc.heap.size:=zaZ hTy
    have H6:w.heap.size+1<wc.heap.size:=zaZ hZy
    have Hm:b<wc.heap.size:=hCy.lt
    have Hy:=zh hTy
    have J0:=zh hZy
    have Ha:=zh hCy
    clear hTy hZy hCy c50 c51
    cases hnb:numBad s k m
    ·have H3:=zh hnb
     clear hnb
     rcases hcase with⟨hv,rfl,rfl⟩ | ⟨hv,⟨x,rfl⟩,N,rfl⟩
     ·have HV:=zh hv
      clear hv
      go_wp2
      refine bodyPost_ret (v:=.tuple #[.agg #[.int .i64 k,.int .i64 4,.string ⟨#[]⟩,.int .i64 (valI (s.extract k m))],.pointer none]) (by simp[results, Tryz.results146,go_sem,z0,z1,z2,z3,f0,f1,f2,f3]) rfl ?_
      refine zuyZ (zjvZ hk H2 hm He.o H3.o) (by omega) rfl rfl rfl rfl Hb Ha.o (by omega) (by omega) _ _ _ _ _ _
     ·rw[zgbZ hv]at H3
      cases H3
    ·have H3:=zh hnb
     clear hnb hcase
     go_wp2
     go_region_with (go_at_call 124;refine(zccZ _ _ _).mono ?_;rintro e w' ⟨rfl,rfl⟩)
     all_goals
      go_wp2
      refine bodyPost_ret (v:=.tuple #[.agg #[.int .i64 k,.int .i64 0,.string ⟨#[]⟩,.int .i64 0],.pointer (some ⟨wc.heap.size,0,none⟩)]) (by simp[results, Tryz.results146,go_sem,z0,z1,z2,z3,f0,f1,f2,f3,H6]) rfl ?_
      exact zdoZ rfl (ziyZ hk H2 hm He.o H3.o) Hb Ha.o (by omega) (by omega) _ _ _ _
end Go.Proofs.YtdncljdfmdgdaaaGreatDoor
