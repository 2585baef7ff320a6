/-
  The walk of (*cutter).name.
-/
import Derived.Test.YtdncljdfmdgdaaaGreatDoorM1
set_option linter.unusedSimpArgs false
set_option linter.unusedVariables false
set_option maxHeartbeats 2000000
namespace Go.Proofs.YtdncljdfmdgdaaaGreatDoor
open Go.RowKit
def tokV (t:Lx.Tok):Value:=.agg #[.int .i64 t.pos,.int .i64 t.kind,.string ⟨t.s.toArray⟩,.int .i64 t.n]
def ResIs (p:Int) (b:Nat) (s:ByteArray) (k:Nat) (w:World) (r:Lx.Res) (e:Ending) (w':World):Prop:=
 w.grownBy w' (some b)/\
 match r with
 | .ok t n=>e=.returned (.tuple #[tokV t,.pointer none])/\Cu w' b s (k+n)
 | .bad y x=>∃g j,e=.returned (.tuple #[tokV ⟨p,0,[],0⟩,.pointer (some ⟨g,0,none⟩)])/\IsRef w' g x y/\w.heap.size<=g/\Cu w' b s j
theorem zduZ {w wq:World} {b k m g:Nat} {s:ByteArray} {p x:Int} {y:Nat} {r:Lx.Res} {xa:Nat} (hx:x=(xa:Int)) (hr:r=.bad y xa) (hg:w.grownBy wq (some b)) (hC:Cu wq b s m) (hbg:b<g) (hwg:w.heap.size<=g) (c0 c1 c2 c3:Value) :
  ResIs p b s k w r (.returned (.tuple #[.agg #[.int .i64 p,.int .i64 0,.string ⟨#[]⟩,.int .i64 0],.pointer (some ⟨wq.heap.size,0,none⟩)]))
   (((((wq.setCell ⟨g,0,none⟩ c0).setCell ⟨g,1,none⟩ c1).setCell ⟨g,2,none⟩ c2).setCell ⟨g,3,none⟩ c3).alloc (.cells #[.int .i64 x,.int .i64 y] 183)).drew:=by
 subst hr;refine⟨?_,wq.heap.size,m,rfl,?_,hg.size,?_⟩
 ·exact zbgZ hg ((((((ziZ _ _ _ _).trans (ziZ _ _ _ _)).trans (ziZ _ _ _ _)).trans (ziZ _ _ _ _)).trans (yeZ _ _ _)).trans (zjZ _ 1 _)) hwg
 ·have h:=ydZ ((((wq.setCell ⟨g,0,none⟩ c0).setCell ⟨g,1,none⟩ c1).setCell ⟨g,2,none⟩ c2).setCell ⟨g,3,none⟩ c3) (.cells #[.int .i64 x,.int .i64 y] 183);have e:((((wq.setCell ⟨g,0,none⟩ c0).setCell ⟨g,1,none⟩ c1).setCell ⟨g,2,none⟩ c2).setCell ⟨g,3,none⟩ c3).heap.size=wq.heap.size:=(by simp[World.setCell]);rw[e]at h;subst hx;exact h
 ·exact((((hC.far (by omega) _ _).far (by omega) _ _).far (by omega) _ _).far (by omega) _ _).alloc _
theorem zgyZ {s:ByteArray} {k m:Nat} (hm:m=k+32) (hlt:m<s.size) (hw:Lx.within (s[m]'hlt)=true)
  (he:(s.data.toList.drop k).takeWhile Lx.within=(s.data.toList.drop k).take (m-k)++(s.data.toList.drop m).takeWhile Lx.within) :
  Lx.cutName k (s.data.toList.drop k)=.bad 2 (k+32):=by
 unfold Lx.cutName;have hl:32<((s.data.toList.drop k).takeWhile Lx.within).length:=by rw[he,zkZ s m hlt,yFZ,if_pos hw];simp;omega
 simp[hl]
theorem zevZ {s:ByteArray} {k m:Nat} (hkm:k<=m) (hm:m<=s.size) (hm32:m<=k+32) (he:(s.data.toList.drop k).takeWhile Lx.within=(s.data.toList.drop k).take (m-k)) :
  Lx.cutName k (s.data.toList.drop k)=.ok ⟨k,Lx.nameKind ((s.data.toList.drop k).take (m-k)),(s.data.toList.drop k).take (m-k),0⟩ (m-k):=by
 unfold Lx.cutName;have hl:((s.data.toList.drop k).take (m-k)).length=m-k:=by rw[yUZ,yhbZ,zhZ];omega
 rw[he];simp only[hl];rw[if_neg (by omega)]
theorem resOk {w wq:World} {b k m g:Nat} {s:ByteArray} {p a0 a1 a3:Int} {a2:ByteArray} {r:Lx.Res} {t:Lx.Tok} {n:Nat} (hr:r=.ok t n) (hm:m=k+n) (h0:a0=t.pos) (h1:a1=t.kind) (h2:a2.data.toList=t.s) (h3:a3=t.n)
  (hg:w.grownBy wq (some b)) (hC:Cu wq b s m) (hbg:b<g) (hwg:w.heap.size<=g) (c0 c1 c2 c3:Value) :
  ResIs p b s k w r (.returned (.tuple #[.agg #[.int .i64 a0,.int .i64 a1,.string a2,.int .i64 a3],.pointer none]))
   ((((wq.setCell ⟨g,0,none⟩ c0).setCell ⟨g,1,none⟩ c1).setCell ⟨g,2,none⟩ c2).setCell ⟨g,3,none⟩ c3):=by
 subst hr;refine⟨?_,?_,?_⟩
 ·exact zbgZ hg ((((ziZ _ _ _ _).trans (ziZ _ _ _ _)).trans (ziZ _ _ _ _)).trans (ziZ _ _ _ _)) hwg
 ·subst h0 h1 h3;have e:a2=⟨t.s.toArray⟩:=(by rw[<-h2]);rw[e];rfl
 ·subst hm;exact((((hC.far (by omega) _ _).far (by omega) _ _).far (by omega) _ _).far (by omega) _ _)
theorem zbsZ (s:ByteArray) (k m:Nat):(s.extract k m).data.toList=(s.data.toList.drop k).take (m-k):=Lib.extract_data s k m
theorem zkyZ (s:ByteArray) (k m:Nat) (hnz:0<(s.extract k m).size) :
  ((if(Lx.words.take 25).contains (s.extract k m).data.toList then(3:Nat)else(if Lx.great ((s.extract k m)[0]'hnz)then 2 else 1):Nat))=Lx.nameKind ((s.data.toList.drop k).take (m-k)):=by
 have hh:(s.extract k m).data.toList.head? =some ((s.extract k m)[0]'hnz):=by rw[List.head?_eq_getElem?,List.getElem?_eq_getElem (by rw[zhZ];exact hnz)];rfl
 unfold Lx.nameKind;rw[<-zbsZ,hh,show Lx.words.take 25=Lx.words from rfl];rfl
theorem zkzZ (j:Nat) (h:j<25):wordCells[j]? =some (.string ⟨(Lx.words.getD j []).toArray⟩):=by
 have hl:Lx.words.length=25:=rfl;unfold wordCells;rw[List.getElem?_toArray,List.getElem?_map,List.getElem?_eq_getElem (by omega),List.getD_eq_getElem?_getD,List.getElem?_eq_getElem (by omega)];rfl
theorem zieZ (j:Nat) (h:j<25) (x:List UInt8):(Lx.words.take (j+1)).contains x=((Lx.words.take j).contains x||(Lx.words.getD j []==x)):=by
 have hl:j<Lx.words.length:=by show j<25;exact h
 rw[ykZ hl,List.getD_eq_getElem?_getD,List.getElem?_eq_getElem hl,yEZ];generalize Lx.words[j]=y;generalize Lx.words.take j=l;simp only[ySZ,yfbZ,yWZ,yKZ,ytZ,Option.getD_some];exact⟨fun h=>h.imp id Eq.symm,fun h=>h.imp id Eq.symm⟩
def kindUpTo (j:Nat) (nm:List UInt8) (kd:Nat):Nat:=if(Lx.words.take j).contains nm then 3 else kd
theorem zneZ (s:ByteArray) (b k:Nat) (w:World) (hc:Cu w b s k) (hk:k<s.size) (hs:s.size<=140737488351232) (hG:GS w) (hb:NG<=b) (hl:Lx.letter (s[k]'hk)=true) :
  Calls Tryz.prog 145 #[.pointer (some ⟨b,0,none⟩),.agg #[.int .i64 k,.int .i64 0,.string ⟨#[]⟩,.int .i64 0]] w
   (ResIs k b s k w (Lx.cutName k (s.data.toList.drop k))):=by
 have Hm:=zh hc;have H3:=hc.c1;have Ho:=hc.lt;have H6:((w.alloc (.cells #[.int .i64 k,.int .i64 0,.string ⟨#[]⟩,.int .i64 0] 133)).alloc (.cells #[.int .i64 0,.int .i64 0,.string ⟨#[]⟩,.int .i64 0] 133)).cell? ⟨b,1,none⟩=some (.int .i64 k):=by rw[World.cell?_alloc_lt _ _ ⟨b,1,none⟩ (by simp;omega),World.cell?_alloc_lt _ _ ⟨b,1,none⟩ Ho];exact H3
 clear hc;go_enter Tryz.func145, Tryz.ntmps145
 go_upto_block 0 with fail
 clear H6;obtain⟨w2,hw2⟩:=zE ((w.alloc (.cells #[.int .i64 k,.int .i64 0,.string ⟨#[]⟩,.int .i64 0] 133)).alloc (.cells #[.int .i64 0,.int .i64 0,.string ⟨#[]⟩,.int .i64 0] 133));rw[hw2];have Hd:w.grownBy w2 (some b):=by rw[<-hw2];exact(yeZ _ _ _).trans (yeZ _ _ _)
 have hT:w2.heap[w.heap.size]? =some (.cells #[.int .i64 k,.int .i64 0,.string ⟨#[]⟩,.int .i64 0] 133 (0,0)):=by rw[<-hw2,Below.heap_alloc _ _ _ (by simp)];exact ydZ w _
 have hZ:w2.heap[w.heap.size+1]? =some (.cells #[.int .i64 0,.int .i64 0,.string ⟨#[]⟩,.int .i64 0] 133 (0,0)):=by rw[<-hw2];have:=ydZ (w.alloc (.cells #[.int .i64 k,.int .i64 0,.string ⟨#[]⟩,.int .i64 0] 133)) (.cells #[.int .i64 0,.int .i64 0,.string ⟨#[]⟩,.int .i64 0] 133);rwa [World.size_alloc]at this
 have J2:w2.heap.size=w.heap.size+2:=by rw[<-hw2];simp
 have hC2:Cu w2 b s k:=by rw[<-hw2];exact(Hm.o.alloc _).alloc _
 have HT:=zh hT;have HZ:=zh hZ;have Hx:=zh hC2;have Hu:w.heap.size+2<=w2.heap.size:=by omega
 clear hT hZ hC2 J2 hw2
 go_cut [] (fun wx=>∃m:Nat,k<=m/\m<=s.size/\m<=k+32/\Cu wx b s m/\w2.grownBy wx (some b)/\(s.data.toList.drop k).takeWhile Lx.within=(s.data.toList.drop k).take (m-k))
 case first=>
  go_wp2
  go_loopg [] (s.size-k) (fun n wr=>∃m:Nat,n=s.size-m/\k<=m/\m<=s.size/\m<=k+32/\Cu wr b s m/\w2.grownBy wr (some b)/\
   (s.data.toList.drop k).takeWhile Lx.within=(s.data.toList.drop k).take (m-k)++(s.data.toList.drop m).takeWhile Lx.within)
  case atStart=>exact⟨k,rfl,ybZ _,by omega,by omega,Hx.o,World.grownBy.refl _ _,by simp⟩
  case round=>
   obtain⟨m,hn,hkm,hm,hm32,hcm,hg,he⟩:=hrel;have Ha:=hcm.c0;have H3:=hcm.c1;have Ht:=hcm.f1;have HE:=zh he;have HN:=zh hn;have HC:=zh hcm;clear he hn hcm;by_cases hlt:m<s.size
   ·have hi:(m:Int)<(s.size:Int):=(by omega);have J3:(0:Int)<=(m:Int):=(by omega);have Hk:=zh (zkZ s m hlt);go_wp2;go_quiet ((go_at_call 157;exact zeuZ (zftZ _ _)));have H0:=hg.trans (zjZ wr nq (some b));have hCq:=HC.o.drewN nq;obtain⟨wq,hwq⟩:=zE (wr.drewN nq);rw[hwq]at H0 hCq ⊢;have Ha:=hCq.c0;have H3:=hCq.c1;have Ht:=hCq.f1;have H7:=zh hCq;clear hwq hCq;cases hwi:Lx.within (s[m]'hlt)
    ·go_wp2
     go_meet
     refine⟨m,hkm,hm,hm32,H7.o,?_,?_⟩
     ·repeat (first | exact H0 | refine World.grownBy.trans ?_ (zjZ _ _ _))
     ·have e:=HE.o;rw[Hk.o,yFZ,hwi]at e;simpa using e
    ·by_cases h32:m=k+32
     ·have hB:((m:Int)-(k:Int)==32)=true:=(by simp;omega);have Hh:=zh h32;clear h32;have hTr:=(H0.block w.heap.size (by omega) (by intro e;injection e with e;omega)).trans HT.o;have hZr:=(H0.block (w.heap.size+1) (by omega) (by intro e;injection e with e;omega)).trans HZ.o;obtain⟨t0,t1,t2,t3⟩:=zgZ hTr;obtain⟨z0,z1,z2,z3⟩:=zgZ hZr;obtain⟨f0,f1,f2,f3⟩:=zqZ hZr;have Hw:=H0.size;have H4:w.heap.size<wq.heap.size:=(by omega);have H1:w.heap.size+1<wq.heap.size:=(by omega);have H5:b<wq.heap.size:=(by omega);have H9:=zh hTr;have Hj:=zh hZr;clear hTr hZr;go_wp2
      go_region_with (go_at_call 124;refine(zcjZ _ _ _).mono ?_;rintro e w' ⟨rfl,rfl⟩)
      all_goals
       go_wp2
       refine ylZ (v:=.tuple #[.agg #[.int .i64 k,.int .i64 0,.string ⟨#[]⟩,.int .i64 0],.pointer (some ⟨wq.heap.size,0,none⟩)]) (by simp[results, Tryz.results145,go_sem,z0,z1,z2,z3,f0,f1,f2,f3,H1]) rfl ?_;exact zduZ (by rw[Hh.o]) (zgyZ Hh.o hlt hwi HE.o) (Hd.trans H0) H7.o (by omega) (by omega) _ _ _ _
     ·have hB:((m:Int)-(k:Int)==32)=false:=(by simp;omega);go_wp2;go_roundg (s.size-(m+1))
      case measure=>have:=HN.o;omega
      case rel=>
       refine⟨m+1,rfl,by omega,by omega,by omega,H7.o.set _ _ (by omega),?_,?_⟩
       ·repeat (first | exact H0 | refine World.grownBy.trans ?_ (zjZ _ _ _) | refine World.grownBy.trans ?_ (ziZ _ _ _ _))
       ·have e:=HE.o;rw[Hk.o,yFZ,hwi]at e;rw[e,zcmZ s k m hkm hlt];simp
   ·go_wp2
    go_quiet (fail)
    go_wp2
    go_meet
    refine⟨m,hkm,hm,hm32,HC.o,?_,?_⟩
    ·repeat (first | exact hg | refine World.grownBy.trans ?_ (zjZ _ _ _))
    ·have e:=HE.o;have Hr:s.data.toList.drop m=[]:=yNZ (by rw[zhZ];omega);rw[Hr]at e;simpa using e
 case rest=>
  obtain⟨m,hkm,hm,hm32,hcm,hg,he⟩:=hcut;obtain⟨wo,rfl⟩:∃wo:World,wo=wc:=⟨_,rfl⟩;have hTx:=(hg.block w.heap.size (by omega) (by intro e;injection e with e;omega)).trans HT.o;have hZx:=(hg.block (w.heap.size+1) (by omega) (by intro e;injection e with e;omega)).trans HZ.o;obtain⟨t0,t1,t2,t3⟩:=zgZ hTx;obtain⟨e0,e1,e2,e3⟩:=zqZ hTx;obtain⟨z0,z1,z2,z3⟩:=zgZ hZx;obtain⟨f0,f1,f2,f3⟩:=zqZ hZx;have Hw:=hg.size;have H4:w.heap.size<wo.heap.size:=(by omega);have H1:w.heap.size+1<wo.heap.size:=(by omega);have H5:b<wo.heap.size:=(by omega);have Ha:=hcm.c0;have H3:=hcm.c1;have Hn:k<m:=by
   rcases Nat.lt_or_ge k m with h | h
   ·exact h
   ·exfalso;rw[zkZ s k hk,yFZ,if_pos (by simp[Lx.within,hl]),show m-k=0 from by omega]at he;simp at he
  have Hl:=zh hTx;have Hq:=zh hZx;have J0:=zh hcm;have J1:=zh he;have i1:(k:Int)<=(m:Int):=(by omega);have i2:(m:Int)<=(s.size:Int):=(by omega);have H8:0<(s.extract k m).size:=(by simp;omega);clear hTx hZx hcm he;go_wp2
  go_region
  go_upto_if 70 with(go_at_call 155;refine(zktZ _ _).mono ?_;rintro e w' ⟨rfl,rfl⟩)
  obtain⟨wv,hwv⟩:=zE (((wo.setCell ⟨w.heap.size,2,none⟩ (.string (s.extract k m))).setCell ⟨w.heap.size,1,none⟩ (.int .i64 1)).drew);rw[hwv];have hTv:wv.heap[w.heap.size]? =some (.cells #[.int .i64 k,.int .i64 1,.string (s.extract k m),.int .i64 0] 133 (0,0)):=(by rw[<-hwv];show((wo.setCell ⟨w.heap.size,2,none⟩ (.string (s.extract k m))).setCell ⟨w.heap.size,1,none⟩ (.int .i64 1)).heap[w.heap.size]? =_;simp[World.setCell,Array.getElem?_modify,Hl.o]);have He:wo.grownBy wv (some w.heap.size):=(by rw[<-hwv];exact((ziZ _ _ _ _).trans (ziZ _ _ _ _)).trans (zjZ _ 1 _));obtain⟨g0,g1,g2,g3⟩:=zgZ hTv;obtain⟨y0,y1,y2,y3⟩:=zqZ hTv;have Hb:=zh hTv;clear hwv hTv
  go_cut [] (fun wx=>wx.heap[w.heap.size]? =some (.cells #[.int .i64 k,.int .i64 (if Lx.great ((s.extract k m)[0]'H8)then 2 else 1),.string (s.extract k m),.int .i64 0] 133 (0,0))/\wo.grownBy wx (some w.heap.size))
  case first=>
   go_wp2
   ·go_meet
    rename_i hgt;refine⟨?_,He.trans (ziZ _ _ _ _)⟩;rw[if_pos hgt];simp[World.setCell,Array.getElem?_modify,Hb.o]
   ·go_meet
    rename_i hgt;refine⟨?_,He⟩;rw[if_neg (by rw[hgt];decide)];exact Hb.o
  case rest=>
   obtain⟨hTy,hgy⟩:=hcut;obtain⟨kd,hkd⟩:∃kd:Nat,kd=(if Lx.great ((s.extract k m)[0]'H8)then 2 else 1):=⟨_,rfl⟩;have hTy:wc.heap[w.heap.size]? =some (.cells #[.int .i64 k,.int .i64 kd,.string (s.extract k m),.int .i64 0] 133 (0,0)):=(by rw[hTy,hkd];split <;> rfl);have Hv:=zh hkd;have hZy:=(hgy.block (w.heap.size+1) (by omega) (by intro e;injection e with e;omega)).trans Hq.o;have hCy:Cu wc b s m:=J0.o.kept hgy (by intro e;injection e with e;omega);have Hc:w.grownBy wc (some b):=zbgZ (Hd.trans hg) hgy (by omega);have hGy:GS wc:=hG.grown Hc hb;have Hy:=hgy.size;have Hp:=zh hTy;have Hz:=zh hZy;have Hs:=zh hCy;clear hkd hTy hZy hCy t0 t1 t2 t3 e0 e1 e2 e3 z0 z1 z2 z3 f0 f1 f2 f3 Ha H3 g0 g1 g2 g3 y0 y1 y2 y3;go_wp2_with (go_at_call 158;refine(zrsZ _ hGy.asc).mono ?_;rintro e w' ⟨rfl,rfl⟩)
   go_loopg [74] 25 (fun n v wr=>∃j:Nat,n=25-j/\j<=25/\v=.int .i64 j/\
    wr.heap[w.heap.size]? =some (.cells #[.int .i64 k,.int .i64 (kindUpTo j (s.extract k m).data.toList kd),.string (s.extract k m),.int .i64 0] 133 (0,0))/\
    (wc.alloc (.cells wordCells 9)).grownBy wr (some w.heap.size))
   case atStart=>exact⟨0,rfl,by omega,rfl,heap_alloc Hp.o _,World.grownBy.refl _ _⟩
   case round=>
    obtain⟨j,hn,hj,rfl,hTr,hgr⟩:=hrel;obtain⟨t0,t1,t2,t3⟩:=zgZ hTr;obtain⟨e0,e1,e2,e3⟩:=zqZ hTr;have HN:=zh hn;have H9:=zh hTr;clear hn hTr;by_cases hlt:j<25
    ·have J4:wr.cell? ⟨wc.heap.size,j,none⟩=some (.string ⟨(Lx.words.getD j []).toArray⟩):=(by rw[zdZ ((hgr.block wc.heap.size (by simp) (by intro e;injection e with e;omega)).trans (ydZ wc _)),zkzZ j hlt]);have J5:(j:Int)<25:=(by omega);have J3:(0:Int)<=(j:Int):=(by omega);have Hg:=zh (zieZ j hlt (s.extract k m).data.toList);go_wp2
     ·have H2:(Lx.words[j]?.getD []==(s.extract k m).toList)=true:=(by assumption);go_roundg (25-(j+1))
      case measure=>have:=HN.o;omega
      case rel=>refine⟨j+1,rfl,by omega,by go_num,?_,hgr.trans (ziZ _ _ _ _)⟩;have e3:kindUpTo (j+1) (s.extract k m).data.toList kd=3:=(by unfold kindUpTo;rw[Lib.toList_data,<-List.getD_eq_getElem?_getD]at H2;rw[Hg.o,H2,Bool.or_true,if_pos rfl]);rw[e3];simp[World.setCell,Array.getElem?_modify,H9.o]
     ·have H2:(Lx.words[j]?.getD []==(s.extract k m).toList)=false:=(by assumption);go_roundg (25-(j+1))
      case measure=>have:=HN.o;omega
      case rel=>refine⟨j+1,rfl,by omega,by go_num,?_,hgr⟩;have e3:kindUpTo (j+1) (s.extract k m).data.toList kd=kindUpTo j (s.extract k m).data.toList kd:=(by unfold kindUpTo;rw[Lib.toList_data,<-List.getD_eq_getElem?_getD]at H2;rw[Hg.o,H2,Bool.or_false]);rw[e3];exact H9.o
    ·have hZr:=(hgr.block (w.heap.size+1) (by simp;omega) (by intro e;injection e with e;omega)).trans (heap_alloc Hz.o _);obtain⟨z0,z1,z2,z3⟩:=zgZ hZr;obtain⟨f0,f1,f2,f3⟩:=zqZ hZr;have Hj:=zh hZr;clear hZr;have Hi:w.heap.size+1<wr.heap.size:=zaZ Hj.o;have Hf:j=25:=(by omega);have HJ:=zh Hf;clear Hf;go_wp2;refine ylZ (v:=.tuple #[.agg #[.int .i64 k,.int .i64 (kindUpTo j (s.extract k m).data.toList kd),.string (s.extract k m),.int .i64 0],.pointer none]) (by simp[results, Tryz.results145,go_sem,z0,z1,z2,z3,f0,f1,f2,f3]) rfl ?_;refine resOk (zevZ hkm hm hm32 J1.o) (by omega) rfl ?_ (zbsZ _ _ _) rfl (zbgZ Hc ((yeZ _ _ _).trans hgr) (by omega)) (Hs.o.alloc _ |>.kept hgr (by intro e;injection e with e;omega)) (by omega) (by omega) _ _ _ _;rw[HJ.o,Hv.o];unfold kindUpTo;rw[zkyZ s k m H8]
namespace Lx
def valueFrom (acc:Nat) (l:Bytes):Nat:=l.foldl (fun v c=>v * 10+(c.toNat-48)) acc
theorem zruZ (l:Bytes):value l=valueFrom 0 l:=rfl
theorem zfvZ:∀(l:Bytes) (acc:Nat),acc<=valueFrom acc l
 | [],acc=>ybZ _
 | c::t,acc=>by have:=zfvZ t (acc * 10+(c.toNat-48));show acc<=valueFrom (acc * 10+(c.toNat-48)) t;omega
theorem zfwZ:∀(l:Bytes) (acc:Nat),l.all digit=true->acc<18446744073709551616->
  Lib.parseUint10 acc l=if valueFrom acc l<18446744073709551616 then .ok (valueFrom acc l)else .range
 | [],acc,_,h=>by simp[Lib.parseUint10,valueFrom,h]
 | c::t,acc,hd,h=>by
  simp only[List.all_cons,ygZ]at hd;have h1:48<=c.toNat/\c.toNat<=57:=(by simpa[digit]using hd.1);have H0:=zfvZ t (acc * 10+(c.toNat-48));have hv:valueFrom acc (c::t)=valueFrom (acc * 10+(c.toNat-48)) t:=rfl;unfold Lib.parseUint10;rw[if_pos h1,hv];by_cases a:1844674407370955162<=acc
  ·rw[if_pos a,if_neg (by omega)]
  ·rw[if_neg a];by_cases b:18446744073709551616<=acc * 10+(c.toNat-48)
   ·rw[if_pos b,if_neg (by omega)]
   ·rw[if_neg b];exact zfwZ t _ hd.2 (by omega)
theorem atoi_digits (l:Bytes) (hne:l≠[]) (hd:l.all digit=true):Lib.atoiAll l=if value l<=9223372036854775807 then .ok (value l:Int)else .range:=by
 cases l with
 | nil=>exact absurd rfl hne
 | cons c t=>
  have H0:=hd;simp only[List.all_cons,ygZ]at H0;have h1:48<=c.toNat/\c.toNat<=57:=(by simpa[digit]using H0.1);have hp:=zfwZ (c::t) 0 hd (by omega);rw[<-zruZ]at hp;unfold Lib.atoiAll;simp only;rw[if_neg (by omega)];unfold Lib.parseMag;rw[if_neg (by simp),hp];by_cases a:value (c::t)<18446744073709551616
  ·rw[if_pos a];simp only;by_cases b:value (c::t)<=9223372036854775807
   ·rw[if_pos b,if_neg (by omega),if_neg (by omega),if_neg (by omega)]
   ·rw[if_neg b,if_pos ⟨by omega,by omega⟩]
  ·rw[if_neg a,if_neg (by omega)]
end Lx
theorem zwjZ (d:ByteArray) (w:World) (hne:0<d.size) (hs:d.size<=140737488351232) (hd:d.data.toList.all Lx.digit=true) (hv:Lx.value d.data.toList<=9223372036854775807) :
  Calls Tryz.prog 159 #[.string d] w fun e w'=>e=.returned (.tuple #[.int .i64 (Lx.value d.data.toList:Nat),.nilIface])/\Below w.heap.size w w':=by
 have hl:d.data.toList≠[]:=by intro e;have:=zhZ d;rw[e]at this;simp at this;omega
 refine(Tryz.strconv_Atoi_ok d (by omega) _ (by rw[Lx.atoi_digits _ hl hd,if_pos hv]) w).mono ?_;rintro e w' ⟨rfl,rfl | ⟨t,rfl⟩⟩
 ·exact⟨rfl,yqZ _ _⟩
 ·exact⟨rfl,Lib.bytesWorld_below _ _ _⟩
theorem zpfZ (d:ByteArray) (w:World) (hG:GS w) (hne:0<d.size) (hs:d.size<=140737488351232) (hd:d.data.toList.all Lx.digit=true) (hv:¬Lx.value d.data.toList<=9223372036854775807) :
  Calls Tryz.prog 159 #[.string d] w fun e w'=>(∃(x:Int) (N:Nat),e=.returned (.tuple #[.int .i64 x,.iface 216 (.pointer (some ⟨N,0,none⟩))]))/\Below w.heap.size w w':=by
 have hl:d.data.toList≠[]:=by intro e;have:=zhZ d;rw[e]at this;simp at this;omega
 obtain⟨ev,hc,hev⟩:=hG.rng;refine(Tryz.strconv_Atoi_range d (by omega) (by rw[Lx.atoi_digits _ hl hd,if_neg hv]) ev w hc hev).mono ?_;rintro e w' ⟨N,rfl,_,_,hb⟩;exact⟨⟨_,N,rfl⟩,hb⟩
end Go.Proofs.YtdncljdfmdgdaaaGreatDoor
