/-
  The walk of (*cutter).number.
-/
import Derived.Test.YtdncljdfmdgdaaaGreatDoorM2
set_option linter.unusedSimpArgs false
set_option linter.unusedVariables false
set_option maxRecDepth 100000
set_option maxHeartbeats 4000000
namespace Go.Proofs.YtdncljdfmdgdaaaGreatDoor
open Go.RowKit
theorem zwkZ {w wq:World} {b k m g:Nat} {s:ByteArray} {p a0 a1 a3:Int} {a2:ByteArray} {r:Lx.Res} {t:Lx.Tok} {n:Nat} (hr:r=.ok t n) (hm:m=k+n) (h0:a0=t.pos) (h1:a1=t.kind) (h2:a2.data.toList=t.s) (h3:a3=t.n)
  (hg:w.grownBy wq (some b)) (hC:Cu wq b s m) (hbg:b<g) (hwg:w.heap.size<=g) (d1 d2 c0 c1 c2 c3:Value) :
  ResIs p b s k w r (.returned (.tuple #[.agg #[.int .i64 a0,.int .i64 a1,.string a2,.int .i64 a3],.pointer none]))
   ((((((wq.setCell ⟨g,1,none⟩ d1).setCell ⟨g,3,none⟩ d2).setCell ⟨g+1,0,none⟩ c0).setCell ⟨g+1,1,none⟩ c1).setCell ⟨g+1,2,none⟩ c2).setCell ⟨g+1,3,none⟩ c3):=
 resOk hr hm h0 h1 h2 h3 (zbgZ hg ((ziZ _ _ _ _).trans (ziZ _ _ _ _)) hwg) ((hC.far (by omega) _ _).far (by omega) _ _) (by omega) (by omega) _ _ _ _
def fitsI (d:ByteArray):Bool:=decide (Lx.value d.data.toList<=9223372036854775807)
def valI (d:ByteArray):Int:=(Lx.value d.data.toList:Nat)
theorem zukZ (d:ByteArray) (w:World) (hne:0<d.size) (hs:d.size<=140737488351232) (hd:Hid (d.data.toList.all Lx.digit=true)) (hv:Hid (fitsI d=true)) :
  Calls Tryz.prog 159 #[.string d] w fun e w'=>e=.returned (.tuple #[.int .i64 (valI d),.nilIface])/\Below w.heap.size w w':=
 zwjZ d w hne hs hd (yBZ hv)
theorem zrvZ (d:ByteArray) (w:World) (hG:GS w) (hne:0<d.size) (hs:d.size<=140737488351232) (hd:Hid (d.data.toList.all Lx.digit=true)) (hv:Hid (fitsI d=false)) :
  Calls Tryz.prog 159 #[.string d] w fun e w'=>(∃(x:Int) (N:Nat),e=.returned (.tuple #[.int .i64 x,.iface 216 (.pointer (some ⟨N,0,none⟩))]))/\Below w.heap.size w w':=
 zpfZ d w hG hne hs hd (of_decide_eq_false hv)
def numBad (s:ByteArray) (k m:Nat):Bool:=
 !fitsI (s.extract k m)||(s.data.toList.getD k 0==48&&decide (1<m-k))||(decide (m<s.size)&&Lx.within (s.data.toList.getD m 0))
theorem zenZ (s:ByteArray) (k:Nat) (h:k<s.size):s.data.toList.getD k 0=s[k]'h:=by
 rw[List.getD_eq_getElem?_getD,List.getElem?_eq_getElem (by rw[zhZ];exact h)];rfl
theorem zgzZ {s:ByteArray} {k m:Nat} (h:fitsI (s.extract k m)=false):numBad s k m=true:=by simp[numBad,h]
theorem zmlZ {s:ByteArray} {k m:Nat} (hk:k<s.size) (h:fitsI (s.extract k m)=true) (h48:(s[k]'hk).toNat=48) (hl:1<m-k):numBad s k m=true:=by
 have e:(s[k]'hk)=48:=(u8_eq _ 48 (by decide)).1 h48;unfold numBad;rw[zenZ s k hk,e];simp[hl]
theorem zjnZ {s:ByteArray} {k m:Nat} (hm:m<s.size) (h:fitsI (s.extract k m)=true) (hn:¬((s.data.toList.getD k 0).toNat=48/\1<m-k)):numBad s k m=Lx.within (s[m]'hm):=by
 unfold numBad;rw[h,zenZ s m hm];have:(s.data.toList.getD k 0==48&&decide (1<m-k))=false:=by
  rw[Bool.and_eq_false_iff];by_cases a:1<m-k
  ·left;have:¬(s.data.toList.getD k 0).toNat=48:=fun e=>hn ⟨e,a⟩;simp only[yaZ,ne_eq];intro e;rw[e]at this;exact this rfl
  ·right;simpa using a
 rw[this];simp[hm]
theorem zifZ {s:ByteArray} {k m:Nat} (hm:¬m<s.size) (h:fitsI (s.extract k m)=true) (hn:¬((s.data.toList.getD k 0).toNat=48/\1<m-k)):numBad s k m=false:=by
 unfold numBad;rw[h];have:(s.data.toList.getD k 0==48&&decide (1<m-k))=false:=by
  rw[Bool.and_eq_false_iff];by_cases a:1<m-k
  ·left;have:¬(s.data.toList.getD k 0).toNat=48:=fun e=>hn ⟨e,a⟩;simp only[yaZ,ne_eq];intro e;rw[e]at this;exact this rfl
  ·right;simpa using a
 rw[this];simp[hm]
theorem zfxZ {s:ByteArray} {k m:Nat} (hk:k<s.size) (hkm:k<m) (hm:m<=s.size) (he:(s.data.toList.drop k).takeWhile Lx.digit=(s.data.toList.drop k).take (m-k)) :
  Lx.cutNumber k (s.data.toList.drop k)=if numBad s k m then .bad 11 k else .ok ⟨k,4,[],valI (s.extract k m)⟩ (m-k):=by
 have hl:((s.data.toList.drop k).take (m-k)).length=m-k:=by rw[yUZ,yhbZ,zhZ];omega
 have h1:((s.data.toList.drop k).head? ==some 48)=(s.data.toList.getD k 0==48):=by rw[zkZ s k hk,zenZ s k hk];simp
 have h2:(((s.data.toList.drop k).drop (m-k)).head?.map Lx.within).getD false=(decide (m<s.size)&&Lx.within (s.data.toList.getD m 0)):=by
  rw[List.drop_drop,show k+(m-k)=m from by omega];by_cases h:m<s.size
  ·rw[zkZ s m h,zenZ s m h];simp[h]
  ·rw[yNZ (by rw[zhZ];omega)];simp[h]
 have h3:decide (9223372036854775807<Lx.value ((s.data.toList.drop k).take (m-k)))=!fitsI (s.extract k m):=by unfold fitsI;rw[zbsZ,yEZ];simp
 unfold Lx.cutNumber numBad;simp only[he,hl];simp only[h1,h2,<-h3,valI,zbsZ,yKZ,yCZ]
theorem zkeZ {s:ByteArray} {k m:Nat} (hk:k<s.size) (hkm:k<m) (hm:m<=s.size) (he:(s.data.toList.drop k).takeWhile Lx.digit=(s.data.toList.drop k).take (m-k)) (h:numBad s k m=true) :
  Lx.cutNumber k (s.data.toList.drop k)=.bad 11 k:=by rw[zfxZ hk hkm hm he,h];rfl
theorem zlaZ {s:ByteArray} {k m:Nat} (hk:k<s.size) (hkm:k<m) (hm:m<=s.size) (he:(s.data.toList.drop k).takeWhile Lx.digit=(s.data.toList.drop k).take (m-k)) (h:numBad s k m=false) :
  Lx.cutNumber k (s.data.toList.drop k)=.ok ⟨k,4,[],valI (s.extract k m)⟩ (m-k):=by rw[zfxZ hk hkm hm he,h];rfl
theorem zjoZ (s:ByteArray) (b k:Nat) (w:World) (hc:Cu w b s k) (hk:k<s.size) (hs:s.size<=140737488351232) (hG:GS w) (hb:NG<=b) (hl:Lx.digit (s[k]'hk)=true) :
  Calls Tryz.prog 146 #[.pointer (some ⟨b,0,none⟩),.agg #[.int .i64 k,.int .i64 0,.string ⟨#[]⟩,.int .i64 0]] w
   (ResIs k b s k w (Lx.cutNumber k (s.data.toList.drop k))):=by
 have Hl:=zh hc;have H3:=hc.c1;have Hm:=hc.lt;have H7:((w.alloc (.cells #[.int .i64 k,.int .i64 0,.string ⟨#[]⟩,.int .i64 0] 133)).alloc (.cells #[.int .i64 0,.int .i64 0,.string ⟨#[]⟩,.int .i64 0] 133)).cell? ⟨b,1,none⟩=some (.int .i64 k):=by rw[World.cell?_alloc_lt _ _ ⟨b,1,none⟩ (by simp;omega),World.cell?_alloc_lt _ _ ⟨b,1,none⟩ Hm];exact H3
 clear hc;go_enter Tryz.func146, Tryz.ntmps146
 go_upto_block 0 with fail
 clear H7;obtain⟨w2,hw2⟩:=zE ((w.alloc (.cells #[.int .i64 k,.int .i64 0,.string ⟨#[]⟩,.int .i64 0] 133)).alloc (.cells #[.int .i64 0,.int .i64 0,.string ⟨#[]⟩,.int .i64 0] 133));rw[hw2];have Hn:w.grownBy w2 (some b):=by rw[<-hw2];exact(yeZ _ _ _).trans (yeZ _ _ _)
 have hT:w2.heap[w.heap.size]? =some (.cells #[.int .i64 k,.int .i64 0,.string ⟨#[]⟩,.int .i64 0] 133 (0,0)):=by rw[<-hw2,Below.heap_alloc _ _ _ (by simp)];exact ydZ w _
 have hZ:w2.heap[w.heap.size+1]? =some (.cells #[.int .i64 0,.int .i64 0,.string ⟨#[]⟩,.int .i64 0] 133 (0,0)):=by rw[<-hw2];have:=ydZ (w.alloc (.cells #[.int .i64 k,.int .i64 0,.string ⟨#[]⟩,.int .i64 0] 133)) (.cells #[.int .i64 0,.int .i64 0,.string ⟨#[]⟩,.int .i64 0] 133);rwa [World.size_alloc]at this
 have Hu:w2.heap.size=w.heap.size+2:=by rw[<-hw2];simp
 have hC2:Cu w2 b s k:=by rw[<-hw2];exact(Hl.o.alloc _).alloc _
 have HT:=zh hT;have HZ:=zh hZ;have Hs:=zh hC2;have Hr:w.heap.size+2<=w2.heap.size:=by omega
 clear hT hZ hC2 Hu hw2
 go_cut [] (fun wx=>∃m:Nat,k<=m/\m<=s.size/\Cu wx b s m/\w2.grownBy wx (some b)/\(s.data.toList.drop k).takeWhile Lx.digit=(s.data.toList.drop k).take (m-k))
 case first=>
  go_wp2
  go_loopg [] (s.size-k) (fun n wr=>∃m:Nat,n=s.size-m/\k<=m/\m<=s.size/\Cu wr b s m/\w2.grownBy wr (some b)/\
   (s.data.toList.drop k).takeWhile Lx.digit=(s.data.toList.drop k).take (m-k)++(s.data.toList.drop m).takeWhile Lx.digit)
  case atStart=>exact⟨k,rfl,ybZ _,by omega,Hs.o,World.grownBy.refl _ _,by simp⟩
  case round=>
   obtain⟨m,hn,hkm,hm,hcm,hg,he⟩:=hrel;have H8:=hcm.c0;have H3:=hcm.c1;have Hq:=hcm.f1;have HE:=zh he;have HN:=zh hn;have HC:=zh hcm;clear he hn hcm;by_cases hlt:m<s.size
   ·have hi:(m:Int)<(s.size:Int):=(by omega);have J0:(0:Int)<=(m:Int):=(by omega);have Hg:=zh (zkZ s m hlt);go_wp2;go_quiet ((go_at_call 143;exact zeuZ (zcaZ _ _)));have H6:=hg.trans (zjZ wr nq (some b));have hCq:=HC.o.drewN nq;obtain⟨wq,hwq⟩:=zE (wr.drewN nq);rw[hwq]at H6 hCq ⊢;have H8:=hCq.c0;have H3:=hCq.c1;have Hq:=hCq.f1;have Hc:=zh hCq;clear hwq hCq;cases hwi:Lx.digit (s[m]'hlt)
    ·go_wp2
     go_meet
     refine⟨m,hkm,hm,Hc.o,?_,?_⟩
     ·repeat (first | exact H6 | refine World.grownBy.trans ?_ (zjZ _ _ _))
     ·have e:=HE.o;rw[Hg.o,yFZ,hwi]at e;simpa using e
    ·go_wp2
     go_roundg (s.size-(m+1))
     case measure=>have:=HN.o;omega
     case rel=>
      refine⟨m+1,rfl,by omega,by omega,Hc.o.set _ _ (by omega),?_,?_⟩
      ·repeat (first | exact H6 | refine World.grownBy.trans ?_ (zjZ _ _ _) | refine World.grownBy.trans ?_ (ziZ _ _ _ _))
      ·have e:=HE.o;rw[Hg.o,yFZ,hwi]at e;rw[e,zcmZ s k m hkm hlt];simp
   ·go_wp2
    go_quiet (fail)
    go_wp2
    go_meet
    refine⟨m,hkm,hm,HC.o,?_,?_⟩
    ·repeat (first | exact hg | refine World.grownBy.trans ?_ (zjZ _ _ _))
    ·have e:=HE.o;have Hp:s.data.toList.drop m=[]:=yNZ (by rw[zhZ];omega);rw[Hp]at e;simpa using e
 case rest=>
  obtain⟨m,hkm,hm,hcm,hg,he⟩:=hcut;obtain⟨wo,rfl⟩:∃wo:World,wo=wc:=⟨_,rfl⟩;have hTx:=(hg.block w.heap.size (by omega) (by intro e;injection e with e;omega)).trans HT.o;have hZx:=(hg.block (w.heap.size+1) (by omega) (by intro e;injection e with e;omega)).trans HZ.o;have H0:w.grownBy wo (some b):=Hn.trans hg;have hGo:GS wo:=hG.grown H0 hb;have hGd:GS wo.drew:=hGo.drewN 1;have Hy:=hg.size;have H8:=hcm.c0;have H3:=hcm.c1;have H1:k<m:=by
   rcases Nat.lt_or_ge k m with h | h
   ·exact h
   ·exfalso;rw[zkZ s k hk,yFZ,if_pos hl,show m-k=0 from by omega]at he;simp at he
  have H4:(s.extract k m).data.toList.all Lx.digit=true:=(by rw[zbsZ,<-he];exact List.all_takeWhile);have Hi:=zh hTx;have Ho:=zh hZx;have Ht:=zh hcm;have Hf:=zh he;have H9:=zh H4;have i1:(k:Int)<=(m:Int):=(by omega);have i2:(m:Int)<=(s.size:Int):=(by omega);have He:0<(s.extract k m).size:=(by simp;omega);have Ha:(s.extract k m).size<=140737488351232:=(by simp;omega);clear hTx hZx hcm he H4;go_upto_region 4 with fail
  go_cut [7,8] (fun v7 v8 wx=>((fitsI (s.extract k m)=true/\v7=.int .i64 (valI (s.extract k m))/\v8=.nilIface)\/
   (fitsI (s.extract k m)=false/\(∃x:Int,v7=.int .i64 x)/\∃N:Nat,v8=.iface 216 (.pointer (some ⟨N,0,none⟩))))/\wo.grownBy wx none)
  case first=>
   cases hv:fitsI (s.extract k m)
   ·have HV:=zh hv;clear hv
    go_region_with (go_at_call 159;refine(zrvZ _ _ hGd He Ha H9 HV).mono ?_;rintro e w' ⟨⟨x,N,rfl⟩,hb⟩)
    all_goals
     go_wp2_with fail
     go_meet
     exact⟨.inr ⟨HV.o,⟨_,rfl⟩,_,rfl⟩,⟨hb.os,hb.tape,hb.output,hb.size,fun k hk _=>hb.block k hk⟩⟩
   ·have HV:=zh hv;clear hv
    go_region_with (go_at_call 159;refine(zukZ _ _ He Ha H9 HV).mono ?_;rintro e w' ⟨rfl,hb⟩)
    all_goals
     go_wp2_with fail
     go_meet
     exact⟨.inl ⟨HV.o,rfl,rfl⟩,⟨hb.os,hb.tape,hb.output,hb.size,fun k hk _=>hb.block k hk⟩⟩
  case rest=>
   obtain⟨hcase,hgx⟩:=hcut;obtain⟨w5,rfl⟩:∃w5:World,w5=wc:=⟨_,rfl⟩;have hC5:=Ht.o.kept hgx (fun e=>nomatch e);have c50:=hC5.c0;have c51:=hC5.c1;have Hw:=zh hC5;have Hk:=hgx.size;clear H8 H3 hC5;go_upto_region 5 with fail
   go_cut [99] (fun v wx=>v=.bool (numBad s k m)/\w5.grownBy wx none)
   case first=>
    rcases hcase with⟨hv,rfl,rfl⟩ | ⟨hv,⟨x,rfl⟩,N,rfl⟩
    ·have HV:=zh hv;clear hv;by_cases h48:(s[k]'hk).toNat=48
     ·have b1:(((s[k]'hk).toNat:Int)==48)=true:=(by simp[h48]);have Hv:=zh h48;clear h48;by_cases h1:1<m-k
      ·have b2:decide ((1:Int)<(m:Int)-(k:Int))=true:=(by simp;omega);have b3:(1:Int)<(m:Int)-(k:Int):=(by omega);go_wp2;go_quiet (fail);go_wp2
       go_meet
       exact⟨congrArg Value.bool (zmlZ hk HV.o Hv.o h1).symm,zjZ _ _ _⟩
      ·have b2:decide ((1:Int)<(m:Int)-(k:Int))=false:=(by simp;omega);have b3:(m:Int)-(k:Int)<=1:=(by omega);by_cases hms:m<s.size
       ·have c1:(m:Int)<(s.size:Int):=(by omega);have c2:(0:Int)<=(m:Int):=(by omega);go_wp2;go_quiet ((go_at_call 157;exact zeuZ (zftZ _ _)));go_wp2
        go_meet
        exact⟨congrArg Value.bool (zjnZ hms HV.o (fun h=>h1 h.2)).symm,zjZ _ _ _⟩
       ·have c1:(s.size:Int)<=(m:Int):=(by omega);have c3:decide (m<s.size)=false:=(by simp;omega);go_wp2;go_quiet (fail);go_wp2
        go_meet
        exact⟨congrArg Value.bool (zifZ hms HV.o (fun h=>h1 h.2)).symm,zjZ _ _ _⟩
     ·have b1:(((s[k]'hk).toNat:Int)==48)=false:=(by simp;omega);have hn:¬((s.data.toList.getD k 0).toNat=48/\1<m-k):=fun h=>h48 (by rw[<-h.1,zenZ s k hk]);have HN:=zh hn;clear hn h48;by_cases hms:m<s.size
      ·have c1:(m:Int)<(s.size:Int):=(by omega);have c2:(0:Int)<=(m:Int):=(by omega);go_wp2;go_quiet ((go_at_call 157;exact zeuZ (zftZ _ _)));go_wp2
       go_meet
       exact⟨congrArg Value.bool (zjnZ hms HV.o HN.o).symm,zjZ _ _ _⟩
      ·have c1:(s.size:Int)<=(m:Int):=(by omega);have c3:decide (m<s.size)=false:=(by simp;omega);go_wp2;go_quiet (fail);go_wp2
       go_meet
       exact⟨congrArg Value.bool (zifZ hms HV.o HN.o).symm,zjZ _ _ _⟩
    ·have HV:=zh hv;clear hv;go_wp2;go_quiet (fail);go_wp2
     go_meet
     exact⟨congrArg Value.bool (zgzZ HV.o).symm,zjZ _ _ _⟩
   case rest=>
    obtain⟨rfl,hg6⟩:=hcut;have hTy:=(hgx.trans hg6).block w.heap.size (by omega) (fun e=>nomatch e);have hTy:=hTy.trans Hi.o;have hZy:=((hgx.trans hg6).block (w.heap.size+1) (by omega) (fun e=>nomatch e)).trans Ho.o;have hCy:=Hw.o.kept hg6 (fun e=>nomatch e);have Hb:w.grownBy wc (some b):=⟨((H0.os▸(hgx.trans hg6).os)),(H0.tape▸(hgx.trans hg6).tape),(H0.output▸(hgx.trans hg6).output),ymZ H0.size (hgx.trans hg6).size,fun j hj hne=>((hgx.trans hg6).block j (yJZ hj H0.size) (fun e=>nomatch e)).trans (H0.block j hj hne)⟩;obtain⟨t0,t1,t2,t3⟩:=zgZ hTy;obtain⟨e0,e1,e2,e3⟩:=zqZ hTy;obtain⟨z0,z1,z2,z3⟩:=zgZ hZy;obtain⟨f0,f1,f2,f3⟩:=zqZ hZy;have Hh:w.heap.size<wc.heap.size:=zaZ hTy;have H5:w.heap.size+1<wc.heap.size:=zaZ hZy;have Hj:b<wc.heap.size:=hCy.lt;have Hd:=zh hCy;clear hTy hZy hCy c50 c51;cases hnb:numBad s k m
    ·have H2:=zh hnb;clear hnb;rcases hcase with⟨hv,rfl,rfl⟩ | ⟨hv,⟨x,rfl⟩,N,rfl⟩
     ·have HV:=zh hv;clear hv;go_wp2;refine ylZ (v:=.tuple #[.agg #[.int .i64 k,.int .i64 4,.string ⟨#[]⟩,.int .i64 (valI (s.extract k m))],.pointer none]) (by simp[results, Tryz.results146,go_sem,z0,z1,z2,z3,f0,f1,f2,f3]) rfl ?_;refine zwkZ (zlaZ hk H1 hm Hf.o H2.o) (by omega) rfl rfl rfl rfl Hb Hd.o (by omega) (by omega) _ _ _ _ _ _
     ·rw[zgzZ hv]at H2;cases H2
    ·have H2:=zh hnb;clear hnb hcase;go_wp2
     go_region_with (go_at_call 124;refine(zcjZ _ _ _).mono ?_;rintro e w' ⟨rfl,rfl⟩)
     all_goals
      go_wp2
      refine ylZ (v:=.tuple #[.agg #[.int .i64 k,.int .i64 0,.string ⟨#[]⟩,.int .i64 0],.pointer (some ⟨wc.heap.size,0,none⟩)]) (by simp[results, Tryz.results146,go_sem,z0,z1,z2,z3,f0,f1,f2,f3,H5]) rfl ?_;exact zduZ rfl (zkeZ hk H1 hm Hf.o H2.o) Hb Hd.o (by omega) (by omega) _ _ _ _
end Go.Proofs.YtdncljdfmdgdaaaGreatDoor
