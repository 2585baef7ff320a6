/-
  coilref1: wrong, Word, Signs, begins.
-/
import Derived.Test.YtdncljdfmdgdaaaGreatDoorM33
set_option linter.unusedSimpArgs false
set_option linter.unusedVariables false
set_option maxRecDepth 100000
set_option maxHeartbeats 4000000
namespace Go.Proofs.YtdncljdfmdgdaaaGreatDoor
open Go.RowKit
def cutV (p:Nat):Lx.Res->Value
 | .ok t n=>.agg #[.int .i64 t.pos,.int .i64 t.kind,.string ⟨t.s.toArray⟩,.int .i64 t.n,.int .i64 ((p+n:Nat):Int),.int .i64 0,.int .i64 0]
 | .bad y x=>.agg #[.int .i64 0,.int .i64 0,.string ⟨#[]⟩,.int .i64 0,.int .i64 0,.int .i64 (y:Nat),.int .i64 (x:Nat)]
theorem zbwZ (y x:Int) (w:World):Calls Tryz.prog 170 #[.int .i64 y,.int .i64 x] w fun e w'=>e=.returned (.agg #[.int .i64 0,.int .i64 0,.string ⟨#[]⟩,.int .i64 0,.int .i64 0,.int .i64 y,.int .i64 x])/\Below w.heap.size w w':=by
 go_enter Tryz.func170, Tryz.ntmps170
 go_wp2
 refine ylZ (v:=.agg #[.int .i64 0,.int .i64 0,.string ⟨#[]⟩,.int .i64 0,.int .i64 0,.int .i64 y,.int .i64 x]) (by simp[results, Tryz.results170,go_sem]) rfl ?_;exact⟨rfl,zeZ (yeZ _ _ _)⟩
def sgs:List Lx.Bytes:=[[61,61],[40],[41],[123],[125],[59],[58],[44],[46],[61],[60],[43],[45],[42]]
def sgCells:Array Value:=(sgs.map fun s=>Value.string ⟨s.toArray⟩).toArray
theorem zfjZ (m:Nat) (h:m<14):sgCells[m]? =some (.string ⟨(sgs.getD m []).toArray⟩):=by
 have hl:sgs.length=14:=rfl;unfold sgCells;rw[List.getElem?_toArray,List.getElem?_map,List.getD_eq_getElem?_getD,List.getElem?_eq_getElem (by omega)];rfl
theorem zhxZ (w:World):Calls Tryz.prog 139 #[] w fun e w'=>e=.returned (.slice (some ⟨w.heap.size,0,none⟩) 14 14)/\w'=w.alloc (.cells sgCells 9):=by
 go_enter Tryz.func139, Tryz.ntmps139
 go_wp2
 go_ret;exact⟨rfl,rfl⟩
def isWord (l:Lx.Bytes):Bool:=Lx.words.contains l
theorem znvZ (s:ByteArray) (w:World):Calls Tryz.prog 181 #[.string s] w fun e w'=>e=.returned (.bool (isWord s.data.toList))/\Below w.heap.size w w':=by
 go_enter Tryz.func181, Tryz.ntmps181
 go_upto_region 2 with(go_at_call 192;refine(zsoZ _).mono ?_;rintro e W1 ⟨rfl,hWe⟩;rw[hWe];clear hWe)
 have H0:=ydZ w (.cells wordCells 9);have hb:=zeZ (yeZ w (.cells wordCells 9) none);obtain⟨W2,hW2⟩:=zE (w.alloc (.cells wordCells 9));rw[hW2]at H0 hb ⊢;have HW:=zh H0;have H6:=zaZ H0;clear H0 hW2;go_wp2_with fail;go_loopg [4] 25 (fun n v wr=>∃(m:Nat),n=25-m/\v=.int .i64 (m:Int)/\m<=25/\wr=W2/\(Lx.words.take m).contains s.data.toList=false)
 case atStart=>exact⟨0,rfl,rfl,yxZ _,rfl,rfl⟩
 case round=>
  obtain⟨m,hn,rfl,hm,rfl,hc⟩:=hrel;have HN:=zh hn;have HC:=zh hc;clear hn hc;by_cases hlt:m<25
  ·have H4:(m:Int)<25:=(by omega);have H7:(0:Int)<=(m:Int):=(by omega);have t0:=(zdZ HW.o m).trans (zkzZ m hlt);have H2:=zieZ m hlt s.data.toList;rw[HC.o,Bool.false_or]at H2;obtain⟨x,hx⟩:=zE (Lx.words.getD m []);have H1:x∈Lx.words:=(by rw[<-hx,List.getD_eq_getElem?_getD,List.getElem?_eq_getElem (show m<Lx.words.length from hlt)];exact yfZ _);rw[hx]at t0 H2;have H3:(x==s.toList)=(x==s.data.toList):=by rw[yebZ]
   cases hq:(x==s.data.toList)with
   | true=>
    rw[hq]at H3
    have HR:=zh (show isWord s.data.toList=true by
     unfold isWord;rw[ySZ,<-show x=s.data.toList by simpa using hq]
     exact H1)
    clear H2 hx hq H1;go_wp2;go_ret;rw[HR.o];exact⟨rfl,hb⟩
   | false=>
    rw[hq]at H3 H2;have HG:=zh H2;clear H2 hx hq H1;go_wp2;go_roundg (25-(m+1))
    case measure=>have:=HN.o;omega
    case rel=>exact⟨m+1,rfl,by simp,hlt,rfl,HG.o⟩
  ·have H4:¬(m:Int)<25:=(by omega);have H5:m=25:=(by omega);have HR:=zh (show isWord s.data.toList=false by have:=HC.o;rw[H5]at this;exact this);go_wp2;go_ret;rw[HR.o];exact⟨rfl,hb⟩
def firsts:Lx.Bytes:=[61,40,41,123,125,59,58,44,46,61,60,43,45,42]
theorem zgqZ (b:UInt8):firsts.contains b=Lx.signs.contains b:=by
 have h1:∀x∈firsts,x∈Lx.signs:=by decide
 have h2:∀x∈Lx.signs,x∈firsts:=by decide
 rw[yEZ,ySZ,ySZ];exact⟨h1 b,h2 b⟩
theorem ztrZ (m:Nat) (h:m<14):∃(x:Lx.Bytes),sgs.getD m []=firsts.getD m 0::x:=by
 have H0:((List.range 14).all fun m=>(sgs.getD m []).head? ==some (firsts.getD m 0))=true:=by decide
 have:=yZZ.1 H0 m (List.mem_range.2 h)
 cases hs:sgs.getD m []with
 | nil=>rw[hs]at this;simp at this
 | cons a x=>rw[hs]at this;have:a=firsts.getD m 0:=(by simpa using this);exact⟨x,by rw[this]⟩
theorem zkpZ (l:Lx.Bytes) (m:Nat) (h:m<l.length) (b:UInt8):(l.take (m+1)).contains b=((l.take m).contains b||(l.getD m 0==b)):=by
 rw[ykZ h,List.getD_eq_getElem?_getD,List.getElem?_eq_getElem h,yEZ];simp only[ySZ,yfbZ,yWZ,yKZ,ytZ,Option.getD_some];exact⟨fun h=>h.imp id Eq.symm,fun h=>h.imp id Eq.symm⟩
theorem zqtZ (b:UInt8) (w:World):Calls Tryz.prog 151 #[.int .u8 (b.toNat:Int)] w fun e w'=>e=.returned (.bool (Lx.begins b))/\Below w.heap.size w w':=by
 have hw:Lx.begins b=(Lx.small b||Lx.great b||Lx.digit b||(b.toNat==34)||firsts.contains b):=by rw[zgqZ];rfl
 by_cases hfirst:(Lx.small b||Lx.great b||Lx.digit b||(b.toNat==34))=true
 ·have HW:=zh (show Lx.begins b=true by rw[hw,hfirst];rfl);have h4:Lx.small b=true\/(Lx.small b=false/\Lx.great b=true)\/(Lx.small b=false/\Lx.great b=false/\Lx.digit b=true)\/(Lx.small b=false/\Lx.great b=false/\Lx.digit b=false/\((b.toNat:Int)==34)=true):=(by simp only[yKZ,ytZ]at hfirst ⊢;cases hs:Lx.small b <;> cases hg:Lx.great b <;> cases hd:Lx.digit b <;> simp[hs,hg,hd]at hfirst ⊢ <;> omega);clear hw hfirst;rcases h4 with hs | ⟨hs,hg⟩ | ⟨hs,hg,hd⟩ | ⟨hs,hg,hd,b34⟩
  all_goals
   go_enter Tryz.func151, Tryz.ntmps151
   go_wp2_with (first
    | (go_at_call 164;refine(zcfZ _ _).mono ?_;rw[hs];rintro e w' ⟨rfl,rfl⟩)
    | (go_at_call 165;refine(zbpZ _ _).mono ?_;rw[hg];rintro e w' ⟨rfl,rfl⟩)
    | (go_at_call 166;refine(zbvZ _ _).mono ?_;rw[hd];rintro e w' ⟨rfl,rfl⟩))
   go_ret;rw[HW.o];exact⟨rfl,yqZ _ _⟩
 ·have H4:(Lx.small b||Lx.great b||Lx.digit b||(b.toNat==34))=false:=(by simpa using hfirst);have HW:=zh (show Lx.begins b=firsts.contains b by rw[hw,H4];rfl);simp only[Bool.or_eq_false_iff]at H4;obtain⟨⟨⟨hs,hg⟩,hd⟩,h34⟩:=H4;have b34:((b.toNat:Int)==34)=false:=(by simp at h34 ⊢;omega);clear hw hfirst h34;go_enter Tryz.func151, Tryz.ntmps151
  go_upto_region 4 with(first
    | (go_at_call 164;refine(zcfZ _ _).mono ?_;rw[hs];rintro e w' ⟨rfl,rfl⟩)
    | (go_at_call 165;refine(zbpZ _ _).mono ?_;rw[hg];rintro e w' ⟨rfl,rfl⟩)
    | (go_at_call 166;refine(zbvZ _ _).mono ?_;rw[hd];rintro e w' ⟨rfl,rfl⟩)
    | (go_at_call 139;refine(zhxZ _).mono ?_;rintro e W1 ⟨rfl,hWe⟩;rw[hWe];clear hWe))
  have H1:=ydZ w (.cells sgCells 9);have hb:=zeZ (yeZ w (.cells sgCells 9) none);obtain⟨W2,hW2⟩:=zE (w.alloc (.cells sgCells 9));rw[hW2]at H1 hb ⊢;have HB:=zh H1;have H7:=zaZ H1;clear H1 hW2;go_wp2_with fail;go_loopg [4] 14 (fun n v wr=>∃(m:Nat),n=14-m/\v=.int .i64 (m:Int)/\m<=14/\wr=W2/\(firsts.take m).contains b=false)
  case atStart=>exact⟨0,rfl,rfl,yxZ _,rfl,rfl⟩
  case round=>
   obtain⟨m,hn,rfl,hm,rfl,hc⟩:=hrel;have HN:=zh hn;have HC:=zh hc;clear hn hc;by_cases hlt:m<14
   ·have H6:(m:Int)<14:=(by omega);have H8:(0:Int)<=(m:Int):=(by omega);have t0:=(zdZ HB.o m).trans (zfjZ m hlt);obtain⟨x,hx⟩:=ztrZ m hlt;have H2:=zkpZ firsts m hlt b;rw[HC.o,Bool.false_or]at H2;obtain⟨f,hf⟩:=zE (firsts.getD m 0);rw[hx,hf]at t0;rw[hf]at H2;obtain⟨S,hS⟩:∃S:ByteArray,(⟨(f::x).toArray⟩:ByteArray)=S:=⟨_,rfl⟩;rw[hS]at t0;have hS0:0<S.size:=(by rw[<-hS];show 0<(f::x).length;simp);have hSi:(0:Int)<(S.size:Int):=(by omega);have hSf:S[0]'hS0=f:=(by subst hS;rfl);have H3:((f.toNat:Int)==(b.toNat:Int))=(f==b):=(by rw[yEZ];simp only[ytZ];exact⟨fun h=>ybbZ.1 (by omega),fun h=>by rw[h]⟩);have H0:f∈firsts:=by rw[<-hf,List.getD_eq_getElem?_getD,List.getElem?_eq_getElem (show m<firsts.length from hlt)];exact yfZ _
    cases hq:(f==b)with
    | true=>
     rw[hq]at H3
     have HR:=zh (show firsts.contains b=true by
      rw[ySZ,<-show f=b by simpa using hq]
      exact H0)
     clear H2 hx hf hq H0 hS;go_wp2;go_ret;rw[HW.o,HR.o];exact⟨rfl,hb⟩
    | false=>
     rw[hq]at H3 H2;have HG:=zh H2;clear H2 hx hf hq H0 hS;go_wp2;go_roundg (14-(m+1))
     case measure=>have:=HN.o;omega
     case rel=>exact⟨m+1,rfl,by simp,hlt,rfl,HG.o⟩
   ·have H6:¬(m:Int)<14:=(by omega);have H5:m=14:=(by omega);have HR:=zh (show firsts.contains b=false by have:=HC.o;rw[H5]at this;exact this);go_wp2;go_ret;rw[HW.o,HR.o];exact⟨rfl,hb⟩
theorem zfZ {w:World} {g t:Nat} {a b c d e f h:Value} (hh:w.heap[g]? =some (.cells #[a,b,c,d,e,f,h] t (0,0))) :
  (w.cell? ⟨g,0,none⟩=some a/\w.cell? ⟨g,1,none⟩=some b/\w.cell? ⟨g,2,none⟩=some c/\w.cell? ⟨g,3,none⟩=some d/\w.cell? ⟨g,4,none⟩=some e/\w.cell? ⟨g,5,none⟩=some f/\w.cell? ⟨g,6,none⟩=some h)/\
  (w.frozen? ⟨g,0,none⟩=false/\w.frozen? ⟨g,1,none⟩=false/\w.frozen? ⟨g,2,none⟩=false/\w.frozen? ⟨g,3,none⟩=false/\w.frozen? ⟨g,4,none⟩=false/\w.frozen? ⟨g,5,none⟩=false/\w.frozen? ⟨g,6,none⟩=false)/\g<w.heap.size:=
 ⟨⟨zdZ hh 0,zdZ hh 1,zdZ hh 2,zdZ hh 3,zdZ hh 4,zdZ hh 5,zdZ hh 6⟩,⟨zsZ hh 0,zsZ hh 1,zsZ hh 2,zsZ hh 3,zsZ hh 4,zsZ hh 5,zsZ hh 6⟩,zaZ hh⟩
theorem BSet {w W:World} {g j:Nat} {v:Value} (h:Below w.heap.size w W) (hg:w.heap.size<=g):Below w.heap.size w (W.setCell ⟨g,j,none⟩ v):=Below.turn h (ziZ W g j v) (fun r e=>by injection e with e;omega)
theorem BAlloc {w W:World} {o:Obj} (h:Below w.heap.size w W):Below w.heap.size w (W.alloc o):=h.alloc h.size o
theorem Below.chain {w W X:World} (h:Below w.heap.size w W) (h':Below W.heap.size W X):Below w.heap.size w X:=h.trans (h'.mono h.size)
theorem ziwZ {l:Lx.Bytes} {c:UInt8} (h:isWord l=true) (hc:l.head? =some c):Lx.great c=false:=by
 have H0:∀x∈Lx.words,(x.head?.map Lx.great).getD false=false:=by decide
 have:=H0 l (ySZ.1 h);rw[hc]at this;simpa using this
theorem zwcZ (s:ByteArray) (k:Nat) (w:World) (hk:k<s.size) (hs:s.size<=140737488351232) (hl:Lx.letter (s[k]'hk)=true) :
  Calls Tryz.prog 167 #[.string s,.int .i64 (k:Int)] w fun e w'=>e=.returned (cutV k (Lx.cutName k (s.data.toList.drop k)))/\Below w.heap.size w w':=by
 have Hq:(s.size:Int)<=140737488351232:=by omega
 have Hp:(k:Int)<=(s.size:Int):=by omega
 have Hr:(0:Int)<=(k:Int):=by omega
 go_enter Tryz.func167, Tryz.ntmps167
 go_upto_region 1 with fail
 have H8:=ydZ w (.cells #[.int .i64 0,.int .i64 0,.string ⟨#[]⟩,.int .i64 0,.int .i64 0,.int .i64 0,.int .i64 0] 193);have hb:=zeZ (yeZ w (.cells #[.int .i64 0,.int .i64 0,.string ⟨#[]⟩,.int .i64 0,.int .i64 0,.int .i64 0,.int .i64 0] 193) none);obtain⟨W1,hW1⟩:=zE (w.alloc (.cells #[.int .i64 0,.int .i64 0,.string ⟨#[]⟩,.int .i64 0,.int .i64 0,.int .i64 0,.int .i64 0] 193));rw[hW1]at H8 hb ⊢;have H4:=zh H8;have Hm:=zaZ H8;clear H8 hW1;go_wp2_with fail;go_loopg [5] (s.size-k) (fun n v wr=>∃m:Nat,n=s.size-m/\v=.int .i64 (m:Int)/\k<=m/\m<=s.size/\m<=k+32/\wr=W1/\(s.data.toList.drop k).takeWhile Lx.within=(s.data.toList.drop k).take (m-k)++(s.data.toList.drop m).takeWhile Lx.within)
 case atStart=>exact⟨k,rfl,rfl,ybZ _,by omega,by omega,rfl,by simp⟩
 case round=>
  obtain⟨m,hn,rfl,hkm,hm,hm32,rfl,he⟩:=hrel;have HE:=zh he;have HN:=zh hn;clear he hn;have Hs:(0:Int)<=(m:Int):=(by omega);have Ho:(k:Int)<=(m:Int):=(by omega);by_cases hlt:m<s.size
  ·have hi:(m:Int)<(s.size:Int):=(by omega);have Hl:=zh (zkZ s m hlt)
   cases hwi:Lx.within (s[m]'hlt)with
   | true=>
    by_cases h32:m=k+32
    ·have hB:((m:Int)-(k:Int)==32)=true:=(by simp;omega);have HR:=zh (zgyZ h32 hlt hwi HE.o);have Hn:=zh h32;clear h32;have H7:=zhtZ (s[m]'hlt) wr;rw[hwi]at H7;have Hk:=zbwZ 2 (m:Int) wr;clear hwi
     go_wp2_with (first
      | (go_at_call 180;refine H7.mono ?_;clear H7;rintro e w' ⟨rfl,H2⟩;rw[<-H2];clear H2)
      | (go_at_call 170;refine Hk.mono ?_;clear Hk;rintro e W3 ⟨rfl,Hj⟩;obtain⟨⟨a0,a1,a2,a3,a4,a5,a6⟩,⟨f0,f1,f2,f3,f4,f5,f6⟩,hl3⟩:=zfZ ((Hj.block _ Hm).trans H4.o)))
     refine ylZ (v:=.agg #[.int .i64 0,.int .i64 0,.string ⟨#[]⟩,.int .i64 0,.int .i64 0,.int .i64 2,.int .i64 (m:Int)]) (by simp[results, Tryz.results167,go_sem,a0,a1,a2,a3,a4,a5,a6,f0,f1,f2,f3,f4,f5,f6,hl3]) rfl ?_;rw[HR.o,<-Hn.o];have H9:=Below.chain hb Hj;refine⟨rfl,?_⟩
     repeat (first | (with_reducible exact H9) | with_reducible refine BSet ?_ (ybZ _))
    ·have hB:((m:Int)-(k:Int)==32)=false:=(by simp;omega);have HG:=zh (zcmZ s k m hkm hlt);have H7:=zhtZ (s[m]'hlt) wr;rw[hwi]at H7;have HW:=zh hwi;clear hwi;go_wp2_with (go_at_call 180;refine H7.mono ?_;clear H7;rintro e w' ⟨rfl,H2⟩;rw[<-H2];clear H2);go_roundg (s.size-(m+1))
     case measure=>have:=HN.o;omega
     case rel=>refine⟨m+1,rfl,by simp,by omega,hlt,by omega,rfl,?_⟩;rw[HG.o,HE.o,Hl.o,yFZ,if_pos HW.o];simp
   | false=>
    have H3:(s.data.toList.drop k).takeWhile Lx.within=(s.data.toList.drop k).take (m-k):=(by have e:=HE.o;rw[Hl.o,yFZ,hwi]at e;simpa using e);have HF:=zh H3;have Hg:k<m:=by
     rcases Nat.lt_or_ge k m with h | h
     ·exact h
     ·exfalso;have e:=HF.o;rw[zkZ s k hk,yFZ,if_pos (by simp[Lx.within,hl]),show m-k=0 from by omega]at e;simp at e
    have HR:=zh (zevZ (by omega) hm hm32 HF.o);have He:(m:Int)<=(s.size:Int):=(by omega);have Hh:(k:Int)<(s.size:Int):=(by omega);obtain⟨S,hS⟩:∃S:ByteArray,s.extract k m=S:=⟨_,rfl⟩;have hSd:S.data.toList=(s.data.toList.drop k).take (m-k):=(by rw[<-hS,zbsZ]);have H1:(⟨((s.data.toList.drop k).take (m-k)).toArray⟩:ByteArray)=S:=(by rw[<-hSd,zcoZ]);have H0:((s.data.toList.drop k).take (m-k)).head? =some (s[k]'hk):=(by rw[zkZ s k hk];obtain⟨j,hj⟩:∃j,m-k=j+1:=⟨m-k-1,by omega⟩;rw[hj,List.take_succ_cons];rfl);obtain⟨c,hc⟩:=zE (s[k]'hk);rw[hc]at H0;have Hf:Lx.nameKind ((s.data.toList.drop k).take (m-k))=if isWord S.data.toList then 3 else if Lx.great c then 2 else 1:=by unfold Lx.nameKind isWord;rw[H0,hSd,Option.map_some,Option.getD_some]
    have H5:=zh Hf;have HX:=zh (show isWord S.data.toList=true->Lx.great c=false from fun h=>ziwZ h (by rw[hSd];exact H0));have Hb:=zh H1;have Hd:=fun X=>zbpZ c X;have Hc:=fun X=>znvZ S X;obtain⟨wb,hwb⟩:=zE (isWord S.data.toList);obtain⟨gb,hgb⟩:=zE (Lx.great c);rw[hwb]at H5;rw[hgb]at H5;rw[hwb,hgb]at HX;obtain⟨⟨p0,p1,p2,p3,p4,p5,p6⟩,⟨g0,g1,g2,g3,g4,g5,g6⟩,hl0⟩:=zfZ H4.o;rw[hwb]at Hc;rw[hgb]at Hd;have H6:=H4.o;clear H3 Hf H0 hSd H1 hwb hgb HE HN;have H7:=zhtZ (s[m]'hlt) wr;rw[hwi]at H7;clear hwi;cases gb <;> cases wb
    all_goals try (exact absurd (HX.o rfl) (by decide))
    all_goals
     go_wp2_with (first
      | (go_at_call 180;refine H7.mono ?_;clear H7;rintro e w' ⟨rfl,H2⟩;rw[<-H2];clear H2)
      | (go_at_call 165;refine(Hd _).mono ?_;rintro e w' ⟨rfl,H2⟩;rw[<-H2];clear H2)
      | (go_at_call 181;refine(Hc _).mono ?_;rintro e W5 ⟨rfl,Ha⟩;obtain⟨⟨a0,a1,a2,a3,a4,a5,a6⟩,⟨f0,f1,f2,f3,f4,f5,f6⟩,hl5⟩:=zfZ ((Ha.block _ (by simp;omega)).trans (heap_alloc H6 _));have hT5:=(Ha.block wr.heap.size (by simp)).trans (ydZ wr _);obtain⟨t0,t1,t2,t3⟩:=zgZ hT5;obtain⟨e0,e1,e2,e3⟩:=zqZ hT5;have Hi:=zaZ hT5;have H9:=Below.chain (BAlloc hb) Ha))
    ·refine ylZ (v:=.agg #[.int .i64 (k:Int),.int .i64 1,.string S,.int .i64 0,.int .i64 (m:Int),.int .i64 0,.int .i64 0]) (by simp[results, Tryz.results167,go_sem,a0,a1,a2,a3,a4,a5,a6,f0,f1,f2,f3,f4,f5,f6,hl5]) rfl ?_;rw[HR.o];refine⟨?_,?_⟩
     ·unfold cutV;simp only[Hb.o];rw[show k+(m-k)=m by omega,H5.o];rfl
     ·repeat (first | (with_reducible exact H9) | (with_reducible exact hb) | (with_reducible refine BSet ?_ (ybZ _)) | (with_reducible refine BSet ?_ hb.size) | (with_reducible refine BAlloc ?_))
    ·refine ylZ (v:=.agg #[.int .i64 (k:Int),.int .i64 3,.string S,.int .i64 0,.int .i64 (m:Int),.int .i64 0,.int .i64 0]) (by simp[results, Tryz.results167,go_sem,a0,a1,a2,a3,a4,a5,a6,f0,f1,f2,f3,f4,f5,f6,hl5]) rfl ?_;rw[HR.o];refine⟨?_,?_⟩
     ·unfold cutV;simp only[Hb.o];rw[show k+(m-k)=m by omega,H5.o];rfl
     ·repeat (first | (with_reducible exact H9) | (with_reducible exact hb) | (with_reducible refine BSet ?_ (ybZ _)) | (with_reducible refine BSet ?_ hb.size) | (with_reducible refine BAlloc ?_))
    ·refine ylZ (v:=.agg #[.int .i64 (k:Int),.int .i64 2,.string S,.int .i64 0,.int .i64 (m:Int),.int .i64 0,.int .i64 0]) (by simp[results, Tryz.results167,go_sem,p0,p1,p2,p3,p4,p5,p6,g0,g1,g2,g3,g4,g5,g6,hl0]) rfl ?_;rw[HR.o];refine⟨?_,?_⟩
     ·unfold cutV;simp only[Hb.o];rw[show k+(m-k)=m by omega,H5.o];rfl
     ·repeat (first | (with_reducible exact hb) | (with_reducible refine BSet ?_ (ybZ _)) | (with_reducible refine BSet ?_ hb.size) | (with_reducible refine BAlloc ?_))
  ·have hi:¬(m:Int)<(s.size:Int):=(by omega);have H3:(s.data.toList.drop k).takeWhile Lx.within=(s.data.toList.drop k).take (m-k):=(by have e:=HE.o;rw[yNZ (show s.data.toList.length<=m by rw[zhZ];omega)]at e;simpa using e);have HF:=zh H3;have Hg:k<m:=by
    rcases Nat.lt_or_ge k m with h | h
    ·exact h
    ·exfalso;have e:=HF.o;rw[zkZ s k hk,yFZ,if_pos (by simp[Lx.within,hl]),show m-k=0 from by omega]at e;simp at e
   have HR:=zh (zevZ (by omega) hm hm32 HF.o);have He:(m:Int)<=(s.size:Int):=(by omega);have Hh:(k:Int)<(s.size:Int):=(by omega);obtain⟨S,hS⟩:∃S:ByteArray,s.extract k m=S:=⟨_,rfl⟩;have hSd:S.data.toList=(s.data.toList.drop k).take (m-k):=(by rw[<-hS,zbsZ]);have H1:(⟨((s.data.toList.drop k).take (m-k)).toArray⟩:ByteArray)=S:=(by rw[<-hSd,zcoZ]);have H0:((s.data.toList.drop k).take (m-k)).head? =some (s[k]'hk):=(by rw[zkZ s k hk];obtain⟨j,hj⟩:∃j,m-k=j+1:=⟨m-k-1,by omega⟩;rw[hj,List.take_succ_cons];rfl);obtain⟨c,hc⟩:=zE (s[k]'hk);rw[hc]at H0;have Hf:Lx.nameKind ((s.data.toList.drop k).take (m-k))=if isWord S.data.toList then 3 else if Lx.great c then 2 else 1:=by unfold Lx.nameKind isWord;rw[H0,hSd,Option.map_some,Option.getD_some]
   have H5:=zh Hf;have HX:=zh (show isWord S.data.toList=true->Lx.great c=false from fun h=>ziwZ h (by rw[hSd];exact H0));have Hb:=zh H1;have Hd:=fun X=>zbpZ c X;have Hc:=fun X=>znvZ S X;obtain⟨wb,hwb⟩:=zE (isWord S.data.toList);obtain⟨gb,hgb⟩:=zE (Lx.great c);rw[hwb]at H5;rw[hgb]at H5;rw[hwb,hgb]at HX;obtain⟨⟨p0,p1,p2,p3,p4,p5,p6⟩,⟨g0,g1,g2,g3,g4,g5,g6⟩,hl0⟩:=zfZ H4.o;rw[hwb]at Hc;rw[hgb]at Hd;have H6:=H4.o;clear H3 Hf H0 hSd H1 hwb hgb HE HN;cases gb <;> cases wb
   all_goals try (exact absurd (HX.o rfl) (by decide))
   all_goals
    go_wp2_with (first
     | (go_at_call 165;refine(Hd _).mono ?_;rintro e w' ⟨rfl,H2⟩;rw[<-H2];clear H2)
     | (go_at_call 181;refine(Hc _).mono ?_;rintro e W5 ⟨rfl,Ha⟩;obtain⟨⟨a0,a1,a2,a3,a4,a5,a6⟩,⟨f0,f1,f2,f3,f4,f5,f6⟩,hl5⟩:=zfZ ((Ha.block _ (by simp;omega)).trans (heap_alloc H6 _));have hT5:=(Ha.block wr.heap.size (by simp)).trans (ydZ wr _);obtain⟨t0,t1,t2,t3⟩:=zgZ hT5;obtain⟨e0,e1,e2,e3⟩:=zqZ hT5;have Hi:=zaZ hT5;have H9:=Below.chain (BAlloc hb) Ha))
   ·refine ylZ (v:=.agg #[.int .i64 (k:Int),.int .i64 1,.string S,.int .i64 0,.int .i64 (m:Int),.int .i64 0,.int .i64 0]) (by simp[results, Tryz.results167,go_sem,a0,a1,a2,a3,a4,a5,a6,f0,f1,f2,f3,f4,f5,f6,hl5]) rfl ?_;rw[HR.o];refine⟨?_,?_⟩
    ·unfold cutV;simp only[Hb.o];rw[show k+(m-k)=m by omega,H5.o];rfl
    ·repeat (first | (with_reducible exact H9) | (with_reducible exact hb) | (with_reducible refine BSet ?_ (ybZ _)) | (with_reducible refine BSet ?_ hb.size) | (with_reducible refine BAlloc ?_))
   ·refine ylZ (v:=.agg #[.int .i64 (k:Int),.int .i64 3,.string S,.int .i64 0,.int .i64 (m:Int),.int .i64 0,.int .i64 0]) (by simp[results, Tryz.results167,go_sem,a0,a1,a2,a3,a4,a5,a6,f0,f1,f2,f3,f4,f5,f6,hl5]) rfl ?_;rw[HR.o];refine⟨?_,?_⟩
    ·unfold cutV;simp only[Hb.o];rw[show k+(m-k)=m by omega,H5.o];rfl
    ·repeat (first | (with_reducible exact H9) | (with_reducible exact hb) | (with_reducible refine BSet ?_ (ybZ _)) | (with_reducible refine BSet ?_ hb.size) | (with_reducible refine BAlloc ?_))
   ·refine ylZ (v:=.agg #[.int .i64 (k:Int),.int .i64 2,.string S,.int .i64 0,.int .i64 (m:Int),.int .i64 0,.int .i64 0]) (by simp[results, Tryz.results167,go_sem,p0,p1,p2,p3,p4,p5,p6,g0,g1,g2,g3,g4,g5,g6,hl0]) rfl ?_;rw[HR.o];refine⟨?_,?_⟩
    ·unfold cutV;simp only[Hb.o];rw[show k+(m-k)=m by omega,H5.o];rfl
    ·repeat (first | (with_reducible exact hb) | (with_reducible refine BSet ?_ (ybZ _)) | (with_reducible refine BSet ?_ hb.size) | (with_reducible refine BAlloc ?_))
end Go.Proofs.YtdncljdfmdgdaaaGreatDoor
