/-
  coilref1.One.
-/
import Derived.Test.YtdncljdfmdgdaaaGreatDoorM37
set_option linter.unusedSimpArgs false
set_option linter.unusedVariables false
set_option maxRecDepth 100000
set_option maxHeartbeats 4000000
namespace Go.Proofs.YtdncljdfmdgdaaaGreatDoor
open Go.RowKit
theorem zrbZ (w:World) (p k n:Int) (S:ByteArray) (hG:GL w) (hN:NG<=w.heap.size) (hs:S.size<=1000000) (hn0:-9223372036854775808<=n) (hn1:n<=9223372036854775807) (hk:k=1) :
  Calls Tryz.prog 122 #[.agg #[.int .i64 p,.int .i64 k,.string S,.int .i64 n]] w fun e w'=>e=.returned (.tuple #[.string S,.bool (Lx.nameOk ⟨p,k,S.data.toList,n⟩)])/\LW w w':=by
 have Hb:(S.size:Int)<=1000000:=by omega
 have H0:=LW.refl hG hN;go_enter Tryz.func122, Tryz.ntmps122;have hB:=ydZ w (.cells #[.int .i64 p,.int .i64 k,.string S,.int .i64 n] 133);have hW:=H0.alloc (.cells #[.int .i64 p,.int .i64 k,.string S,.int .i64 n] 133);obtain⟨b0,b1,b2,b3⟩:=zgZ hB;have HB:=zh hB;clear hB H0;have e1:(k==1)=true:=by simp;omega
 clear hk
 go_upto_block 0 with fail
 obtain⟨w2,hw2⟩:=zE (w.alloc (.cells #[.int .i64 p,.int .i64 k,.string S,.int .i64 n] 133));rw[hw2]at b0 b1 b2 b3 HB hW ⊢;have H8:w.heap.size<w2.heap.size:=zaZ HB.o;have HW:=zh hW;clear hw2 hW;have H6:=fun X=>zgrZ S X (by omega);go_upto_region 6 with(go_at_call 138;refine(H6 _).mono ?_;clear H6;rintro e W5 ⟨v5,rfl,H2,H5⟩);have H1:=zh (HW.o.go H5);have hB5:=(H5.block _ H8).trans HB.o;obtain⟨c0,c1,c2,c3⟩:=zgZ hB5;have Ha:=zaZ hB5;obtain⟨ts,hts⟩:=zE ((Lx.toks S.data.toList).1);obtain⟨o,ho⟩:=zE ((Lx.toks S.data.toList).2);rw[hts]at H2;rw[ho];have HT:=zh (show Lx.toks S.data.toList=(ts,o)from Prod.ext hts ho);obtain⟨A0,cap0,hv⟩:=H2.slice;subst hv;have HO:=zh H2;clear hts ho b0 b1 b2 b3 hB5 H2;rcases o with _ | ⟨y,x⟩
 ·rw[show whyR none=0 from rfl,show placeR none=0 from rfl];by_cases h1:ts.length=1
  ·obtain⟨x,hx⟩:=List.length_eq_one_iff.1 h1;subst hx;clear h1;rw[show([x]:List Lx.Tok).length=1 from rfl];have H4:=HO.o.toks;obtain⟨g,cur,fr,hA,hg,hcur⟩:=H4.at (m:=0) (by simp);subst hA;obtain⟨t0,t1,t2,t3⟩:=zgvZ hg hcur (m:=0) (by simp);have Hd:=zaZ hg;obtain⟨X,hX⟩:∃X:ByteArray,(⟨x.s.toArray⟩:ByteArray)=X:=⟨_,rfl⟩;have x1:W5.cell? ⟨g,1,none⟩=some (.int .i64 x.kind):=(by simpa using t1);have x2:W5.cell? ⟨g,2,none⟩=some (.string X):=(by rw[<-hX];simpa using t2);have H3:(X.toList==S.toList)=(x.s==S.data.toList):=by rw[<-hX,ByteArray.toList_mk,yebZ]
   have HR:=zh (show Lx.nameOk ⟨p,k,S.data.toList,n⟩=(x.kind==k&&(x.s==S.data.toList&&n==0))by
    unfold Lx.nameOk;simp only
    rw[HT.o])
   clear t0 t1 t2 t3 hg hcur H4 hX
   cases hk:(x.kind==k)with
   | false=>
    rw[hk]at HR;go_quiet (fail);go_wp2_with fail;refine ylZ (yDZ rfl _ _ _) rfl ?_;rw[HR.o];exact⟨rfl,H1.o.drewN _⟩
   | true=>
    cases hsx:(x.s==S.data.toList)with
    | false=>
     rw[hk,hsx]at HR;rw[hsx]at H3;clear hsx;go_quiet (fail);go_wp2_with fail;refine ylZ (yDZ rfl _ _ _) rfl ?_;rw[HR.o];exact⟨rfl,H1.o.drewN _⟩
    | true=>
     rw[hk,hsx]at HR;rw[hsx]at H3;clear hsx
     cases hn:(n==0)with
     | false=>
      rw[hn]at HR;go_quiet (fail);go_wp2_with fail;refine ylZ (yDZ rfl _ _ _) rfl ?_;rw[HR.o];exact⟨rfl,H1.o.drewN _⟩
     | true=>
      rw[hn]at HR;go_quiet (fail);go_wp2_with fail;refine ylZ (yDZ rfl _ _ _) rfl ?_;rw[HR.o];exact⟨rfl,H1.o.drewN _⟩
  ·have H9:((ts.length:Int)==1)=false:=by simp;omega
   have HR:=zh (show Lx.nameOk ⟨p,k,S.data.toList,n⟩=false by
    unfold Lx.nameOk;simp only;rw[HT.o]
    match ts,h1 with
    | [],_=>rfl
    | [a],h=>exact absurd rfl h
    | a::b::l,_=>rfl)
   clear h1;go_quiet (fail);go_wp2_with fail;refine ylZ (yDZ rfl _ _ _) rfl ?_;rw[HR.o];exact⟨rfl,H1.o.drewN _⟩
 ·rw[show whyR (some (y,x))=(y:Int)from rfl,show placeR (some (y,x))=(x:Int)from rfl];have H7:=Lx.toks_why HT.o;have Hc:((y:Int)==0)=false:=by simp;omega
  have HR:=zh (show Lx.nameOk ⟨p,k,S.data.toList,n⟩=false by
   unfold Lx.nameOk;simp only;rw[HT.o]
   match ts with
   | []=>rfl
   | [a]=>rfl
   | a::b::l=>rfl)
  clear H7;go_quiet (fail);go_wp2_with fail;refine ylZ (yDZ rfl _ _ _) rfl ?_;rw[HR.o];exact⟨rfl,H1.o.drewN _⟩
theorem zrcZ (w:World) (p k n:Int) (S:ByteArray) (hG:GL w) (hN:NG<=w.heap.size) (hs:S.size<=1000000) (hn0:-9223372036854775808<=n) (hn1:n<=9223372036854775807) (hk:k=2) :
  Calls Tryz.prog 122 #[.agg #[.int .i64 p,.int .i64 k,.string S,.int .i64 n]] w fun e w'=>e=.returned (.tuple #[.string S,.bool (Lx.nameOk ⟨p,k,S.data.toList,n⟩)])/\LW w w':=by
 have Hb:(S.size:Int)<=1000000:=by omega
 have H0:=LW.refl hG hN;go_enter Tryz.func122, Tryz.ntmps122;have hB:=ydZ w (.cells #[.int .i64 p,.int .i64 k,.string S,.int .i64 n] 133);have hW:=H0.alloc (.cells #[.int .i64 p,.int .i64 k,.string S,.int .i64 n] 133);obtain⟨b0,b1,b2,b3⟩:=zgZ hB;have HB:=zh hB;clear hB H0;have e1:(k==1)=false:=by simp;omega
 have e2:(k==2)=true:=by simp;omega
 clear hk
 go_upto_block 0 with fail
 obtain⟨w2,hw2⟩:=zE (w.alloc (.cells #[.int .i64 p,.int .i64 k,.string S,.int .i64 n] 133));rw[hw2]at b0 b1 b2 b3 HB hW ⊢;have H8:w.heap.size<w2.heap.size:=zaZ HB.o;have HW:=zh hW;clear hw2 hW;have H6:=fun X=>zgrZ S X (by omega);go_upto_region 6 with(go_at_call 138;refine(H6 _).mono ?_;clear H6;rintro e W5 ⟨v5,rfl,H2,H5⟩);have H1:=zh (HW.o.go H5);have hB5:=(H5.block _ H8).trans HB.o;obtain⟨c0,c1,c2,c3⟩:=zgZ hB5;have Ha:=zaZ hB5;obtain⟨ts,hts⟩:=zE ((Lx.toks S.data.toList).1);obtain⟨o,ho⟩:=zE ((Lx.toks S.data.toList).2);rw[hts]at H2;rw[ho];have HT:=zh (show Lx.toks S.data.toList=(ts,o)from Prod.ext hts ho);obtain⟨A0,cap0,hv⟩:=H2.slice;subst hv;have HO:=zh H2;clear hts ho b0 b1 b2 b3 hB5 H2;rcases o with _ | ⟨y,x⟩
 ·rw[show whyR none=0 from rfl,show placeR none=0 from rfl];by_cases h1:ts.length=1
  ·obtain⟨x,hx⟩:=List.length_eq_one_iff.1 h1;subst hx;clear h1;rw[show([x]:List Lx.Tok).length=1 from rfl];have H4:=HO.o.toks;obtain⟨g,cur,fr,hA,hg,hcur⟩:=H4.at (m:=0) (by simp);subst hA;obtain⟨t0,t1,t2,t3⟩:=zgvZ hg hcur (m:=0) (by simp);have Hd:=zaZ hg;obtain⟨X,hX⟩:∃X:ByteArray,(⟨x.s.toArray⟩:ByteArray)=X:=⟨_,rfl⟩;have x1:W5.cell? ⟨g,1,none⟩=some (.int .i64 x.kind):=(by simpa using t1);have x2:W5.cell? ⟨g,2,none⟩=some (.string X):=(by rw[<-hX];simpa using t2);have H3:(X.toList==S.toList)=(x.s==S.data.toList):=by rw[<-hX,ByteArray.toList_mk,yebZ]
   have HR:=zh (show Lx.nameOk ⟨p,k,S.data.toList,n⟩=(x.kind==k&&(x.s==S.data.toList&&n==0))by
    unfold Lx.nameOk;simp only
    rw[HT.o])
   clear t0 t1 t2 t3 hg hcur H4 hX
   cases hk:(x.kind==k)with
   | false=>
    rw[hk]at HR;go_quiet (fail);go_wp2_with fail;refine ylZ (yDZ rfl _ _ _) rfl ?_;rw[HR.o];exact⟨rfl,H1.o.drewN _⟩
   | true=>
    cases hsx:(x.s==S.data.toList)with
    | false=>
     rw[hk,hsx]at HR;rw[hsx]at H3;clear hsx;go_quiet (fail);go_wp2_with fail;refine ylZ (yDZ rfl _ _ _) rfl ?_;rw[HR.o];exact⟨rfl,H1.o.drewN _⟩
    | true=>
     rw[hk,hsx]at HR;rw[hsx]at H3;clear hsx
     cases hn:(n==0)with
     | false=>
      rw[hn]at HR;go_quiet (fail);go_wp2_with fail;refine ylZ (yDZ rfl _ _ _) rfl ?_;rw[HR.o];exact⟨rfl,H1.o.drewN _⟩
     | true=>
      rw[hn]at HR;go_quiet (fail);go_wp2_with fail;refine ylZ (yDZ rfl _ _ _) rfl ?_;rw[HR.o];exact⟨rfl,H1.o.drewN _⟩
  ·have H9:((ts.length:Int)==1)=false:=by simp;omega
   have HR:=zh (show Lx.nameOk ⟨p,k,S.data.toList,n⟩=false by
    unfold Lx.nameOk;simp only;rw[HT.o]
    match ts,h1 with
    | [],_=>rfl
    | [a],h=>exact absurd rfl h
    | a::b::l,_=>rfl)
   clear h1;go_quiet (fail);go_wp2_with fail;refine ylZ (yDZ rfl _ _ _) rfl ?_;rw[HR.o];exact⟨rfl,H1.o.drewN _⟩
 ·rw[show whyR (some (y,x))=(y:Int)from rfl,show placeR (some (y,x))=(x:Int)from rfl];have H7:=Lx.toks_why HT.o;have Hc:((y:Int)==0)=false:=by simp;omega
  have HR:=zh (show Lx.nameOk ⟨p,k,S.data.toList,n⟩=false by
   unfold Lx.nameOk;simp only;rw[HT.o]
   match ts with
   | []=>rfl
   | [a]=>rfl
   | a::b::l=>rfl)
  clear H7;go_quiet (fail);go_wp2_with fail;refine ylZ (yDZ rfl _ _ _) rfl ?_;rw[HR.o];exact⟨rfl,H1.o.drewN _⟩
theorem zrdZ (w:World) (p k n:Int) (S:ByteArray) (hG:GL w) (hN:NG<=w.heap.size) (hs:S.size<=1000000) (hn0:-9223372036854775808<=n) (hn1:n<=9223372036854775807) (hk:k=3) :
  Calls Tryz.prog 122 #[.agg #[.int .i64 p,.int .i64 k,.string S,.int .i64 n]] w fun e w'=>e=.returned (.tuple #[.string S,.bool (Lx.nameOk ⟨p,k,S.data.toList,n⟩)])/\LW w w':=by
 have Hb:(S.size:Int)<=1000000:=by omega
 have H0:=LW.refl hG hN;go_enter Tryz.func122, Tryz.ntmps122;have hB:=ydZ w (.cells #[.int .i64 p,.int .i64 k,.string S,.int .i64 n] 133);have hW:=H0.alloc (.cells #[.int .i64 p,.int .i64 k,.string S,.int .i64 n] 133);obtain⟨b0,b1,b2,b3⟩:=zgZ hB;have HB:=zh hB;clear hB H0;have e1:(k==1)=false:=by simp;omega
 have e2:(k==2)=false:=by simp;omega
 have e3:(k==3)=true:=by simp;omega
 clear hk
 go_upto_block 0 with fail
 obtain⟨w2,hw2⟩:=zE (w.alloc (.cells #[.int .i64 p,.int .i64 k,.string S,.int .i64 n] 133));rw[hw2]at b0 b1 b2 b3 HB hW ⊢;have H8:w.heap.size<w2.heap.size:=zaZ HB.o;have HW:=zh hW;clear hw2 hW;have H6:=fun X=>zgrZ S X (by omega);go_upto_region 6 with(go_at_call 138;refine(H6 _).mono ?_;clear H6;rintro e W5 ⟨v5,rfl,H2,H5⟩);have H1:=zh (HW.o.go H5);have hB5:=(H5.block _ H8).trans HB.o;obtain⟨c0,c1,c2,c3⟩:=zgZ hB5;have Ha:=zaZ hB5;obtain⟨ts,hts⟩:=zE ((Lx.toks S.data.toList).1);obtain⟨o,ho⟩:=zE ((Lx.toks S.data.toList).2);rw[hts]at H2;rw[ho];have HT:=zh (show Lx.toks S.data.toList=(ts,o)from Prod.ext hts ho);obtain⟨A0,cap0,hv⟩:=H2.slice;subst hv;have HO:=zh H2;clear hts ho b0 b1 b2 b3 hB5 H2;rcases o with _ | ⟨y,x⟩
 ·rw[show whyR none=0 from rfl,show placeR none=0 from rfl];by_cases h1:ts.length=1
  ·obtain⟨x,hx⟩:=List.length_eq_one_iff.1 h1;subst hx;clear h1;rw[show([x]:List Lx.Tok).length=1 from rfl];have H4:=HO.o.toks;obtain⟨g,cur,fr,hA,hg,hcur⟩:=H4.at (m:=0) (by simp);subst hA;obtain⟨t0,t1,t2,t3⟩:=zgvZ hg hcur (m:=0) (by simp);have Hd:=zaZ hg;obtain⟨X,hX⟩:∃X:ByteArray,(⟨x.s.toArray⟩:ByteArray)=X:=⟨_,rfl⟩;have x1:W5.cell? ⟨g,1,none⟩=some (.int .i64 x.kind):=(by simpa using t1);have x2:W5.cell? ⟨g,2,none⟩=some (.string X):=(by rw[<-hX];simpa using t2);have H3:(X.toList==S.toList)=(x.s==S.data.toList):=by rw[<-hX,ByteArray.toList_mk,yebZ]
   have HR:=zh (show Lx.nameOk ⟨p,k,S.data.toList,n⟩=(x.kind==k&&(x.s==S.data.toList&&n==0))by
    unfold Lx.nameOk;simp only
    rw[HT.o])
   clear t0 t1 t2 t3 hg hcur H4 hX
   cases hk:(x.kind==k)with
   | false=>
    rw[hk]at HR;go_quiet (fail);go_wp2_with fail;refine ylZ (yDZ rfl _ _ _) rfl ?_;rw[HR.o];exact⟨rfl,H1.o.drewN _⟩
   | true=>
    cases hsx:(x.s==S.data.toList)with
    | false=>
     rw[hk,hsx]at HR;rw[hsx]at H3;clear hsx;go_quiet (fail);go_wp2_with fail;refine ylZ (yDZ rfl _ _ _) rfl ?_;rw[HR.o];exact⟨rfl,H1.o.drewN _⟩
    | true=>
     rw[hk,hsx]at HR;rw[hsx]at H3;clear hsx
     cases hn:(n==0)with
     | false=>
      rw[hn]at HR;go_quiet (fail);go_wp2_with fail;refine ylZ (yDZ rfl _ _ _) rfl ?_;rw[HR.o];exact⟨rfl,H1.o.drewN _⟩
     | true=>
      rw[hn]at HR;go_quiet (fail);go_wp2_with fail;refine ylZ (yDZ rfl _ _ _) rfl ?_;rw[HR.o];exact⟨rfl,H1.o.drewN _⟩
  ·have H9:((ts.length:Int)==1)=false:=by simp;omega
   have HR:=zh (show Lx.nameOk ⟨p,k,S.data.toList,n⟩=false by
    unfold Lx.nameOk;simp only;rw[HT.o]
    match ts,h1 with
    | [],_=>rfl
    | [a],h=>exact absurd rfl h
    | a::b::l,_=>rfl)
   clear h1;go_quiet (fail);go_wp2_with fail;refine ylZ (yDZ rfl _ _ _) rfl ?_;rw[HR.o];exact⟨rfl,H1.o.drewN _⟩
 ·rw[show whyR (some (y,x))=(y:Int)from rfl,show placeR (some (y,x))=(x:Int)from rfl];have H7:=Lx.toks_why HT.o;have Hc:((y:Int)==0)=false:=by simp;omega
  have HR:=zh (show Lx.nameOk ⟨p,k,S.data.toList,n⟩=false by
   unfold Lx.nameOk;simp only;rw[HT.o]
   match ts with
   | []=>rfl
   | [a]=>rfl
   | a::b::l=>rfl)
  clear H7;go_quiet (fail);go_wp2_with fail;refine ylZ (yDZ rfl _ _ _) rfl ?_;rw[HR.o];exact⟨rfl,H1.o.drewN _⟩
theorem zwfZ (w:World) (p k n:Int) (S:ByteArray) (hG:GL w) (hN:NG<=w.heap.size) (hs:S.size<=1000000) (hn0:-9223372036854775808<=n) (hn1:n<=9223372036854775807) (hk:k=4) (hneg:n<0) :
  Calls Tryz.prog 122 #[.agg #[.int .i64 p,.int .i64 k,.string S,.int .i64 n]] w fun e w'=>e=.returned (.tuple #[.string ⟨(Lx.oneR ⟨p,k,S.data.toList,n⟩).1.toArray⟩,.bool (Lx.oneR ⟨p,k,S.data.toList,n⟩).2])/\LW w w':=by
 have H1:(S.size:Int)<=1000000:=by omega
 have H0:=LW.refl hG hN;go_enter Tryz.func122, Tryz.ntmps122;have hB:=ydZ w (.cells #[.int .i64 p,.int .i64 k,.string S,.int .i64 n] 133);have hW:=H0.alloc (.cells #[.int .i64 p,.int .i64 k,.string S,.int .i64 n] 133);obtain⟨b0,b1,b2,b3⟩:=zgZ hB;have HB:=zh hB;clear hB H0
 have HR:=zh (show Lx.oneR ⟨p,k,S.data.toList,n⟩=([],false)by
  unfold Lx.oneR;simp only
  rw[if_neg (by omega),if_pos hk,if_pos (.inl hneg)])
 have e1:(k==1)=false:=by simp;omega
 have e2:(k==2)=false:=by simp;omega
 have e3:(k==3)=false:=by simp;omega
 have e4:(k==4)=true:=by simp;omega
 clear hk
 go_upto_block 0 with fail
 obtain⟨w2,hw2⟩:=zE (w.alloc (.cells #[.int .i64 p,.int .i64 k,.string S,.int .i64 n] 133));rw[hw2]at b0 b1 b2 b3 HB hW ⊢;have H2:w.heap.size<w2.heap.size:=zaZ HB.o;have HW:=zh hW;clear hw2 hW;go_wp2_with fail;refine ylZ (yDZ rfl _ _ _) rfl ?_;rw[HR.o];exact⟨rfl,HW.o⟩
theorem zjkZ (w:World) (p k n:Int) (S:ByteArray) (hG:GL w) (hN:NG<=w.heap.size) (hs:S.size<=1000000) (hn0:-9223372036854775808<=n) (hn1:n<=9223372036854775807) (hk:k=4) (hneg:0<=n) (hS:S.data.toList≠[]) :
  Calls Tryz.prog 122 #[.agg #[.int .i64 p,.int .i64 k,.string S,.int .i64 n]] w fun e w'=>e=.returned (.tuple #[.string ⟨(Lx.oneR ⟨p,k,S.data.toList,n⟩).1.toArray⟩,.bool (Lx.oneR ⟨p,k,S.data.toList,n⟩).2])/\LW w w':=by
 have H2:(S.size:Int)<=1000000:=by omega
 have H0:=LW.refl hG hN;go_enter Tryz.func122, Tryz.ntmps122;have hB:=ydZ w (.cells #[.int .i64 p,.int .i64 k,.string S,.int .i64 n] 133);have hW:=H0.alloc (.cells #[.int .i64 p,.int .i64 k,.string S,.int .i64 n] 133);obtain⟨b0,b1,b2,b3⟩:=zgZ hB;have HB:=zh hB;clear hB H0
 have HR:=zh (show Lx.oneR ⟨p,k,S.data.toList,n⟩=([],false)by
  unfold Lx.oneR;simp only
  rw[if_neg (by omega),if_pos hk,if_pos (.inr hS)])
 have H1:S.toList.isEmpty=false:=by
  rw[yebZ]
  cases h:S.data.toList with
  | nil=>exact absurd h hS
  | cons a l=>rfl
 have e1:(k==1)=false:=by simp;omega
 have e2:(k==2)=false:=by simp;omega
 have e3:(k==3)=false:=by simp;omega
 have e4:(k==4)=true:=by simp;omega
 have H4:decide (n<0)=false:=by simpa using hneg
 clear hk hS
 go_upto_block 0 with fail
 obtain⟨w2,hw2⟩:=zE (w.alloc (.cells #[.int .i64 p,.int .i64 k,.string S,.int .i64 n] 133));rw[hw2]at b0 b1 b2 b3 HB hW ⊢;have H3:w.heap.size<w2.heap.size:=zaZ HB.o;have HW:=zh hW;clear hw2 hW;go_wp2_with fail;refine ylZ (yDZ rfl _ _ _) rfl ?_;rw[HR.o];exact⟨rfl,HW.o⟩
theorem zowZ (w:World) (p k n:Int) (S:ByteArray) (hG:GL w) (hN:NG<=w.heap.size) (hs:S.size<=1000000) (hn0:-9223372036854775808<=n) (hn1:n<=9223372036854775807) (hk:k=4) (N:Nat) (hN4:n=(N:Int)) (hS:S.data.toList=[]) :
  Calls Tryz.prog 122 #[.agg #[.int .i64 p,.int .i64 k,.string S,.int .i64 n]] w fun e w'=>e=.returned (.tuple #[.string ⟨(Lx.oneR ⟨p,k,S.data.toList,n⟩).1.toArray⟩,.bool (Lx.oneR ⟨p,k,S.data.toList,n⟩).2])/\LW w w':=by
 have H5:(S.size:Int)<=1000000:=by omega
 have H0:=LW.refl hG hN;go_enter Tryz.func122, Tryz.ntmps122;have hB:=ydZ w (.cells #[.int .i64 p,.int .i64 k,.string S,.int .i64 n] 133);have hW:=H0.alloc (.cells #[.int .i64 p,.int .i64 k,.string S,.int .i64 n] 133);obtain⟨b0,b1,b2,b3⟩:=zgZ hB;have HB:=zh hB;clear hB H0
 have HR:=zh (show Lx.oneR ⟨p,k,S.data.toList,n⟩=(Lib.decDigits N,true)by
  unfold Lx.oneR;simp only;rw[if_neg (by omega),if_pos hk,if_neg (by rintro(h | h);omega;exact h hS)]
  rw[show n.toNat=N by omega])
 have H2:S.toList.isEmpty=true:=by rw[yebZ,hS];rfl
 have e1:(k==1)=false:=by simp;omega
 have e2:(k==2)=false:=by simp;omega
 have e3:(k==3)=false:=by simp;omega
 have e4:(k==4)=true:=by simp;omega
 have H3:0<=n:=by omega
 have hNle:N<=9223372036854775807:=by omega
 have H4:=zh hN4;clear hk hS hN4
 go_upto_block 0 with fail
 obtain⟨w2,hw2⟩:=zE (w.alloc (.cells #[.int .i64 p,.int .i64 k,.string S,.int .i64 n] 133));rw[hw2]at b0 b1 b2 b3 HB hW ⊢;have H6:w.heap.size<w2.heap.size:=zaZ HB.o;have HW:=zh hW;clear hw2 hW;have H1:=zjwZ N w2 hNle HW.o.g HW.o.n;rw[<-H4.o]at H1;go_wp2_with (go_at_call 76;refine H1.mono ?_;clear H1;rintro e W5 ⟨rfl,h5⟩);refine ylZ (yDZ rfl _ _ _) rfl ?_;rw[HR.o];exact⟨rfl,HW.o.trans h5⟩
theorem ztyZ (w:World) (p k n:Int) (S:ByteArray) (hG:GL w) (hN:NG<=w.heap.size) (hs:S.size<=1000000) (hn0:-9223372036854775808<=n) (hn1:n<=9223372036854775807) (hk:k=5) :
  Calls Tryz.prog 122 #[.agg #[.int .i64 p,.int .i64 k,.string S,.int .i64 n]] w fun e w'=>e=.returned (.tuple #[.string ⟨(Lx.oneR ⟨p,k,S.data.toList,n⟩).1.toArray⟩,.bool (Lx.oneR ⟨p,k,S.data.toList,n⟩).2])/\LW w w':=by
 have H6:(S.size:Int)<=1000000:=by omega
 have H0:=LW.refl hG hN;go_enter Tryz.func122, Tryz.ntmps122;have hB:=ydZ w (.cells #[.int .i64 p,.int .i64 k,.string S,.int .i64 n] 133);have hW:=H0.alloc (.cells #[.int .i64 p,.int .i64 k,.string S,.int .i64 n] 133);obtain⟨b0,b1,b2,b3⟩:=zgZ hB;have HB:=zh hB;clear hB H0;have HK:=zh hk;have e1:(k==1)=false:=by simp;omega
 have e2:(k==2)=false:=by simp;omega
 have e3:(k==3)=false:=by simp;omega
 have e4:(k==4)=false:=by simp;omega
 have e5:(k==5)=true:=by simp;omega
 clear hk
 go_upto_block 0 with fail
 obtain⟨w2,hw2⟩:=zE (w.alloc (.cells #[.int .i64 p,.int .i64 k,.string S,.int .i64 n] 133));rw[hw2]at b0 b1 b2 b3 HB hW ⊢;have H7:w.heap.size<w2.heap.size:=zaZ HB.o;have HW:=zh hW;clear hw2 hW;go_wp2_with fail;go_loopg [7] (S.size) (fun i v wr=>∃m:Nat,i=S.size-m/\v=.int .i64 (m:Int)/\m<=S.size/\wr=w2/\(S.data.toList.take m).all Lx.saidB=true)
 case atStart=>exact⟨0,rfl,rfl,yxZ _,rfl,rfl⟩
 case round=>
  obtain⟨m,hi,rfl,hm,rfl,ha⟩:=hrel;have HI:=zh hi;have HA:=zh ha;clear hi ha;have m0:(0:Int)<=(m:Int):=(by omega);by_cases hlt:m<S.size
  ·have hi:(m:Int)<(S.size:Int):=(by omega);have H1:=zntZ (S[m]'hlt) wr;have HT:=zh (zexZ S m hlt)
   cases hb:Lx.saidB (S[m]'hlt)with
   | false=>
    rw[hb]at H1
    have HR:=zh (show Lx.oneR ⟨p,k,S.data.toList,n⟩=([],false)by
     unfold Lx.oneR;simp only;have h5:=HK.o;rw[if_neg (by omega),if_neg (by omega),if_pos h5,if_neg];intro H3;have H4:S[m]'hlt∈S.data.toList:=(by have h:=zkZ S m hlt;exact List.mem_of_mem_drop (i:=m) (by rw[h];exact ysZ ..));have:=yZZ.1 H3 _ H4;rw[hb]at this
     cases this)
    clear hb;go_wp2_with (go_at_call 123;refine H1.mono ?_;clear H1;rintro e w' ⟨rfl,H2⟩;rw[<-H2];clear H2);refine ylZ (yDZ rfl _ _ _) rfl ?_;rw[HR.o];exact⟨rfl,HW.o⟩
   | true=>
    rw[hb]at H1
    have H5:=zh (show(S.data.toList.take (m+1)).all Lx.saidB=true by
     rw[HT.o,List.all_append,HA.o]
     simp[hb])
    clear hb;go_wp2_with (go_at_call 123;refine H1.mono ?_;clear H1;rintro e w' ⟨rfl,H2⟩;rw[<-H2];clear H2);go_roundg (S.size-(m+1))
    case measure=>have:=HI.o;omega
    case rel=>exact⟨m+1,rfl,by simp,hlt,rfl,H5.o⟩
  ·have hi:¬(m:Int)<(S.size:Int):=by omega
   have HR:=zh (show Lx.oneR ⟨p,k,S.data.toList,n⟩=(Lx.quote S.data.toList,n==0)by
    unfold Lx.oneR;simp only;have h5:=HK.o;have h:=HA.o;rw[yjZ (by rw[zhZ];omega)]at h
    rw[if_neg (by omega),if_neg (by omega),if_pos h5,if_pos h])
   cases hn:(n==0)with
   | false=>
    rw[hn]at HR;go_wp2_with fail;go_quiet ((go_at_call 77;exact zicZ (zhuZ _ _ (by omega))));go_wp2_with fail
    refine ylZ (yDZ rfl _ _ _) rfl ?_;rw[HR.o];exact⟨rfl,HW.o.drewN _⟩
   | true=>
    rw[hn]at HR;go_wp2_with fail;go_quiet ((go_at_call 77;exact zicZ (zhuZ _ _ (by omega))));go_wp2_with fail
    refine ylZ (yDZ rfl _ _ _) rfl ?_;rw[HR.o];exact⟨rfl,HW.o.drewN _⟩
end Go.Proofs.YtdncljdfmdgdaaaGreatDoor
