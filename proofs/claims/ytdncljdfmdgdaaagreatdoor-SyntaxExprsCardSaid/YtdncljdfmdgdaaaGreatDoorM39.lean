/-
  Plain laws about a wrong place's reason.
-/
import Derived.Test.YtdncljdfmdgdaaaGreatDoorM1
import Derived.Test.YtdncljdfmdgdaaaGreatDoorM38
import Derived.Test.YtdncljdfmdgdaaaGreatDoorM34
import Derived.Test.YtdncljdfmdgdaaaGreatDoorM33
set_option linter.unusedSimpArgs false
set_option linter.unusedVariables false
set_option maxRecDepth 100000
set_option maxHeartbeats 4000000
namespace Go.Proofs.YtdncljdfmdgdaaaGreatDoor
open Go.RowKit
namespace Lx
theorem zpvZ:∀(f p i:Nat) (l:Bytes) (y x:Nat),(go f p i l).2=some (y,x)→y≠0
 | 0,_,_,_,y,x,h=>by simp[go]at h
 | f+1,p,i,l,y,x,h=>by
  rw[go]at h
  simp only at h
  split at h
  ·cases h
  ·rename_i b r hr
   split at h
   ·injection h with h;injection h with h1 h2;omega
   ·split at h
    ·injection h with h;injection h with h1 h2;omega
    ·split at h
     ·rename_i why x' hcut
      rw[hr]at hcut
      have:=cut_why hcut
      injection h with h;injection h with h1 h2
      omega
     ·exact zpvZ f _ _ _ y x h
theorem toks_why {l:Bytes} {ts:List Tok} {y x:Nat} (h:toks l=(ts,some (y,x))):y≠0:=by
 unfold toks at h
 split at h
 ·injection h with _ h;injection h with h;injection h with h1 h2;omega
 ·exact zpvZ _ _ _ _ y x (by rw[h])
end Lx
theorem zpwZ (w:World) (p k n:Int) (S:ByteArray) (hG:GL w) (hN:NG≤w.heap.size) (hs:S.size≤1000000) (hn0:-9223372036854775808≤n) (hn1:n≤9223372036854775807) (hk:k=1) :
  Calls Tryz.prog 122 #[.agg #[.int .i64 p,.int .i64 k,.string S,.int .i64 n]] w fun e w'=>e=.returned (.tuple #[.string S,.bool (Lx.nameOk ⟨p,k,S.data.toList,n⟩)])∧LW w w':=by
 have Ha:(S.size:Int)≤1000000:=by omega
 have H0:=LW.refl hG hN
 go_enter Tryz.func122, Tryz.ntmps122
 have hB:=heap_alloc_new w (.cells #[.int .i64 p,.int .i64 k,.string S,.int .i64 n] 133)
 have hW:=H0.alloc (.cells #[.int .i64 p,.int .i64 k,.string S,.int .i64 n] 133)
 obtain⟨b0,b1,b2,b3⟩:=zhZ hB
 have HB:=zh hB
 clear hB H0
 have e1:(k==1)=true:=by simp;omega
 clear hk
 go_upto_block 0 with fail
 obtain⟨w2,hw2⟩:=zE (w.alloc (.cells #[.int .i64 p,.int .i64 k,.string S,.int .i64 n] 133))
 rw[hw2]at b0 b1 b2 b3 HB hW ⊢
 have H7:w.heap.size<w2.heap.size:=zaZ HB.o
 have HW:=zh hW
 clear hw2 hW
 have H5:=fun X=>zfuZ S X (by omega)
 go_upto_region 6 with(go_at_call 138;refine(H5 _).mono ?_;clear H5;rintro e W5 ⟨v5,rfl,H2,H4⟩)
 have H1:=zh (HW.o.go H4)
 have hB5:=(H4.block _ H7).trans HB.o
 obtain⟨c0,c1,c2,c3⟩:=zhZ hB5
 have Hc:=zaZ hB5
 obtain⟨ts,hts⟩:=zE ((Lx.toks S.data.toList).1)
 obtain⟨o,ho⟩:=zE ((Lx.toks S.data.toList).2)
 rw[hts]at H2
 rw[ho]
 have HT:=zh (show Lx.toks S.data.toList=(ts,o)from Prod.ext hts ho)
 obtain⟨A0,cap0,hv⟩:=H2.slice
 subst hv
 have HO:=zh H2
 clear hts ho b0 b1 b2 b3 hB5 H2
 rcases o with _ | ⟨y,x⟩
 ·rw[show whyR none=0 from rfl,show placeR none=0 from rfl]
  by_cases h1:ts.length=1
  ·obtain⟨x,hx⟩:=List.length_eq_one_iff.1 h1
   subst hx
   clear h1
   rw[show([x]:List Lx.Tok).length=1 from rfl]
   have H6:=HO.o.toks
   obtain⟨g,cur,fr,hA,hg,hcur⟩:=H6.at (m:=0) (by simp)
   subst hA
   obtain⟨t0,t1,t2,t3⟩:=zfwZ hg hcur (m:=0) (by simp)
   have Hb:=zaZ hg
   obtain⟨X,hX⟩:∃X:ByteArray,(⟨x.s.toArray⟩:ByteArray)=X:=⟨_,rfl⟩
   have x1:W5.cell? ⟨g,1,none⟩=some (.int .i64 x.kind):=by simpa using t1
   have x2:W5.cell? ⟨g,2,none⟩=some (.string X):=by rw[←hX];simpa using t2
   have H3:(X.toList==S.toList)=(x.s==S.data.toList):=by rw[←hX,ByteArray.toList_mk,ByteArray.toList_eq]
   have HR:=zh (show Lx.nameOk ⟨p,k,S.data.toList,n⟩=(x.kind==k&&(x.s==S.data.toList&&n==0))by
    unfold Lx.nameOk
    simp only
    rw[HT.o])
   clear t0 t1 t2 t3 hg hcur H6 hX
   cases hk:(x.kind==k)with
   | false=>
    rw[hk]at HR
    go_quiet (fail)
    go_wp2_with fail
    refine bodyPost_ret (results_tmp2 rfl _ _ _) rfl ?_
    rw[HR.o]
    exact⟨rfl,H1.o.drewN _⟩
   | true=>
    cases hsx:(x.s==S.data.toList)with
    | false=>
     rw[hk,hsx]at HR
     rw[hsx]at H3
     clear hsx
     go_quiet (fail)
     go_wp2_with fail
     refine bodyPost_ret (results_tmp2 rfl _ _ _) rfl ?_
     rw[HR.o]
     exact⟨rfl,H1.o.drewN _⟩
    | true=>
     rw[hk,hsx]at HR
     rw[hsx]at H3
     clear hsx
     cases hn:(n==0)with
     | false=>
      rw[hn]at HR
      go_quiet (fail)
      go_wp2_with fail
      refine bodyPost_ret (results_tmp2 rfl _ _ _) rfl ?_
      rw[HR.o]
      exact⟨rfl,H1.o.drewN _⟩
     | true=>
      rw[hn]at HR
      go_quiet (fail)
      go_wp2_with fail
      refine bodyPost_ret (results_tmp2 rfl _ _ _) rfl ?_
      rw[HR.o]
      exact⟨rfl,H1.o.drewN _⟩
  ·have H9:((ts.length:Int)==1)=false:=by simp;omega
   have HR:=zh (show Lx.nameOk ⟨p,k,S.data.toList,n⟩=false by
    unfold Lx.nameOk
    simp only
    rw[HT.o]
    match ts,h1 with
    | [],_=>rfl
    | [a],h=>exact absurd rfl h
    | a::b::l,_=>rfl)
   clear h1
   go_quiet (fail)
   go_wp2_with fail
   refine bodyPost_ret (results_tmp2 rfl _ _ _) rfl ?_
   rw[HR.o]
   exact⟨rfl,H1.o.drewN _⟩
 ·rw[show whyR (some (y,x))=(y:Int)from rfl,show placeR (some (y,x))=(x:Int)from rfl]
  have H8:=Lx.toks_why HT.o
  have Hd:((y:Int)==0)=false:=by simp;omega
  have HR:=zh (show Lx.nameOk ⟨p,k,S.data.toList,n⟩=false by
   unfold Lx.nameOk
   simp only
   rw[HT.o]
   match ts with
   | []=>rfl
   | [a]=>rfl
   | a::b::l=>rfl)
  clear H8
  go_quiet (fail)
  go_wp2_with fail
  refine bodyPost_ret (results_tmp2 rfl _ _ _) rfl ?_
  rw[HR.o]
  exact⟨rfl,H1.o.drewN _⟩
theorem zpxZ (w:World) (p k n:Int) (S:ByteArray) (hG:GL w) (hN:NG≤w.heap.size) (hs:S.size≤1000000) (hn0:-9223372036854775808≤n) (hn1:n≤9223372036854775807) (hk:k=2) :
  Calls Tryz.prog 122 #[.agg #[.int .i64 p,.int .i64 k,.string S,.int .i64 n]] w fun e w'=>e=.returned (.tuple #[.string S,.bool (Lx.nameOk ⟨p,k,S.data.toList,n⟩)])∧LW w w':=by
 have Ha:(S.size:Int)≤1000000:=by omega
 have H0:=LW.refl hG hN
 go_enter Tryz.func122, Tryz.ntmps122
 have hB:=heap_alloc_new w (.cells #[.int .i64 p,.int .i64 k,.string S,.int .i64 n] 133)
 have hW:=H0.alloc (.cells #[.int .i64 p,.int .i64 k,.string S,.int .i64 n] 133)
 obtain⟨b0,b1,b2,b3⟩:=zhZ hB
 have HB:=zh hB
 clear hB H0
 have e1:(k==1)=false:=by simp;omega
 have e2:(k==2)=true:=by simp;omega
 clear hk
 go_upto_block 0 with fail
 obtain⟨w2,hw2⟩:=zE (w.alloc (.cells #[.int .i64 p,.int .i64 k,.string S,.int .i64 n] 133))
 rw[hw2]at b0 b1 b2 b3 HB hW ⊢
 have H7:w.heap.size<w2.heap.size:=zaZ HB.o
 have HW:=zh hW
 clear hw2 hW
 have H5:=fun X=>zfuZ S X (by omega)
 go_upto_region 6 with(go_at_call 138;refine(H5 _).mono ?_;clear H5;rintro e W5 ⟨v5,rfl,H2,H4⟩)
 have H1:=zh (HW.o.go H4)
 have hB5:=(H4.block _ H7).trans HB.o
 obtain⟨c0,c1,c2,c3⟩:=zhZ hB5
 have Hc:=zaZ hB5
 obtain⟨ts,hts⟩:=zE ((Lx.toks S.data.toList).1)
 obtain⟨o,ho⟩:=zE ((Lx.toks S.data.toList).2)
 rw[hts]at H2
 rw[ho]
 have HT:=zh (show Lx.toks S.data.toList=(ts,o)from Prod.ext hts ho)
 obtain⟨A0,cap0,hv⟩:=H2.slice
 subst hv
 have HO:=zh H2
 clear hts ho b0 b1 b2 b3 hB5 H2
 rcases o with _ | ⟨y,x⟩
 ·rw[show whyR none=0 from rfl,show placeR none=0 from rfl]
  by_cases h1:ts.length=1
  ·obtain⟨x,hx⟩:=List.length_eq_one_iff.1 h1
   subst hx
   clear h1
   rw[show([x]:List Lx.Tok).length=1 from rfl]
   have H6:=HO.o.toks
   obtain⟨g,cur,fr,hA,hg,hcur⟩:=H6.at (m:=0) (by simp)
   subst hA
   obtain⟨t0,t1,t2,t3⟩:=zfwZ hg hcur (m:=0) (by simp)
   have Hb:=zaZ hg
   obtain⟨X,hX⟩:∃X:ByteArray,(⟨x.s.toArray⟩:ByteArray)=X:=⟨_,rfl⟩
   have x1:W5.cell? ⟨g,1,none⟩=some (.int .i64 x.kind):=by simpa using t1
   have x2:W5.cell? ⟨g,2,none⟩=some (.string X):=by rw[←hX];simpa using t2
   have H3:(X.toList==S.toList)=(x.s==S.data.toList):=by rw[←hX,ByteArray.toList_mk,ByteArray.toList_eq]
   have HR:=zh (show Lx.nameOk ⟨p,k,S.data.toList,n⟩=(x.kind==k&&(x.s==S.data.toList&&n==0))by
    unfold Lx.nameOk
    simp only
    rw[HT.o])
   clear t0 t1 t2 t3 hg hcur H6 hX
   cases hk:(x.kind==k)with
   | false=>
    rw[hk]at HR
    go_quiet (fail)
    go_wp2_with fail
    refine bodyPost_ret (results_tmp2 rfl _ _ _) rfl ?_
    rw[HR.o]
    exact⟨rfl,H1.o.drewN _⟩
   | true=>
    cases hsx:(x.s==S.data.toList)with
    | false=>
     rw[hk,hsx]at HR
     rw[hsx]at H3
     clear hsx
     go_quiet (fail)
     go_wp2_with fail
     refine bodyPost_ret (results_tmp2 rfl _ _ _) rfl ?_
     rw[HR.o]
     exact⟨rfl,H1.o.drewN _⟩
    | true=>
     rw[hk,hsx]at HR
     rw[hsx]at H3
     clear hsx
     cases hn:(n==0)with
     | false=>
      rw[hn]at HR
      go_quiet (fail)
      go_wp2_with fail
      refine bodyPost_ret (results_tmp2 rfl _ _ _) rfl ?_
      rw[HR.o]
      exact⟨rfl,H1.o.drewN _⟩
     | true=>
      rw[hn]at HR
      go_quiet (fail)
      go_wp2_with fail
      refine bodyPost_ret (results_tmp2 rfl _ _ _) rfl ?_
      rw[HR.o]
      exact⟨rfl,H1.o.drewN _⟩
  ·have H9:((ts.length:Int)==1)=false:=by simp;omega
   have HR:=zh (show Lx.nameOk ⟨p,k,S.data.toList,n⟩=false by
    unfold Lx.nameOk
    simp only
    rw[HT.o]
    match ts,h1 with
    | [],_=>rfl
    | [a],h=>exact absurd rfl h
    | a::b::l,_=>rfl)
   clear h1
   go_quiet (fail)
   go_wp2_with fail
   refine bodyPost_ret (results_tmp2 rfl _ _ _) rfl ?_
   rw[HR.o]
   exact⟨rfl,H1.o.drewN _⟩
 ·rw[show whyR (some (y,x))=(y:Int)from rfl,show placeR (some (y,x))=(x:Int)from rfl]
  have H8:=Lx.toks_why HT.o
  have Hd:((y:Int)==0)=false:=by simp;omega
  have HR:=zh (show Lx.nameOk ⟨p,k,S.data.toList,n⟩=false by
   unfold Lx.nameOk
   simp only
   rw[HT.o]
   match ts with
   | []=>rfl
   | [a]=>rfl
   | a::b::l=>rfl)
  clear H8
  go_quiet (fail)
  go_wp2_with fail
  refine bodyPost_ret (results_tmp2 rfl _ _ _) rfl ?_
  rw[HR.o]
  exact⟨rfl,H1.o.drewN _⟩
theorem zpyZ (w:World) (p k n:Int) (S:ByteArray) (hG:GL w) (hN:NG≤w.heap.size) (hs:S.size≤1000000) (hn0:-9223372036854775808≤n) (hn1:n≤9223372036854775807) (hk:k=3) :
  Calls Tryz.prog 122 #[.agg #[.int .i64 p,.int .i64 k,.string S,.int .i64 n]] w fun e w'=>e=.returned (.tuple #[.string S,.bool (Lx.nameOk ⟨p,k,S.data.toList,n⟩)])∧LW w w':=by
 have Ha:(S.size:Int)≤1000000:=by omega
 have H0:=LW.refl hG hN
 go_enter Tryz.func122, Tryz.ntmps122
 have hB:=heap_alloc_new w (.cells #[.int .i64 p,.int .i64 k,.string S,.int .i64 n] 133)
 have hW:=H0.alloc (.cells #[.int .i64 p,.int .i64 k,.string S,.int .i64 n] 133)
 obtain⟨b0,b1,b2,b3⟩:=zhZ hB
 have HB:=zh hB
 clear hB H0
 have e1:(k==1)=false:=by simp;omega
 have e2:(k==2)=false:=by simp;omega
 have e3:(k==3)=true:=by simp;omega
 clear hk
 go_upto_block 0 with fail
 obtain⟨w2,hw2⟩:=zE (w.alloc (.cells #[.int .i64 p,.int .i64 k,.string S,.int .i64 n] 133))
 rw[hw2]at b0 b1 b2 b3 HB hW ⊢
 have H7:w.heap.size<w2.heap.size:=zaZ HB.o
 have HW:=zh hW
 clear hw2 hW
 have H5:=fun X=>zfuZ S X (by omega)
 go_upto_region 6 with(go_at_call 138;refine(H5 _).mono ?_;clear H5;rintro e W5 ⟨v5,rfl,H2,H4⟩)
 have H1:=zh (HW.o.go H4)
 have hB5:=(H4.block _ H7).trans HB.o
 obtain⟨c0,c1,c2,c3⟩:=zhZ hB5
 have Hc:=zaZ hB5
 obtain⟨ts,hts⟩:=zE ((Lx.toks S.data.toList).1)
 obtain⟨o,ho⟩:=zE ((Lx.toks S.data.toList).2)
 rw[hts]at H2
 rw[ho]
 have HT:=zh (show Lx.toks S.data.toList=(ts,o)from Prod.ext hts ho)
 obtain⟨A0,cap0,hv⟩:=H2.slice
 subst hv
 have HO:=zh H2
 clear hts ho b0 b1 b2 b3 hB5 H2
 rcases o with _ | ⟨y,x⟩
 ·rw[show whyR none=0 from rfl,show placeR none=0 from rfl]
  by_cases h1:ts.length=1
  ·obtain⟨x,hx⟩:=List.length_eq_one_iff.1 h1
   subst hx
   clear h1
   rw[show([x]:List Lx.Tok).length=1 from rfl]
   have H6:=HO.o.toks
   obtain⟨g,cur,fr,hA,hg,hcur⟩:=H6.at (m:=0) (by simp)
   subst hA
   obtain⟨t0,t1,t2,t3⟩:=zfwZ hg hcur (m:=0) (by simp)
   have Hb:=zaZ hg
   obtain⟨X,hX⟩:∃X:ByteArray,(⟨x.s.toArray⟩:ByteArray)=X:=⟨_,rfl⟩
   have x1:W5.cell? ⟨g,1,none⟩=some (.int .i64 x.kind):=by simpa using t1
   have x2:W5.cell? ⟨g,2,none⟩=some (.string X):=by rw[←hX];simpa using t2
   have H3:(X.toList==S.toList)=(x.s==S.data.toList):=by rw[←hX,ByteArray.toList_mk,ByteArray.toList_eq]
   have HR:=zh (show Lx.nameOk ⟨p,k,S.data.toList,n⟩=(x.kind==k&&(x.s==S.data.toList&&n==0))by
    unfold Lx.nameOk
    simp only
    rw[HT.o])
   clear t0 t1 t2 t3 hg hcur H6 hX
   cases hk:(x.kind==k)with
   | false=>
    rw[hk]at HR
    go_quiet (fail)
    go_wp2_with fail
    refine bodyPost_ret (results_tmp2 rfl _ _ _) rfl ?_
    rw[HR.o]
    exact⟨rfl,H1.o.drewN _⟩
   | true=>
    cases hsx:(x.s==S.data.toList)with
    | false=>
     rw[hk,hsx]at HR
     rw[hsx]at H3
     clear hsx
     go_quiet (fail)
     go_wp2_with fail
     refine bodyPost_ret (results_tmp2 rfl _ _ _) rfl ?_
     rw[HR.o]
     exact⟨rfl,H1.o.drewN _⟩
    | true=>
     rw[hk,hsx]at HR
     rw[hsx]at H3
     clear hsx
     cases hn:(n==0)with
     | false=>
      rw[hn]at HR
      go_quiet (fail)
      go_wp2_with fail
      refine bodyPost_ret (results_tmp2 rfl _ _ _) rfl ?_
      rw[HR.o]
      exact⟨rfl,H1.o.drewN _⟩
     | true=>
      rw[hn]at HR
      go_quiet (fail)
      go_wp2_with fail
      refine bodyPost_ret (results_tmp2 rfl _ _ _) rfl ?_
      rw[HR.o]
      exact⟨rfl,H1.o.drewN _⟩
  ·have H9:((ts.length:Int)==1)=false:=by simp;omega
   have HR:=zh (show Lx.nameOk ⟨p,k,S.data.toList,n⟩=false by
    unfold Lx.nameOk
    simp only
    rw[HT.o]
    match ts,h1 with
    | [],_=>rfl
    | [a],h=>exact absurd rfl h
    | a::b::l,_=>rfl)
   clear h1
   go_quiet (fail)
   go_wp2_with fail
   refine bodyPost_ret (results_tmp2 rfl _ _ _) rfl ?_
   rw[HR.o]
   exact⟨rfl,H1.o.drewN _⟩
 ·rw[show whyR (some (y,x))=(y:Int)from rfl,show placeR (some (y,x))=(x:Int)from rfl]
  have H8:=Lx.toks_why HT.o
  have Hd:((y:Int)==0)=false:=by simp;omega
  have HR:=zh (show Lx.nameOk ⟨p,k,S.data.toList,n⟩=false by
   unfold Lx.nameOk
   simp only
   rw[HT.o]
   match ts with
   | []=>rfl
   | [a]=>rfl
   | a::b::l=>rfl)
  clear H8
  go_quiet (fail)
  go_wp2_with fail
  refine bodyPost_ret (results_tmp2 rfl _ _ _) rfl ?_
  rw[HR.o]
  exact⟨rfl,H1.o.drewN _⟩
theorem zusZ (w:World) (p k n:Int) (S:ByteArray) (hG:GL w) (hN:NG≤w.heap.size) (hs:S.size≤1000000) (hn0:-9223372036854775808≤n) (hn1:n≤9223372036854775807) (hk:k=4) (hneg:n<0) :
  Calls Tryz.prog 122 #[.agg #[.int .i64 p,.int .i64 k,.string S,.int .i64 n]] w fun e w'=>e=.returned (.tuple #[.string ⟨(Lx.oneR ⟨p,k,S.data.toList,n⟩).1.toArray⟩,.bool (Lx.oneR ⟨p,k,S.data.toList,n⟩).2])∧LW w w':=by
 have H1:(S.size:Int)≤1000000:=by omega
 have H0:=LW.refl hG hN
 go_enter Tryz.func122, Tryz.ntmps122
 have hB:=heap_alloc_new w (.cells #[.int .i64 p,.int .i64 k,.string S,.int .i64 n] 133)
 have hW:=H0.alloc (.cells #[.int .i64 p,.int .i64 k,.string S,.int .i64 n] 133)
 obtain⟨b0,b1,b2,b3⟩:=zhZ hB
 have HB:=zh hB
 clear hB H0
 have HR:=zh (show Lx.oneR ⟨p,k,S.data.toList,n⟩=([],false)by
  unfold Lx.oneR
  simp only
  rw[if_neg (by omega),if_pos hk,if_pos (.inl hneg)])
 have e1:(k==1)=false:=by simp;omega
 have e2:(k==2)=false:=by simp;omega
 have e3:(k==3)=false:=by simp;omega
 have e4:(k==4)=true:=by simp;omega
 clear hk
 go_upto_block 0 with fail
 obtain⟨w2,hw2⟩:=zE (w.alloc (.cells #[.int .i64 p,.int .i64 k,.string S,.int .i64 n] 133))
 rw[hw2]at b0 b1 b2 b3 HB hW ⊢
 have H2:w.heap.size<w2.heap.size:=zaZ HB.o
 have HW:=zh hW
 clear hw2 hW
 go_wp2_with fail
 refine bodyPost_ret (results_tmp2 rfl _ _ _) rfl ?_
 rw[HR.o]
 exact⟨rfl,HW.o⟩
theorem zieZ (w:World) (p k n:Int) (S:ByteArray) (hG:GL w) (hN:NG≤w.heap.size) (hs:S.size≤1000000) (hn0:-9223372036854775808≤n) (hn1:n≤9223372036854775807) (hk:k=4) (hneg:0≤n) (hS:S.data.toList≠[]) :
  Calls Tryz.prog 122 #[.agg #[.int .i64 p,.int .i64 k,.string S,.int .i64 n]] w fun e w'=>e=.returned (.tuple #[.string ⟨(Lx.oneR ⟨p,k,S.data.toList,n⟩).1.toArray⟩,.bool (Lx.oneR ⟨p,k,S.data.toList,n⟩).2])∧LW w w':=by
 have H2:(S.size:Int)≤1000000:=by omega
 have H0:=LW.refl hG hN
 go_enter Tryz.func122, Tryz.ntmps122
 have hB:=heap_alloc_new w (.cells #[.int .i64 p,.int .i64 k,.string S,.int .i64 n] 133)
 have hW:=H0.alloc (.cells #[.int .i64 p,.int .i64 k,.string S,.int .i64 n] 133)
 obtain⟨b0,b1,b2,b3⟩:=zhZ hB
 have HB:=zh hB
 clear hB H0
 have HR:=zh (show Lx.oneR ⟨p,k,S.data.toList,n⟩=([],false)by
  unfold Lx.oneR
  simp only
  rw[if_neg (by omega),if_pos hk,if_pos (.inr hS)])
 have H1:S.toList.isEmpty=false:=by
  rw[ByteArray.toList_eq]
  cases h:S.data.toList with
  | nil=>exact absurd h hS
  | cons a l=>rfl
 have e1:(k==1)=false:=by simp;omega
 have e2:(k==2)=false:=by simp;omega
 have e3:(k==3)=false:=by simp;omega
 have e4:(k==4)=true:=by simp;omega
 have H3:decide (n<0)=false:=by simpa using hneg
 clear hk hS
 go_upto_block 0 with fail
 obtain⟨w2,hw2⟩:=zE (w.alloc (.cells #[.int .i64 p,.int .i64 k,.string S,.int .i64 n] 133))
 rw[hw2]at b0 b1 b2 b3 HB hW ⊢
 have H4:w.heap.size<w2.heap.size:=zaZ HB.o
 have HW:=zh hW
 clear hw2 hW
 go_wp2_with fail
 refine bodyPost_ret (results_tmp2 rfl _ _ _) rfl ?_
 rw[HR.o]
 exact⟨rfl,HW.o⟩
theorem znrZ (w:World) (p k n:Int) (S:ByteArray) (hG:GL w) (hN:NG≤w.heap.size) (hs:S.size≤1000000) (hn0:-9223372036854775808≤n) (hn1:n≤9223372036854775807) (hk:k=4) (N:Nat) (hN4:n=(N:Int)) (hS:S.data.toList=[]) :
  Calls Tryz.prog 122 #[.agg #[.int .i64 p,.int .i64 k,.string S,.int .i64 n]] w fun e w'=>e=.returned (.tuple #[.string ⟨(Lx.oneR ⟨p,k,S.data.toList,n⟩).1.toArray⟩,.bool (Lx.oneR ⟨p,k,S.data.toList,n⟩).2])∧LW w w':=by
 have H5:(S.size:Int)≤1000000:=by omega
 have H0:=LW.refl hG hN
 go_enter Tryz.func122, Tryz.ntmps122
 have hB:=heap_alloc_new w (.cells #[.int .i64 p,.int .i64 k,.string S,.int .i64 n] 133)
 have hW:=H0.alloc (.cells #[.int .i64 p,.int .i64 k,.string S,.int .i64 n] 133)
 obtain⟨b0,b1,b2,b3⟩:=zhZ hB
 have HB:=zh hB
 clear hB H0
 have HR:=zh (show Lx.oneR ⟨p,k,S.data.toList,n⟩=(Lib.decDigits N,true)by
  unfold Lx.oneR
  simp only
  rw[if_neg (by omega),if_pos hk,if_neg (by rintro(h | h);omega;exact h hS)]
  rw[show n.toNat=N by omega])
 have H2:S.toList.isEmpty=true:=by
  rw[ByteArray.toList_eq,hS]
  rfl
 have e1:(k==1)=false:=by simp;omega
 have e2:(k==2)=false:=by simp;omega
 have e3:(k==3)=false:=by simp;omega
 have e4:(k==4)=true:=by simp;omega
 have H4:0≤n:=by omega
 have hNle:N≤9223372036854775807:=by omega
 have H3:=zh hN4
 clear hk hS hN4
 go_upto_block 0 with fail
 obtain⟨w2,hw2⟩:=zE (w.alloc (.cells #[.int .i64 p,.int .i64 k,.string S,.int .i64 n] 133))
 rw[hw2]at b0 b1 b2 b3 HB hW ⊢
 have H6:w.heap.size<w2.heap.size:=zaZ HB.o
 have HW:=zh hW
 clear hw2 hW
 have H1:=zirZ N w2 hNle HW.o.g HW.o.n
 rw[←H3.o]at H1
 go_wp2_with (go_at_call 76;refine H1.mono ?_;clear H1;rintro e W5 ⟨rfl,h5⟩)
 refine bodyPost_ret (results_tmp2 rfl _ _ _) rfl ?_
 rw[HR.o]
 exact⟨rfl,HW.o.trans h5⟩
theorem zspZ (w:World) (p k n:Int) (S:ByteArray) (hG:GL w) (hN:NG≤w.heap.size) (hs:S.size≤1000000) (hn0:-9223372036854775808≤n) (hn1:n≤9223372036854775807) (hk:k=5) :
  Calls Tryz.prog 122 #[.agg #[.int .i64 p,.int .i64 k,.string S,.int .i64 n]] w fun e w'=>e=.returned (.tuple #[.string ⟨(Lx.oneR ⟨p,k,S.data.toList,n⟩).1.toArray⟩,.bool (Lx.oneR ⟨p,k,S.data.toList,n⟩).2])∧LW w w':=by
 have H6:(S.size:Int)≤1000000:=by omega
 have H0:=LW.refl hG hN
 go_enter Tryz.func122, Tryz.ntmps122
 have hB:=heap_alloc_new w (.cells #[.int .i64 p,.int .i64 k,.string S,.int .i64 n] 133)
 have hW:=H0.alloc (.cells #[.int .i64 p,.int .i64 k,.string S,.int .i64 n] 133)
 obtain⟨b0,b1,b2,b3⟩:=zhZ hB
 have HB:=zh hB
 clear hB H0
 have HK:=zh hk
 have e1:(k==1)=false:=by simp;omega
 have e2:(k==2)=false:=by simp;omega
 have e3:(k==3)=false:=by simp;omega
 have e4:(k==4)=false:=by simp;omega
 have e5:(k==5)=true:=by simp;omega
 clear hk
 go_upto_block 0 with fail
 obtain⟨w2,hw2⟩:=zE (w.alloc (.cells #[.int .i64 p,.int .i64 k,.string S,.int .i64 n] 133))
 rw[hw2]at b0 b1 b2 b3 HB hW ⊢
 have H7:w.heap.size<w2.heap.size:=zaZ HB.o
 have HW:=zh hW
 clear hw2 hW
 go_wp2_with fail
 go_loopg [7] (S.size) (fun i v wr=>∃m:Nat,i=S.size-m∧v=.int .i64 (m:Int)∧m≤S.size∧wr=w2∧(S.data.toList.take m).all Lx.saidB=true)
 case atStart=>exact⟨0,rfl,rfl,Nat.zero_le _,rfl,rfl⟩
 case round=>
  obtain⟨m,hi,rfl,hm,rfl,ha⟩:=hrel
  have HI:=zh hi
  have HA:=zh ha
  clear hi ha
  have m0:(0:Int)≤(m:Int):=by omega
  by_cases hlt:m<S.size
  ·have hi:(m:Int)<(S.size:Int):=by omega
   have H1:=zmpZ (S[m]'hlt) wr
   have HT:=zh (zekZ S m hlt)
   cases hb:Lx.saidB (S[m]'hlt)with
   | false=>
    rw[hb]at H1
    have HR:=zh (show Lx.oneR ⟨p,k,S.data.toList,n⟩=([],false)by
     unfold Lx.oneR
     simp only
     have h5:=HK.o
     rw[if_neg (by omega),if_neg (by omega),if_pos h5,if_neg]
     intro H3
     have H4:S[m]'hlt∈S.data.toList:=by
      have h:=zlZ S m hlt
      exact List.mem_of_mem_drop (i:=m) (by rw[h];exact List.mem_cons_self ..)
     have:=List.all_eq_true.1 H3 _ H4
     rw[hb]at this
     cases this)
    clear hb
    go_wp2_with (go_at_call 123;refine H1.mono ?_;clear H1;rintro e w' ⟨rfl,H2⟩;rw[←H2];clear H2)
    refine bodyPost_ret (results_tmp2 rfl _ _ _) rfl ?_
    rw[HR.o]
    exact⟨rfl,HW.o⟩
   | true=>
    rw[hb]at H1
    have H5:=zh (show(S.data.toList.take (m+1)).all Lx.saidB=true by
     rw[HT.o,List.all_append,HA.o]
     simp[hb])
    clear hb
    go_wp2_with (go_at_call 123;refine H1.mono ?_;clear H1;rintro e w' ⟨rfl,H2⟩;rw[←H2];clear H2)
    go_roundg (S.size-(m+1))
    case measure=>have:=HI.o;omega
    case rel=>exact⟨m+1,rfl,by simp,hlt,rfl,H5.o⟩
  ·have hi:¬(m:Int)<(S.size:Int):=by omega
   have HR:=zh (show Lx.oneR ⟨p,k,S.data.toList,n⟩=(Lx.quote S.data.toList,n==0)by
    unfold Lx.oneR
    simp only
    have h5:=HK.o
    have h:=HA.o
    rw[List.take_of_length_le (by rw[ziZ];omega)]at h
    rw[if_neg (by omega),if_neg (by omega),if_pos h5,if_pos h])
   cases hn:(n==0)with
   | false=>
    rw[hn]at HR
    go_wp2_with fail
    go_quiet ((go_at_call 77;exact zhbZ (zguZ _ _ (by omega))))
    go_wp2_with fail
    refine bodyPost_ret (results_tmp2 rfl _ _ _) rfl ?_
    rw[HR.o]
    exact⟨rfl,HW.o.drewN _⟩
   | true=>
    rw[hn]at HR
    go_wp2_with fail
    go_quiet ((go_at_call 77;exact zhbZ (zguZ _ _ (by omega))))
    go_wp2_with fail
    refine bodyPost_ret (results_tmp2 rfl _ _ _) rfl ?_
    rw[HR.o]
    exact⟨rfl,HW.o.drewN _⟩
end Go.Proofs.YtdncljdfmdgdaaaGreatDoor
