/-
  The walks of coilref2.Level, Sign, First.
-/
import Derived.Test.YtdncljdfmdgdaaaGreatDoorM1
import Derived.Test.YtdncljdfmdgdaaaGreatDoorM20
import Derived.Test.YtdncljdfmdgdaaaGreatDoorM27
import Derived.Deep.RegionHeld3
import Derived.BigRegion
import Derived.Test.YtdncljdfmdgdaaaGreatDoorM15
set_option linter.unusedSimpArgs false
set_option linter.unusedVariables false
set_option maxRecDepth 100000
set_option maxHeartbeats 4000000
namespace Go.Proofs.YtdncljdfmdgdaaaGreatDoor
open Go.RowKit Go.Shelf
theorem zfsZ (k:Int) (w:World) (h1:1≤k) (h2:k≤21) :
  Calls Tryz.prog 80 #[.int .i64 k] w fun e w'=>e=.returned (.int .i64 (Sx.level k:Nat))∧w=w':=by
 have hk:k=1∨k=2∨k=3∨k=4∨k=5∨k=6∨k=7∨k=8∨k=9∨k=10∨k=11∨k=12∨k=13∨k=14∨k=15∨k=16∨k=17∨k=18∨k=19∨k=20∨k=21:=by omega
 clear h1 h2
 rcases hk with rfl | rfl | rfl | rfl | rfl | rfl | rfl | rfl | rfl | rfl | rfl | rfl | rfl | rfl | rfl | rfl | rfl | rfl | rfl | rfl | rfl
 all_goals
  go_enter Tryz.func80, Tryz.ntmps80
  go_wp2
  go_ret
  exact⟨rfl,rfl⟩
theorem zkxZ (k:Int) (w:World) (h1:15≤k) (h2:k≤21) :
  Calls Tryz.prog 81 #[.int .i64 k] w fun e w'=>e=.returned (.string ⟨(Sx.sign k).toArray⟩)∧w=w':=by
 have hk:k=15∨k=16∨k=17∨k=18∨k=19∨k=20∨k=21:=by omega
 clear h1 h2
 rcases hk with rfl | rfl | rfl | rfl | rfl | rfl | rfl
 all_goals
  go_enter Tryz.func81, Tryz.ntmps81
  go_wp2
  go_ret
  exact⟨rfl,rfl⟩
theorem zpnZ (k:Int) (w:World) (h1:1≤k) (h2:k≤21) :
  Calls Tryz.prog 75 #[.int .i64 k] w fun e w'=>e=.returned (.bool (Sx.flat k))∧w=w':=by
 have hk:k=1∨k=2∨k=3∨k=4∨k=5∨k=6∨k=7∨k=8∨k=9∨k=10∨k=11∨k=12∨k=13∨k=14∨k=15∨k=16∨k=17∨k=18∨k=19∨k=20∨k=21:=by omega
 clear h1 h2
 rcases hk with rfl | rfl | rfl | rfl | rfl | rfl | rfl | rfl | rfl | rfl | rfl | rfl | rfl | rfl | rfl | rfl | rfl | rfl | rfl | rfl | rfl
 all_goals
  go_enter Tryz.func75, Tryz.ntmps75
  go_wp2
  go_ret
  exact⟨rfl,rfl⟩
theorem zkyZ (W:World) (c:UInt8):(convert 98 9 (.slice (some ⟨W.heap.size,0,none⟩) 1 1)).run Tryz.prog (W.alloc (.cells #[.int .u8 (c.toNat:Int)] 5))=.ok (.string ⟨#[c]⟩) (W.alloc (.cells #[.int .u8 (c.toNat:Int)] 5)):=
 zdkZ (zviZ W W.heap.size c (Nat.le_refl _))
theorem zunZ {X W:World} {c:UInt8} (h:LW (X.alloc (.cells #[.int .u8 (c.toNat:Int)] 5)).drew W):(convert 98 9 (.slice (some ⟨X.heap.size,0,none⟩) 1 1)).run Tryz.prog W=.ok (.string ⟨#[c]⟩) W:=by
 refine zdkZ (base:=X.heap.size) (l:=[c]) ⟨rfl,.inr ⟨X.heap.size,1,#[.int .u8 (c.toNat:Int)],rfl,Nat.le_refl _,?_,Nat.le_refl _,by unfold maxLen;omega,rfl,rfl⟩⟩
 exact(h.b.block _ (by show X.heap.size<(X.alloc _).heap.size;simp)).trans (heap_alloc_new X _)
theorem zirZ:∀(n:Nat) (w:World),n≤9223372036854775807→GL w→NG≤w.heap.size→
  Calls Tryz.prog 76 #[.int .i64 n] w fun e w'=>e=.returned (.string ⟨(Lib.decDigits n).toArray⟩)∧LW w w':=by
 intro n
 induction n using Nat.strongRecOn with
 | _ n ih=>
  intro w hn hG hN
  have H0:=LW.refl hG hN
  by_cases hlt:n<10
  ·have hi:(n:Int)<10:=by omega
   have hd:Lib.decDigits n=[UInt8.ofNat (48+n)]:=Lib.decDigits_one hlt
   obtain⟨c,hc⟩:∃c:UInt8,UInt8.ofNat (48+n)=c:=⟨_,rfl⟩
   have H7:(48:Int)+(n:Int)=(c.toNat:Int):=by
    rw[←hc,UInt8.toNat_ofNat']
    omega
   rw[hd,hc]
   have H4:=fun W=>zkyZ W c
   clear hd hc ih
   go_enter Tryz.func76, Tryz.ntmps76
   go_wp2
   go_ret
   exact⟨rfl,H0.alloc _⟩
  ·have hi:¬(n:Int)<10:=by omega
   have hd:=Lx.decDigits_step n (by omega)
   obtain⟨c,hc⟩:∃c:UInt8,UInt8.ofNat (48+n % 10)=c:=⟨_,rfl⟩
   have H7:(48:Int)+(n:Int) % 10=(c.toNat:Int):=by
    rw[←hc,UInt8.toNat_ofNat']
    omega
   have H9:(n:Int).tmod 10=(n:Int) % 10:=by rw[Int.tmod_eq_emod_of_nonneg (by omega)]
   have Hb:c.toNat<256:=c.toNat_lt
   have Hc:IntKind.i64.wrap (c.toNat:Int)=(c.toNat:Int):=(by rw[IntKind.wrap_i64];omega)
   have He:IntKind.u8.wrap (c.toNat:Int)=(c.toNat:Int):=(by rw[IntKind.wrap_u8];omega)
   have H3:(Lib.decDigits (n / 10)).length≤20:=by
    rw[Lib.decDigits_length]
    have:=nD_le 19 (n / 10) (by omega)
    omega
   have H1:∀W,LW w W→Calls Tryz.prog 76 #[.int .i64 ((n / 10:Nat):Int)] W fun e W'=>e=.returned (.string ⟨(Lib.decDigits (n / 10)).toArray⟩)∧LW W W':=fun W h=>ih (n / 10) (by omega) W (by omega) h.g h.n
   obtain⟨B,hB⟩:∃B:ByteArray,(⟨(Lib.decDigits (n / 10)).toArray⟩:ByteArray)=B:=⟨_,rfl⟩
   have hBs:(B.size:Int)≤20:=by
    rw[←hB]
    show(((Lib.decDigits (n / 10)).length:Nat):Int)≤20
    omega
   have H2:(⟨(Lib.decDigits n).toArray⟩:ByteArray)=B++⟨#[c]⟩:=by
    rw[hd,hc,←hB]
    apply ByteArray.ext
    rw[ByteArray.data_append]
    simp
   rw[H2]
   rw[hB]at H1
   have H4:=fun W=>zkyZ W c
   obtain⟨k,hk⟩:=zE (n / 10)
   have Hd:IntKind.i64.wrap ((n:Int) / 10)=(k:Int):=by rw[IntKind.wrap_i64];omega
   rw[hk]at H1
   clear hk
   clear hd hc ih H3 hB H2
   go_enter Tryz.func76, Tryz.ntmps76
   go_wp2
   have H5:(convert 98 9 (.slice (some ⟨w.heap.size,0,none⟩) 1 1)).run Tryz.prog (w.alloc (.cells #[.int .u8 (c.toNat:Int)] 5)).drew=.ok (.string ⟨#[c]⟩) (w.alloc (.cells #[.int .u8 (c.toNat:Int)] 5)).drew:=zkyZ w.drew c
   have HD:LW w w.drew:=H0.drewN 1
   have HA:LW w (w.alloc (.cells #[.int .u8 (c.toNat:Int)] 5)).drew:=HD.alloc _
   have H8:=H1 _ HD
   have H6:=H1 _ HA
   clear H1
   go_region_with (first
    | (go_at_call 76;with_reducible refine H8.mono ?_;rintro e W5 ⟨rfl,h5⟩;have h6:=HD.trans h5)
    | (go_at_call 76;with_reducible refine H6.mono ?_;rintro e W5 ⟨rfl,h5⟩;have h6:=HA.trans h5;have Ha:=zunZ (X:=w) h5))
   all_goals
    go_wp2
    go_ret
    exact⟨rfl,by first | exact h6 | exact h6.alloc _⟩
end Go.Proofs.YtdncljdfmdgdaaaGreatDoor
namespace Go.Proofs.YtdncljdfmdgdaaaGreatDoor
mutual
def Sx.fitsX:Sx.Ex→Prop
 | .mk _ _ _ s t ns ps=>s.length≤140737488351232∧ns.length≤140737488351232∧(∀s∈ns,s.length≤140737488351232)∧t.length≤140737488351232∧Sx.fitsL t∧ps.length≤140737488351232∧Sx.fitsXs ps
def Sx.fitsXs:List Sx.Ex→Prop
 | []=>True
 | t::l=>Sx.fitsX t∧Sx.fitsXs l
end
theorem Sx.fitsXs_mem:∀ {l:List Sx.Ex} {t:Sx.Ex},Sx.fitsXs l→t∈l→Sx.fitsX t
 | u::l,t,h,hm=>by
  rw[Sx.fitsXs]at h
  rcases List.mem_cons.1 hm with rfl | hm
  ·exact h.1
  ·exact Sx.fitsXs_mem h.2 hm
theorem Sx.fitsXs_of:∀ {l:List Sx.Ex},(∀t∈l,Sx.fitsX t)→Sx.fitsXs l
 | [],h=>by rw[Sx.fitsXs];trivial
 | t::l,h=>by
  rw[Sx.fitsXs]
  exact⟨h t List.mem_cons_self,Sx.fitsXs_of fun u hu=>h u (List.mem_cons_of_mem _ hu)⟩
theorem Sx.fitsX_parts {t:Sx.Ex} (h:Sx.fitsX t):t.s.length≤140737488351232∧t.names.length≤140737488351232∧(∀s∈t.names,s.length≤140737488351232)∧t.t.length≤140737488351232∧(∀p∈t.t,Sx.fits p)∧t.parts.length≤140737488351232∧∀p∈t.parts,Sx.fitsX p:=by
 cases t
 rw[Sx.fitsX]at h
 obtain⟨a,b,c,d,e,f,g⟩:=h
 exact⟨a,b,c,d,fun p hp=>Sx.fitsL_mem e hp,f,fun p hp=>Sx.fitsXs_mem g hp⟩
theorem Sx.sizeXs_append:∀(l m:List Sx.Ex),Sx.sizeXs (l++m)=Sx.sizeXs l+Sx.sizeXs m
 | [],m=>by simp[Sx.sizeXs]
 | t::l,m=>by rw[List.cons_append,Sx.sizeXs,Sx.sizeXs,Sx.sizeXs_append l m];omega
theorem Sx.sizeX_take {l:List Sx.Ex} {m:Nat} (h:m<l.length):Sx.sizeXs (l.take (m+1))=Sx.sizeXs (l.take m)+Sx.sizeX l[m]:=by
 rw[List.take_succ_eq_append_getElem h,Sx.sizeXs_append]
 simp[Sx.sizeXs]
end Go.Proofs.YtdncljdfmdgdaaaGreatDoor
