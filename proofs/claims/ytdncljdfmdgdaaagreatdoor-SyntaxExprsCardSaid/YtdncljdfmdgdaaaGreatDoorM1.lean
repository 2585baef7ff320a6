/-
  Chapter 1 in plain Lean: what lex computes, over lists of bytes. No program in sight.
-/
import Derived.Test.YtdncljdfmdgdaaaGreatDoorProg
import Derived.WalkKit
import Derived.WalkLawsBesides
import Derived.WalkSpells
set_option linter.unusedSimpArgs false
set_option linter.unusedVariables false
namespace Go.Proofs.YtdncljdfmdgdaaaGreatDoor
theorem zh {p:Prop} (h:p):Go.RowKit.Hid p:=h
theorem zE {α:Sort _} (a:α):∃ x,a=x:=⟨_,rfl⟩
end Go.Proofs.YtdncljdfmdgdaaaGreatDoor
namespace Go.RowKit
theorem Hid.o {p:Prop} (h:Hid p):p:=h
end Go.RowKit
namespace Go.Proofs.YtdncljdfmdgdaaaGreatDoor.Lx
abbrev Bytes:=List UInt8
structure Tok where
 pos:Int
 kind:Int
 s:Bytes
 n:Int
 deriving DecidableEq,Inhabited
def small (c:UInt8):Bool:=97≤c.toNat&&c.toNat≤122
def great (c:UInt8):Bool:=65≤c.toNat&&c.toNat≤90
def digit (c:UInt8):Bool:=48≤c.toNat&&c.toNat≤57
def letter (c:UInt8):Bool:=small c||great c
def within (c:UInt8):Bool:=letter c||digit c||c.toNat==95
def blank (c:UInt8):Bool:=c.toNat==9||c.toNat==10||c.toNat==13||c.toNat==32
def signs:Bytes:=[40,41,123,125,59,58,44,46,61,60,43,45,42]
def begins (c:UInt8):Bool:=letter c||digit c||c.toNat==34||signs.contains c
def words:List Bytes:=[
 [116,121,112,101],[109,101,116,104,111,100],[102,117,110,99],[109,97,105,110],[105,110,116,101,114,102,97,99,101],
 [101,109,98,101,100],[105,110,116],[98,111,111,108],[116,101,120,116],[102,110],[108,101,116],[112,114,105,110,116],
 [105,102],[101,108,115,101],[119,104,105,108,101],[114,101,116,117,114,110],[110,105,108],[110,101,119],[116,111],
 [97,110,100],[111,114],[110,111,116],[116,114,117,101],[102,97,108,115,101],[115,101,108,102]]
def skip:Bool→Bytes→Bytes
 | _,[]=>[]
 | false,c::t=>if blank c then skip false t else if c.toNat==47&&t.head? ==some 47 then skip true t else c::t
 | true,c::t=>if c.toNat==10 then skip false t else skip true t
def value (l:Bytes):Nat:=l.foldl (fun v c=>v * 10+(c.toNat-48)) 0
inductive Res where
 | bad (why at_:Nat)
 | ok (t:Tok) (len:Nat)
 deriving DecidableEq,Inhabited
def nameKind (n:Bytes):Nat:=if words.contains n then 3 else if(n.head?.map great).getD false then 2 else 1
def cutName (p:Nat) (l:Bytes):Res:=
 let n:=l.takeWhile within
 if 32<n.length then .bad 2 (p+32)else .ok ⟨p,nameKind n,n,0⟩ n.length
def cutNumber (p:Nat) (l:Bytes):Res:=
 let d:=l.takeWhile digit
 if 9223372036854775807<value d||(l.head? ==some 48&&1<d.length)||((l.drop d.length).head?.map within).getD false then .bad 11 p
 else .ok ⟨p,4,[],value d⟩ d.length
def quoted (p:Nat):Bytes→Bytes→Nat→Res
 | [],_,k=>.bad 12 (p+k)
 | 34::_,acc,k=>.ok ⟨p,5,acc,0⟩ (k+1)
 | 92::[],_,k=>.bad 12 (p+k+1)
 | 92::c::t,acc,k=>if c.toNat==110 then quoted p t (acc++[10]) (k+2)else if c.toNat==34||c.toNat==92 then quoted p t (acc++[c]) (k+2)else .bad 12 (p+k+1)
 | c::t,acc,k=>if c.toNat<32||126<c.toNat then .bad 12 (p+k)else quoted p t (acc++[c]) (k+1)
def cut (p:Nat) (l:Bytes):Res:=
 match l with
 | []=>.bad 0 p
 | b::t=>
  if letter b then cutName p l
  else if digit b then cutNumber p l
  else if b.toNat==34 then quoted p t [] 1
  else if b.toNat==61&&t.head? ==some 61 then .ok ⟨p,6,[61,61],0⟩ 2
  else .ok ⟨p,6,[b],0⟩ 1
def go:Nat→Nat→Nat→Bytes→List Tok×Option (Nat×Nat)
 | 0,_,_,_=>([],none)
 | f+1,p,i,l=>
  let r:=skip false l
  let q:=p+(l.length-r.length)
  match r with
  | []=>([],none)
  | b::_=>
   if !begins b then([],some (10,q))
   else if i==4096 then([],some (3,q))
   else match cut q r with
    | .bad why x=>([],some (why,x))
    | .ok t n=>let z:=go f (q+n) (i+1) (r.drop n);(t::z.1,z.2)
def toks (src:Bytes):List Tok×Option (Nat×Nat):=
 if 65536<src.length then([],some (2,0))else go (src.length+1) 0 0 src
def quoteIn:Bytes→Bytes
 | []=>[]
 | c::t=>(if c.toNat==10 then [92,110]else if c.toNat==34||c.toNat==92 then [92,c]else [c])++quoteIn t
def quote (s:Bytes):Bytes:=34::(quoteIn s++[34])
/-! ### lists -/
theorem zeaZ:∀(m:Bool) (l:Bytes),(skip m l).length≤l.length
 | _,[]=>by simp[skip]
 | false,c::t=>by
  unfold skip
  split
  ·have:=zeaZ false t;simp;omega
  ·split
   ·have:=zeaZ true t;simp;omega
   ·simp
 | true,c::t=>by
  unfold skip
  split
  ·have:=zeaZ false t;simp;omega
  ·have:=zeaZ true t;simp;omega
theorem skip_blank {c:UInt8} {t:Bytes} (h:blank c=true):skip false (c::t)=skip false t:=by simp[skip,h]
theorem skip_remark {c:UInt8} {t:Bytes} (h:blank c=false) (h1:c.toNat=47) (h2:t.head? =some 47):skip false (c::t)=skip true t:=by simp[skip,h,h1,h2]
theorem skip_stays {c:UInt8} {t:Bytes} (h:blank c=false) (h1:¬(c.toNat=47∧t.head? =some 47)):skip false (c::t)=c::t:=by
 unfold skip
 rw[if_neg (by simp[h]),if_neg (by simpa using h1)]
theorem skip_within {c:UInt8} {t:Bytes} (h:c.toNat≠10):skip true (c::t)=skip true t:=by simp[skip,h]
theorem skip_out {c:UInt8} {t:Bytes} (h:c.toNat=10):skip true (c::t)=skip false (c::t):=by
 have hb:blank c=true:=by simp[blank,h]
 simp[skip,h,hb]
theorem skip_end (m:Bool):skip m []=[]:=by cases m <;> simp[skip]
end Go.Proofs.YtdncljdfmdgdaaaGreatDoor.Lx
namespace Go.Proofs.YtdncljdfmdgdaaaGreatDoor
open Go.RowKit
theorem zbdZ {x y:Bool} (h:x=y):Ending.returned (.bool x)=.returned (.bool y):=by rw[h]
theorem zqlZ (b:UInt8) (w:World):Calls Tryz.prog 154 #[.int .u8 (b.toNat:Int)] w fun e w'=>e=.returned (.bool (Lx.small b))∧w=w':=by
 go_enter Tryz.func154, Tryz.ntmps154
 go_wp2
 all_goals
  go_ret
  refine⟨zbdZ ?_,rfl⟩
  rw[Bool.eq_iff_iff]
  simp[Lx.small]
  omega
theorem zjoZ (b:UInt8) (w:World):Calls Tryz.prog 155 #[.int .u8 (b.toNat:Int)] w fun e w'=>e=.returned (.bool (Lx.great b))∧w=w':=by
 go_enter Tryz.func155, Tryz.ntmps155
 go_wp2
 all_goals
  go_ret
  refine⟨zbdZ ?_,rfl⟩
  rw[Bool.eq_iff_iff]
  simp[Lx.great]
  omega
theorem zbxZ (b:UInt8) (w:World):Calls Tryz.prog 143 #[.int .u8 (b.toNat:Int)] w fun e w'=>e=.returned (.bool (Lx.digit b))∧w=w':=by
 go_enter Tryz.func143, Tryz.ntmps143
 go_wp2
 all_goals
  go_ret
  refine⟨zbdZ ?_,rfl⟩
  rw[Bool.eq_iff_iff]
  simp[Lx.digit]
  omega
theorem zbmZ (b:UInt8) (w:World):Calls Tryz.prog 142 #[.int .u8 (b.toNat:Int)] w fun e w'=>e=.returned (.bool (Lx.letter b))∧w=w':=by
 go_enter Tryz.func142, Tryz.ntmps142
 go_wp2_with (first | (go_at_call 154;refine(zqlZ _ _).mono ?_;rintro e w' ⟨rfl,rfl⟩) | (go_at_call 155;refine(zjoZ _ _).mono ?_;rintro e w' ⟨rfl,rfl⟩))
 all_goals
  go_ret
  refine⟨zbdZ ?_,rfl⟩
  simp[Lx.letter, *]
theorem zfaZ (b:UInt8) (w:World):Calls Tryz.prog 157 #[.int .u8 (b.toNat:Int)] w fun e w'=>e=.returned (.bool (Lx.within b))∧w=w':=by
 go_enter Tryz.func157, Tryz.ntmps157
 go_wp2_with (first | (go_at_call 142;refine(zbmZ _ _).mono ?_;rintro e w' ⟨rfl,rfl⟩) | (go_at_call 143;refine(zbxZ _ _).mono ?_;rintro e w' ⟨rfl,rfl⟩))
 all_goals
  go_ret
  refine⟨zbdZ ?_,rfl⟩
  rw[Bool.eq_iff_iff]
  simp[Lx.within, *]
  try omega
end Go.Proofs.YtdncljdfmdgdaaaGreatDoor
