/-
  Chapter 1 in plain Lean: what lex computes, over lists of bytes. No program in sight.
-/
import Derived.TacticsInMore
import Derived.Stop.Joined
import Derived.StillTailTactics
import Derived.Shelf.RegionOpen
import Derived.Shelf.Abstract
import Derived.SevenTiedAt
import Derived.RegionTactic
import Derived.RangeFuncNested
import Derived.RangeFuncLeaves
import Derived.RangeFuncCalls
import Derived.RangeFuncBound
import Derived.ProofKit
import Derived.OwnWalkIn
import Derived.OwnWalk
import Derived.OpenShut
import Derived.Maps.Views
import Derived.MakeChecks
import Derived.LoopNIn
import Derived.LoopIn
import Derived.Lib.LaidTab
import Derived.Lib.Hide
import Derived.Lib.AtoiErrMem
import Derived.Lib.AppendStr
import Derived.Lib.AppendIntMem
import Derived.LaidMore
import Derived.LaidLaws
import Derived.LaidHandle
import Derived.KernelRfl
import Derived.JoinedOf
import Derived.IntWalk
import Derived.Deep.RegionHeld3
import Derived.Deep.DeepCutAuto
import Derived.Deep.CutBlock
import Derived.ChangeVars
import Derived.ChangeSame
import Derived.ChangeMaps5
import Derived.Carry
import Derived.BigRegion
import Derived.Below
import Derived.Test.YtdncljdfmdgdaaaGreatDoorProg
import Derived.WalkKit
import Derived.WalkLawsBesides
import Derived.WalkSpells
import Derived.Deep.QuietTactic
import Derived.BigQuiet
import Derived.Deep.LoopGhost
import Derived.Lib.Strings
import Derived.Test.YtdncljdfmdgdaaaGreatDoorShelf
import Derived.Lib.IndexLaws
import Derived.Maps.AppendAt
import Derived.RangeFuncBox
set_option linter.unusedSimpArgs false
set_option linter.unusedVariables false
set_option maxRecDepth 100000
set_option maxHeartbeats 2000000
namespace Go.Proofs.YtdncljdfmdgdaaaGreatDoor
section
open Go.RowKit Go.Shelf Go.WideMaps
abbrev yaZ:=@beq_eq_false_iff_ne
abbrev ybZ:=@Nat.le_refl
abbrev ycZ:=@List.length_append
abbrev ydZ:=@heap_alloc_new
abbrev yeZ:=@World.grownBy_alloc
abbrev yfZ:=@List.getElem_mem
abbrev ygZ:=@Bool.and_eq_true
abbrev yhZ:=@List.length_cons
abbrev yiZ:=@List.append_assoc
abbrev yjZ:=@List.take_of_length_le
abbrev ykZ:=@List.take_succ_eq_append_getElem
abbrev ylZ:=@bodyPost_ret
abbrev ymZ:=@Nat.le_trans
abbrev ynZ:=@List.length_nil
abbrev yoZ:=@List.setIfInBounds_toArray
abbrev ypZ:=@Nat.add_zero
abbrev yqZ:=@Below.refl
abbrev yrZ:=@Nat.zero_mul
abbrev ysZ:=@List.mem_cons_self
abbrev ytZ:=@beq_iff_eq
abbrev yuZ:=@Below.heap_setCell
abbrev yvZ:=@decide_eq_false_iff_not
abbrev ywZ:=@List.mem_cons_of_mem
abbrev yxZ:=@Nat.zero_le
abbrev yyZ:=@List.toList_toArray
abbrev yzZ:=@List.set_cons_zero
abbrev yAZ:=@List.set_cons_succ
abbrev yBZ:=@of_decide_eq_true
abbrev yCZ:=@decide_eq_true_eq
abbrev yDZ:=@results_tmp2
abbrev yEZ:=@Bool.eq_iff_iff
abbrev yFZ:=@List.takeWhile_cons
abbrev yGZ:=@Nat.zero_add
abbrev yHZ:=@List.cons_append
abbrev yIZ:=@List.map_toArray
abbrev yJZ:=@Nat.lt_of_lt_of_le
abbrev yKZ:=@Bool.or_eq_true
abbrev yLZ:=@Nat.eq_zero_or_pos
abbrev yMZ:=@heap_setCell_same
abbrev yNZ:=@List.drop_eq_nil_of_le
abbrev yOZ:=@World.ownsRow_nil
abbrev yPZ:=@List.map_cons
abbrev yQZ:=@IntKind.wrap_i64
abbrev yRZ:=@List.map_nil
abbrev ySZ:=@List.contains_iff_mem
abbrev yTZ:=@List.mem_cons
abbrev yUZ:=@List.length_take
abbrev yVZ:=@Nat.succ_pos
abbrev yWZ:=@List.mem_singleton
abbrev yXZ:=@if_false
abbrev yYZ:=@Nat.le_of_lt
abbrev yZZ:=@List.all_eq_true
abbrev yabZ:=@List.length_eq_zero_iff
abbrev ybbZ:=@UInt8.toNat_inj
abbrev ycbZ:=@if_true
abbrev ydbZ:=@List.take_append_drop
abbrev yebZ:=@ByteArray.toList_eq
abbrev yfbZ:=@List.mem_append
abbrev ygbZ:=@List.cons.injEq
abbrev yhbZ:=@List.length_drop
abbrev yibZ:=@Option.map_eq_some_iff
abbrev yjbZ:=@or_false
abbrev ykbZ:=@Array.mk.injEq
abbrev ylbZ:=@false_or
abbrev ymbZ:=@and_true
end
theorem zh {p:Prop} (h:p):Go.RowKit.Hid p:=h
theorem zE {α:Sort _} (a:α):∃ x,a=x:=⟨_,rfl⟩
end Go.Proofs.YtdncljdfmdgdaaaGreatDoor
namespace Go.RowKit
theorem Hid.o {p:Prop} (h:Hid p):p:=h
end Go.RowKit
namespace Go.Proofs.YtdncljdfmdgdaaaGreatDoor.Lx
abbrev Bytes:=List UInt8
structure Tok where
 pos:Int
 kind:Int
 s:Bytes
 n:Int
 deriving DecidableEq,Inhabited
def small (c:UInt8):Bool:=97<=c.toNat&&c.toNat<=122
def great (c:UInt8):Bool:=65<=c.toNat&&c.toNat<=90
def digit (c:UInt8):Bool:=48<=c.toNat&&c.toNat<=57
def letter (c:UInt8):Bool:=small c||great c
def within (c:UInt8):Bool:=letter c||digit c||c.toNat==95
def blank (c:UInt8):Bool:=c.toNat==9||c.toNat==10||c.toNat==13||c.toNat==32
def signs:Bytes:=[40,41,123,125,59,58,44,46,61,60,43,45,42]
def begins (c:UInt8):Bool:=letter c||digit c||c.toNat==34||signs.contains c
def words:List Bytes:=[
 [116,121,112,101],[109,101,116,104,111,100],[102,117,110,99],[109,97,105,110],[105,110,116,101,114,102,97,99,101],
 [101,109,98,101,100],[105,110,116],[98,111,111,108],[116,101,120,116],[102,110],[108,101,116],[112,114,105,110,116],
 [105,102],[101,108,115,101],[119,104,105,108,101],[114,101,116,117,114,110],[110,105,108],[110,101,119],[116,111],
 [97,110,100],[111,114],[110,111,116],[116,114,117,101],[102,97,108,115,101],[115,101,108,102]]
def skip:Bool->Bytes->Bytes
 | _,[]=>[]
 | false,c::t=>if blank c then skip false t else if c.toNat==47&&t.head? ==some 47 then skip true t else c::t
 | true,c::t=>if c.toNat==10 then skip false t else skip true t
def value (l:Bytes):Nat:=l.foldl (fun v c=>v * 10+(c.toNat-48)) 0
inductive Res where
 | bad (why at_:Nat)
 | ok (t:Tok) (len:Nat)
 deriving DecidableEq,Inhabited
def nameKind (n:Bytes):Nat:=if words.contains n then 3 else if(n.head?.map great).getD false then 2 else 1
def cutName (p:Nat) (l:Bytes):Res:=
 let n:=l.takeWhile within
 if 32<n.length then .bad 2 (p+32)else .ok ⟨p,nameKind n,n,0⟩ n.length
def cutNumber (p:Nat) (l:Bytes):Res:=
 let d:=l.takeWhile digit
 if 9223372036854775807<value d||(l.head? ==some 48&&1<d.length)||((l.drop d.length).head?.map within).getD false then .bad 11 p
 else .ok ⟨p,4,[],value d⟩ d.length
def quoted (p:Nat):Bytes->Bytes->Nat->Res
 | [],_,k=>.bad 12 (p+k)
 | 34::_,acc,k=>.ok ⟨p,5,acc,0⟩ (k+1)
 | 92::[],_,k=>.bad 12 (p+k+1)
 | 92::c::t,acc,k=>if c.toNat==110 then quoted p t (acc++[10]) (k+2)else if c.toNat==34||c.toNat==92 then quoted p t (acc++[c]) (k+2)else .bad 12 (p+k+1)
 | c::t,acc,k=>if c.toNat<32||126<c.toNat then .bad 12 (p+k)else quoted p t (acc++[c]) (k+1)
def cut (p:Nat) (l:Bytes):Res:=
 match l with
 | []=>.bad 0 p
 | b::t=>
  if letter b then cutName p l
  else if digit b then cutNumber p l
  else if b.toNat==34 then quoted p t [] 1
  else if b.toNat==61&&t.head? ==some 61 then .ok ⟨p,6,[61,61],0⟩ 2
  else .ok ⟨p,6,[b],0⟩ 1
def go:Nat->Nat->Nat->Bytes->List Tok×Option (Nat×Nat)
 | 0,_,_,_=>([],none)
 | f+1,p,i,l=>
  let r:=skip false l
  let q:=p+(l.length-r.length)
  match r with
  | []=>([],none)
  | b::_=>
   if !begins b then([],some (10,q))
   else if i==4096 then([],some (3,q))
   else match cut q r with
    | .bad why x=>([],some (why,x))
    | .ok t n=>let z:=go f (q+n) (i+1) (r.drop n);(t::z.1,z.2)
def toks (src:Bytes):List Tok×Option (Nat×Nat):=
 if 65536<src.length then([],some (2,0))else go (src.length+1) 0 0 src
def quoteIn:Bytes->Bytes
 | []=>[]
 | c::t=>(if c.toNat==10 then [92,110]else if c.toNat==34||c.toNat==92 then [92,c]else [c])++quoteIn t
def quote (s:Bytes):Bytes:=34::(quoteIn s++[34])
/-! ### lists -/
theorem zemZ:∀(m:Bool) (l:Bytes),(skip m l).length<=l.length
 | _,[]=>by simp[skip]
 | false,c::t=>by
  unfold skip;split
  ·have:=zemZ false t;simp;omega
  ·split
   ·have:=zemZ true t;simp;omega
   ·simp
 | true,c::t=>by
  unfold skip;split
  ·have:=zemZ false t;simp;omega
  ·have:=zemZ true t;simp;omega
theorem skip_blank {c:UInt8} {t:Bytes} (h:blank c=true):skip false (c::t)=skip false t:=by simp[skip,h]
theorem skip_remark {c:UInt8} {t:Bytes} (h:blank c=false) (h1:c.toNat=47) (h2:t.head? =some 47):skip false (c::t)=skip true t:=by simp[skip,h,h1,h2]
theorem skip_stays {c:UInt8} {t:Bytes} (h:blank c=false) (h1:¬(c.toNat=47/\t.head? =some 47)):skip false (c::t)=c::t:=by
 unfold skip;rw[if_neg (by simp[h]),if_neg (by simpa using h1)]
theorem skip_within {c:UInt8} {t:Bytes} (h:c.toNat≠10):skip true (c::t)=skip true t:=by simp[skip,h]
theorem skip_out {c:UInt8} {t:Bytes} (h:c.toNat=10):skip true (c::t)=skip false (c::t):=by
 have hb:blank c=true:=by simp[blank,h]
 simp[skip,h,hb]
theorem skip_end (m:Bool):skip m []=[]:=by cases m <;> simp[skip]
end Go.Proofs.YtdncljdfmdgdaaaGreatDoor.Lx
namespace Go.Proofs.YtdncljdfmdgdaaaGreatDoor
open Go.RowKit
theorem zbfZ {x y:Bool} (h:x=y):Ending.returned (.bool x)=.returned (.bool y):=by rw[h]
theorem zrrZ (b:UInt8) (w:World):Calls Tryz.prog 154 #[.int .u8 (b.toNat:Int)] w fun e w'=>e=.returned (.bool (Lx.small b))/\w=w':=by
 go_enter Tryz.func154, Tryz.ntmps154
 go_wp2
 all_goals
  go_ret;refine⟨zbfZ ?_,rfl⟩;rw[yEZ];simp[Lx.small];omega
theorem zktZ (b:UInt8) (w:World):Calls Tryz.prog 155 #[.int .u8 (b.toNat:Int)] w fun e w'=>e=.returned (.bool (Lx.great b))/\w=w':=by
 go_enter Tryz.func155, Tryz.ntmps155
 go_wp2
 all_goals
  go_ret;refine⟨zbfZ ?_,rfl⟩;rw[yEZ];simp[Lx.great];omega
theorem zcaZ (b:UInt8) (w:World):Calls Tryz.prog 143 #[.int .u8 (b.toNat:Int)] w fun e w'=>e=.returned (.bool (Lx.digit b))/\w=w':=by
 go_enter Tryz.func143, Tryz.ntmps143
 go_wp2
 all_goals
  go_ret;refine⟨zbfZ ?_,rfl⟩;rw[yEZ];simp[Lx.digit];omega
theorem zbnZ (b:UInt8) (w:World):Calls Tryz.prog 142 #[.int .u8 (b.toNat:Int)] w fun e w'=>e=.returned (.bool (Lx.letter b))/\w=w':=by
 go_enter Tryz.func142, Tryz.ntmps142
 go_wp2_with (first | (go_at_call 154;refine(zrrZ _ _).mono ?_;rintro e w' ⟨rfl,rfl⟩) | (go_at_call 155;refine(zktZ _ _).mono ?_;rintro e w' ⟨rfl,rfl⟩))
 all_goals
  go_ret;refine⟨zbfZ ?_,rfl⟩;simp[Lx.letter, *]
theorem zftZ (b:UInt8) (w:World):Calls Tryz.prog 157 #[.int .u8 (b.toNat:Int)] w fun e w'=>e=.returned (.bool (Lx.within b))/\w=w':=by
 go_enter Tryz.func157, Tryz.ntmps157
 go_wp2_with (first | (go_at_call 142;refine(zbnZ _ _).mono ?_;rintro e w' ⟨rfl,rfl⟩) | (go_at_call 143;refine(zcaZ _ _).mono ?_;rintro e w' ⟨rfl,rfl⟩))
 all_goals
  go_ret;refine⟨zbfZ ?_,rfl⟩;rw[yEZ];simp[Lx.within, *]
  try omega
theorem zeuZ {P:Program} {f:FuncId} {args:Array Value} {w:World} {n:Nat} {v:Value}
  (h:Calls P f args (w.drewN n) fun e w'=>e=.returned v/\w.drewN n=w'):Calls P f args (w.drewN n) fun e w''=>e=.returned v/\∃m,w''=w.drewN m:=
 h.mono fun _ _ ⟨he,hm⟩=>⟨he,n,hm.symm⟩
theorem zicZ {P:Program} {f:FuncId} {args:Array Value} {w:World} {n:Nat} {v:Value}
  (h:Calls P f args (w.drewN n) fun e w'=>e=.returned v/\w'=w.drewN n):Calls P f args (w.drewN n) fun e w''=>e=.returned v/\∃m,w''=w.drewN m:=
 h.mono fun _ _ ⟨he,hm⟩=>⟨he,n,hm⟩
def Cu (w:World) (b:Nat) (s:ByteArray) (k:Nat):Prop:=w.heap[b]? =some (.cells #[.string s,.int .i64 (k:Int)] 171 (0,0))
section
variable {w w':World} {b:Nat} {s:ByteArray} {k:Nat}
theorem Cu.c0 (h:Cu w b s k):w.cell? ⟨b,0,none⟩=some (.string s):=by simp[World.cell?,show w.heap[b]? =_ from h]
theorem Cu.c1 (h:Cu w b s k):w.cell? ⟨b,1,none⟩=some (.int .i64 (k:Int)):=by simp[World.cell?,show w.heap[b]? =_ from h]
theorem Cu.f1 (h:Cu w b s k):w.frozen? ⟨b,1,none⟩=false:=by simp[World.frozen?,show w.heap[b]? =_ from h]
theorem Cu.lt (h:Cu w b s k):b<w.heap.size:=(Array.getElem?_eq_some_iff.1 h).1
theorem Cu.set (h:Cu w b s k) (j:Int) (m:Nat) (hj:j=(m:Int)):Cu (w.setCell ⟨b,1,none⟩ (.int .i64 j)) b s m:=by
 subst hj;simp[Cu,World.setCell,Array.getElem?_modify,show w.heap[b]? =_ from h]
theorem Cu.drewN (h:Cu w b s k) (n:Nat):Cu (w.drewN n) b s k:=h
theorem Cu.alloc (h:Cu w b s k) (o:Obj):Cu (w.alloc o) b s k:=(Below.heap_alloc w o b h.lt).trans h
theorem Cu.kept (h:Cu w b s k) {row:Option Nat} (hg:w.grownBy w' row) (hr:some b≠row):Cu w' b s k:=(hg.block b h.lt hr).trans h
end
theorem ziZ (w:World) (b j:Nat) (v:Value):w.grownBy (w.setCell ⟨b,j,none⟩ v) (some b):=
 ⟨rfl,rfl,rfl,by simp[World.setCell],fun k hk hne=>yuZ w _ _ k (fun e=>hne (by rw[e]))⟩
theorem zjZ (w:World) (n:Nat) (row:Option Nat):w.grownBy (w.drewN n) row:=⟨rfl,rfl,rfl,ybZ _,fun _ _ _=>rfl⟩
theorem zdZ {w:World} {g t:Nat} {cs:Array Value} {fr:Nat×Nat} (h:w.heap[g]? =some (.cells cs t fr)) (j:Nat):w.cell? ⟨g,j,none⟩=cs[j]? :=by simp[World.cell?,h]
theorem zsZ {w:World} {g t:Nat} {cs:Array Value} (h:w.heap[g]? =some (.cells cs t (0,0))) (j:Nat):w.frozen? ⟨g,j,none⟩=false:=by simp[World.frozen?,h]
theorem zaZ {w:World} {g:Nat} {o:Obj} (h:w.heap[g]? =some o):g<w.heap.size:=(Array.getElem?_eq_some_iff.1 h).1
theorem heap_alloc {w:World} {g:Nat} {o:Obj} (h:w.heap[g]? =some o) (o':Obj):(w.alloc o').heap[g]? =some o:=(Below.heap_alloc w o' g (zaZ h)).trans h
theorem zgZ {w:World} {g t:Nat} {a b c d:Value} (h:w.heap[g]? =some (.cells #[a,b,c,d] t (0,0))) :
  w.cell? ⟨g,0,none⟩=some a/\w.cell? ⟨g,1,none⟩=some b/\w.cell? ⟨g,2,none⟩=some c/\w.cell? ⟨g,3,none⟩=some d:=
 ⟨zdZ h 0,zdZ h 1,zdZ h 2,zdZ h 3⟩
theorem zqZ {w:World} {g t:Nat} {a b c d:Value} (h:w.heap[g]? =some (.cells #[a,b,c,d] t (0,0))) :
  w.frozen? ⟨g,0,none⟩=false/\w.frozen? ⟨g,1,none⟩=false/\w.frozen? ⟨g,2,none⟩=false/\w.frozen? ⟨g,3,none⟩=false:=
 ⟨zsZ h 0,zsZ h 1,zsZ h 2,zsZ h 3⟩
theorem zbgZ {w w1 w2:World} {b g:Nat} (h:w.grownBy w1 (some b)) (h':w1.grownBy w2 (some g)) (hg:w.heap.size<=g):w.grownBy w2 (some b):=
 ⟨h'.os.trans h.os,h'.tape.trans h.tape,h'.output.trans h.output,ymZ h.size h'.size,fun k hk hne=>
  (h'.block k (yJZ hk h.size) (fun e=>by injection e with e;omega)).trans (h.block k hk hne)⟩
theorem Cu.far {w:World} {b k:Nat} {s:ByteArray} (h:Cu w b s k) {g:Nat} (hne:b≠g) (j:Nat) (v:Value):Cu (w.setCell ⟨g,j,none⟩ v) b s k:=
 (yuZ w ⟨g,j,none⟩ v b hne).trans h
theorem zkZ (s:ByteArray) (k:Nat) (h:k<s.size):s.data.toList.drop k=s[k]::s.data.toList.drop (k+1):=by
 rw[List.drop_eq_getElem_cons (by simpa using h)];rfl
theorem zcmZ (s:ByteArray) (k m:Nat) (hkm:k<=m) (h:m<s.size):(s.data.toList.drop k).take (m+1-k)=(s.data.toList.drop k).take (m-k)++[s[m]]:=by
 have hl:m-k<(s.data.toList.drop k).length:=by rw[yhbZ,Array.length_toList];have:s.data.size=s.size:=rfl;omega
 rw[show m+1-k=(m-k)+1 from by omega,ykZ hl]
 congr 2
 rw[List.getElem_drop];show s.data.toList[k+(m-k)]'_=s.data.toList[m]'_
 congr 1
 omega
theorem u8_eq (c:UInt8) (n:Nat) (h:n<256):c.toNat=n↔c=UInt8.ofNat n:=by
 constructor
 ·intro e;apply ybbZ.1;rw[e];simp[Nat.mod_eq_of_lt h]
 ·intro e;rw[e];simp[Nat.mod_eq_of_lt h]
theorem zhZ (s:ByteArray):s.data.toList.length=s.size:=by rw[Array.length_toList];rfl
theorem znyZ (l:List UInt8) (c:UInt8):decide (0<=Lib.indexByte l c)=l.contains c:=by
 have H0:=Lib.indexByte_ge l c;rw[yEZ];simp only[yCZ,ySZ];by_cases h:Lib.indexByte l c=-1
 ·constructor
  ·intro;omega
  ·intro hm;obtain⟨k,hk,e⟩:=List.getElem_of_mem hm;exact absurd (by rw[List.getElem?_eq_getElem hk,e]) (Lib.indexByte_none h k)
 ·constructor
  ·intro h0;obtain⟨o,ho⟩:=Int.eq_ofNat_of_zero_le h0;exact List.mem_of_getElem? (Lib.indexByte_some ho).1
  ·intro;omega
theorem zfuZ (b:UInt8) (w:World):Calls Tryz.prog 126 #[.int .u8 (b.toNat:Int)] w fun e w'=>e=.returned (.bool (Lx.begins b))/\w=w':=by
 have hx:=znyZ Lx.signs b;go_enter Tryz.func126, Tryz.ntmps126;go_wp2_with (first | (go_at_call 142;refine(zbnZ _ _).mono ?_;rintro e w' ⟨rfl,rfl⟩) | (go_at_call 143;refine(zcaZ _ _).mono ?_;rintro e w' ⟨rfl,rfl⟩) | (go_at_call 144;refine(Tryz.strings_IndexByte _ _ _).mono ?_;rintro e w' ⟨rfl,rfl⟩))
 all_goals
  go_ret;refine⟨zbfZ ?_,rfl⟩
 ·simp[Lx.begins, *]
 ·simp[Lx.begins, *]
 ·have e:b.toNat=34:=(by omega);simp[Lx.begins,e]
 ·have e:(b.toNat==34)=false:=(by simp;omega);have e2:((b.toNat:Int)==34)=false:=(by simp;omega);change ((b.toNat:Int)==34||decide (0<=Lib.indexByte Lx.signs b))=_;rw[hx,e2];simp[Lx.begins, *]
def IsRef (w:World) (g:Nat) (p y:Int):Prop:=w.heap[g]? =some (.cells #[.int .i64 p,.int .i64 y] 183 (0,0))
theorem zcjZ (p y:Int) (w:World):Calls Tryz.prog 124 #[.int .i64 p,.int .i64 y] w fun e w'=>
  e=.returned (.pointer (some ⟨w.heap.size,0,none⟩))/\w'=w.alloc (.cells #[.int .i64 p,.int .i64 y] 183):=by
 go_enter Tryz.func124, Tryz.ntmps124
 go_wp2
 go_ret;exact⟨rfl,rfl⟩
def wordCells:Array Value:=(Lx.words.map fun l=>Value.string ⟨l.toArray⟩).toArray
def wordText:ByteArray:={ data:=([116,121,112,101,32,109,101,116,104,111,100,32,102,117,110,99,32,109,97,105,110,32,105,110,116,101,114,102,97,99,101,32,101,109,98,101,100,32,105,110,116,32,98,111,111,108,32,116,101,120,116,32,102,110,32,108,101,116,32,112,114].append [105,110,116,32,105,102,32,101,108,115,101,32,119,104,105,108,101,32,114,101,116,117,114,110,32,110,105,108,32,110,101,119,32,116,111,32,97,110,100,32,111,114,32,110,111,116,32,116,114,117,101,32,102,97,108,115,101,32,115,101,108,102]).toArray }
theorem zkdZ:wordText.size<4294967281:=by decide+kernel
theorem zkuZ:wordText.data.toList.all (fun b=>decide (b.toNat<128))=true:=by decide+kernel
theorem zizZ (j:Nat) (b:UInt8) (h:wordText.data.toList[j]? =some b):b.toNat<128:=
 yBZ (yZZ.1 zkuZ b (List.mem_of_getElem? h))
theorem zidZ:Lib.fields wordText.data.toList=Lx.words:=by decide+kernel
theorem zrsZ (w:World) (htab:Lib.TabIs Tryz.prog w "strings.asciiSpace" .u8 Lib.asciiSpaceTab):Calls Tryz.prog 158 #[] w fun e w'=>
  e=.returned (.slice (some ⟨w.heap.size,0,none⟩) 25 25)/\w'=w.alloc (.cells wordCells 9):=by
 go_enter Tryz.func158, Tryz.ntmps158
 go_wp2_with (go_at_call 172;refine(Tryz.strings_Fields wordText _ zkdZ zizZ htab).mono ?_;rw[zidZ];rintro e w' ⟨rfl,rfl⟩)
 go_ret;exact⟨rfl,rfl⟩
theorem gAsc : Tryz.prog.globalNamed "strings.asciiSpace" =some 2 :=by kernel_rfl
theorem gPow : Tryz.prog.globalNamed "internal/strconv.uint64pow10" =some 0 :=by kernel_rfl
def ErrCell (w:World) (g:Nat):Prop:=∃ev,w.cell? ⟨g,0,none⟩=some ev/\(ev=.nilIface\/∃te pe,ev=.iface te pe)
structure GS (w:World):Prop where
 asc:Lib.TabIs Tryz.prog w "strings.asciiSpace" .u8 Lib.asciiSpaceTab
 pow:Lib.TabIs Tryz.prog w "internal/strconv.uint64pow10" .u64 Lib.pow10Tab
 syn:ErrCell w 4
 rng:ErrCell w 5
def NG:Nat:=1+max (max 2 0) (max 4 5)
theorem zebZ {w:World} {n:String} {g:Nat} {cs:Array Value} (hg : Tryz.prog.globalNamed n=some g) (h:w.var? Tryz.prog n=some cs):g<w.heap.size:=by
 unfold World.var? at h;rw[hg]at h;simp only[Option.bind_some]at h;rcases Nat.lt_or_ge g w.heap.size with h1 | h1
 ·exact h1
 ·rw[Array.getElem?_eq_none h1]at h;cases h
theorem zcxZ {w:World} {g:Nat} {v:Value} (h:w.cell? ⟨g,0,none⟩=some v):g<w.heap.size:=World.block_lt_of_cell? w ⟨g,0,none⟩ h
theorem GS.of_heap {w w':World} (h:GS w) (hk:∀k,k<NG->k<w.heap.size->w'.heap[k]? =w.heap[k]?):GS w':=by
 have ha:=zebZ gAsc h.asc;have hp:=zebZ gPow h.pow;obtain⟨e1,h1,h1'⟩:=h.syn;obtain⟨e2,h2,h2'⟩:=h.rng;have hs:=zcxZ h1;have hr:=zcxZ h2;refine⟨?_,?_,⟨e1,?_,h1'⟩,⟨e2,?_,h2'⟩⟩
 ·have:=h.asc;unfold Lib.TabIs World.var? at this ⊢;rw[gAsc]at this ⊢;simp only[Option.bind_some]at this ⊢;rw[hk _ (by decide) ha];exact this
 ·have:=h.pow;unfold Lib.TabIs World.var? at this ⊢;rw[gPow]at this ⊢;simp only[Option.bind_some]at this ⊢;rw[hk _ (by decide) hp];exact this
 ·rw[<-h1];exact World.cell?_of_block (hk _ (by decide) hs)
 ·rw[<-h2];exact World.cell?_of_block (hk _ (by decide) hr)
theorem GS.below {w w':World} (h:GS w) (hb:Below w.heap.size w w'):GS w':=h.of_heap fun k _ hk=>hb.block k hk
theorem GS.grown {w w':World} {b:Nat} (h:GS w) (hg:w.grownBy w' (some b)) (hb:NG<=b):GS w':=h.of_heap fun k hn hk=>hg.block k hk (fun e=>by injection e with e;omega)
theorem GS.alloc {w:World} (h:GS w) (o:Obj):GS (w.alloc o):=h.of_heap fun k _ hk=>Below.heap_alloc w o k hk
theorem GS.drewN {w:World} (h:GS w) (n:Nat):GS (w.drewN n):=h.of_heap fun _ _ _=>rfl
def bytesV (l:List UInt8):List Value:=l.map fun c=>Value.int .u8 (c.toNat:Int)
theorem zgxZ (l:List UInt8) (c:UInt8):bytesV (l++[c])=bytesV l++[.int .u8 (c.toNat:Int)]:=by simp[bytesV]
def OwnB (w:World) (base:Nat) (v:Value) (l:List UInt8):Prop:=w.ownsRow base 5 1 v l.length (bytesV l)
theorem zddZ:(Tryz.prog.info? 5).map (fun i=>(i.zero,i.size,i.bytes))=some (some (.int .u8 0),1,1):=by kernel_rfl
theorem OwnB.nil (w:World) (base:Nat):OwnB w base (.slice none 0 0) []:=yOZ w base _ 1
theorem OwnB.alloc {w:World} {base:Nat} {v:Value} {l:List UInt8} (h:OwnB w base v l) (o:Obj):OwnB (w.alloc o) base v l:=World.ownsRow.alloc h o
theorem OwnB.drewN {w:World} {base:Nat} {v:Value} {l:List UInt8} (h:OwnB w base v l) (n:Nat):OwnB (w.drewN n) base v l:=World.ownsRow.kept h (zjZ w n none) (by cases v.ownBlock <;> simp)
theorem OwnB.set {w:World} {base b:Nat} {v:Value} {l:List UInt8} (h:OwnB w base v l) (hb:b<base) (j:Nat) (x:Value):OwnB (w.setCell ⟨b,j,none⟩ x) base v l:=
 World.ownsRow.kept h (ziZ w b j x) (by
  rcases hv:v.ownBlock with _ | g
  ·exact .inl rfl
  ·exact .inr fun e=>by
    injection e with e;have:=(World.ownsRow.lt h g hv).1
    omega)
theorem OwnB.slice {w:World} {base:Nat} {v:Value} {l:List UInt8} (h:OwnB w base v l):∃A c,v=.slice A l.length c:=by
 rcases h.2 with⟨rfl,h0⟩ | ⟨g,cap,cur,rfl,_⟩
 ·exact⟨none,0,by rw[h0]⟩
 ·exact⟨_,cap,rfl⟩
theorem OwnB.base {w:World} {base:Nat} {v:Value} {l:List UInt8} (h:OwnB w base v l) (k:Nat) (hk:v.ownBlock=some k):base<=k:=(World.ownsRow.lt h k hk).1
theorem zcnZ {ops:Array Oper} {rest:List Oper} {o:Oper} {a:Act} {Q:Exit->Act->World->Prop} {W:World} (base:Nat) (hgd:o.guard=none) (s x:Operand)
  (ho:o.op=.call { callee:=.builtin .append,args:=#[s,x],argTypes:=#[98, 98] })
  (v:Value) (l:List UInt8) (c:UInt8) (hs:a.eval s=v) (hx:a.eval x=.slice (some ⟨W.heap.size,0,none⟩) 1 1) (HO:OwnB W base v l) (hbase:base<=W.heap.size) (hl:l.length<=140737488351232)
  (h:∀v1 w1,OwnB w1 base v1 (l++[c])->(W.alloc (.cells #[.int .u8 (c.toNat:Int)] 5)).grownBy w1 v.ownBlock->wpList Tryz.prog ops Q rest (a.put o.dst v1) w1) :
  wpList Tryz.prog ops Q (o::rest) a (W.alloc (.cells #[.int .u8 (c.toNat:Int)] 5)):=by
 obtain⟨i0,hi,hz0,hz1,hz2⟩:=info_parts zddZ;refine wpList_append_own (W.alloc (.cells #[.int .u8 (c.toNat:Int)] 5)) hgd s x 98 ho base 5 i0 (.int .u8 0) 1 1 Tryz.underlying98 hi hz0 hz1 hz2 rfl (by decide) v l.length (bytesV l) hs (World.ownsRow.alloc HO _) ⟨W.heap.size,0,none⟩ 1 1 [.int .u8 (c.toNat:Int)] hx rfl (cell_one_new _ _ _) (by simp[Value.oneCell']) (by unfold maxLen;omega) (by omega) (by simp;omega) ?_;intro v1 w1 hown hg _;refine h v1 w1 ?_ hg;unfold OwnB;rw[zgxZ];simpa using hown
theorem zkvZ {ops:Array Oper} {o:Oper} {a:Act} {K:Act->World->Prop} {Q:Exit->Act->World->Prop} {E:Prop} {W:World} (base:Nat) (hgd:o.guard=none) (s x:Operand)
  (ho:o.op=.call { callee:=.builtin .append,args:=#[s,x],argTypes:=#[98, 98] })
  (v:Value) (l:List UInt8) (c:UInt8) (N:Nat) (hs:a.eval s=v) (hx:a.eval x=.slice (some ⟨N,0,none⟩) 1 1) (hN:W.heap[N]? =some (.cells #[.int .u8 (c.toNat:Int)] 5 (0,0)))
  (HO:OwnB W base v l) (hbase:base<=W.heap.size) (hl:l.length<=140737488351232)
  (h:∀v1 w1,OwnB w1 base v1 (l++[c])->W.grownBy w1 v.ownBlock->K (a.put o.dst v1) w1) :
  if Region.wanted o (yielded ops a.tmps)=true then Oper.wp Tryz.prog o a W K Q else E:=by
 obtain⟨i0,hi,hz0,hz1,hz2⟩:=info_parts zddZ;rw[if_pos (by simp[Region.wanted,hgd])];refine wp_append_own W s x 98 ho base 5 i0 (.int .u8 0) 1 1 Tryz.underlying98 hi hz0 hz1 hz2 rfl (by decide) v l.length (bytesV l) hs HO ⟨N,0,none⟩ 1 1 [.int .u8 (c.toNat:Int)] hx rfl ?_ (by simp[Value.oneCell']) (by unfold maxLen;omega) (by omega) hbase ?_
 ·intro j u hj
  match j,hj with
  | 0,hj=>simp at hj;subst hj;show W.cell? ⟨N,0,none⟩=_;rw[zdZ hN];rfl
 ·intro v1 w1 hown hg _;refine h v1 w1 ?_ hg;unfold OwnB;rw[zgxZ];simpa using hown
theorem zdpZ {W:World} {base:Nat} {v:Value} {l:List UInt8} (h:OwnB W base v l):(convert 98 9 v).run Tryz.prog W=.ok (.string ⟨l.toArray⟩) W:=by
 rcases h.2 with⟨rfl,h0⟩ | ⟨g,cap,cur,rfl,hb,hg,hn,hm,hcs,ht⟩
 ·have:l=[]:=List.eq_nil_of_length_eq_zero h0;subst this;exact run_convert_bytes_nil W 98 5 Tryz.underlying98 Tryz.underlying5 0 0 _ Tryz.underlying9
 ·have e:(⟨l.toArray⟩:ByteArray)=strOfNums (l.map fun c=>(c.toNat:Int)):=by
   have:(l.map fun c=>(c.toNat:Int)).map (fun n=>UInt8.ofNat n.toNat)=l:=by
    rw[List.map_map]
    conv=>rhs;rw[<-List.map_id l]
    congr 1
    funext c
    simp
   unfold strOfNums;rw[this]
  rw[e];refine run_convert_bytes_arg W 98 5 Tryz.underlying98 Tryz.underlying5 g 0 l.length cap _ (by simp) (fun i hi=>?_) _ Tryz.underlying9
  have hc:=World.ownsRow.cells h (g:=g) rfl i (.int .u8 ((l.map fun c=>(c.toNat:Int)).getD i 0)) (by
   simp[bytesV,List.getD_eq_getElem?_getD,List.getElem?_eq_getElem hi])
  have ha:(⟨g,0,none⟩:Addr).add i=⟨g,0+i,none⟩:=by unfold Addr.add;split <;> simp_all
  rwa [ha]at hc
end Go.Proofs.YtdncljdfmdgdaaaGreatDoor
namespace Go.Proofs.YtdncljdfmdgdaaaGreatDoor
open Go.RowKit Go.Shelf
theorem zncZ:(Tryz.prog.info? 100).map (·.size)=some 2:=by kernel_rfl
theorem zujZ:liesAt Tryz.prog Tryz.prog.depth 100 (2 / Tryz.prog.cellsOf 100) 0 100 1=true:=by kernel_rfl
theorem zndZ (b:Nat) (w:World) (h0:w.cell? ⟨b,0,none⟩=some (.pointer (some ⟨b,0,none⟩))) :
  Calls Tryz.prog 129 #[.pointer (some ⟨b,0,none⟩)] w fun e w'=>e=.returned (.tuple #[])/\w'=w:=by
 obtain⟨j,hj,_⟩:=yibZ.1 zncZ;go_enter Tryz.func129, Tryz.ntmps129;go_wp2;rw[Lib.run_neq_ptr_same w _ Tryz.underlying97 hj];go_wp2;go_end0;exact⟨rfl,rfl⟩
theorem zrtZ (b:Nat) (w:World) (h0:w.cell? ⟨b,0,none⟩=some (.pointer none)) (hsh:w.shape? b=some (100,2)) (hfz:w.frozen? ⟨b,0,none⟩=false) :
  Calls Tryz.prog 129 #[.pointer (some ⟨b,0,none⟩)] w fun e w'=>e=.returned (.tuple #[])/\w'=w.setCell ⟨b,0,none⟩ (.pointer (some ⟨b,0,none⟩)):=by
 obtain⟨j,hj,hjs⟩:=yibZ.1 zncZ;go_enter Tryz.func129, Tryz.ntmps129;go_wp2;rw[Lib.run_to_unsafe w ⟨b,0,none⟩ Tryz.underlying97 Tryz.underlying187 hj (by rw[hjs];decide) hsh (Nat.zero_lt_succ 1)];simp only[Result.andThen];rw[Oper.upon_value];go_wp2;rw[run_callFunc_extern Tryz.func148 (by kernel_rfl) (by kernel_rfl) (by kernel_rfl) (e:=Extern.AbiNoEscape.same) (by kernel_rfl)];rw[Lib.run_noEscape];simp only[Result.andThen];rw[Oper.upon_value];go_wp2;rw[Lib.run_from_unsafe w ⟨b,0,none⟩ Tryz.underlying187 Tryz.underlying97 hj hsh zujZ];simp only[Result.andThen];rw[Oper.upon_value];go_wp2;go_end0;exact⟨rfl,rfl⟩
def Bld (B b:Nat) (l:List UInt8) (w:World):Prop:=Lib.IsBuilder 100 5 B b (Lib.byteCells l) w
theorem zkwZ (B b:Nat) (l:List UInt8) (w:World) (h:Bld B b l w) :
  Calls Tryz.prog 129 #[.pointer (some ⟨b,0,none⟩)] w fun e w'=>e=.returned (.tuple #[])/\(Lib.BuilderAt 100 5 B b (.pointer (some ⟨b,0,none⟩)) (Lib.byteCells l) w'/\Below B w w'):=by
 rcases h with h | h
 ·refine(zrtZ b w h.cell0 h.shape h.frozen0).mono ?_;rintro e w' ⟨rfl,rfl⟩;exact⟨rfl,h.used _,(yqZ B w).setCell (p:=⟨b,0,none⟩) h.1 _⟩
 ·refine(zndZ b w h.cell0).mono ?_;rintro e w' ⟨rfl,rfl⟩;exact⟨rfl,h,yqZ B _⟩
theorem zbrZ (l:List UInt8):(Lib.byteCells l).length=l.length:=by simp[Lib.byteCells]
theorem zdqZ (B b:Nat) (l:List UInt8) (c:UInt8) (w:World) (h:Bld B b l w) (hlen:l.length+1<=140737488355328) (hBw:B<=w.heap.size) :
  Calls Tryz.prog 93 #[.pointer (some ⟨b,0,none⟩),.int .u8 (c.toNat:Int)] w fun e w'=>e=.returned .nilIface/\Bld B b (l++[c]) w'/\Below B w w':=by
 obtain⟨i0,hi,hz0,hz1,hz2⟩:=info_parts zddZ;have H4:=zbrZ l;go_enter Tryz.func93, Tryz.ntmps93;go_wp2_with (go_at_call 129;refine(zkwZ B b l _ h).mono ?_);rintro e w1 ⟨rfl,h1,H2⟩;obtain⟨hB,v,hbk,hown,hne⟩:=h1;have H3:b<w1.heap.size:=zaZ hbk;have c0:w1.cell? ⟨b,0,none⟩=some (.pointer (some ⟨b,0,none⟩)):=by rw[Lib.cell_of_heap hbk];rfl
 have c1:w1.cell? ⟨b,1,none⟩=some v:=by rw[Lib.cell_of_heap hbk];rfl
 have H5:=H2.size;go_wp2_with (at_builtin;refine wpList_append_own _ rfl _ _ 98 rfl B 5 i0 (.int .u8 0) 1 1 Tryz.underlying98 hi hz0 hz1 hz2 rfl (by decide) _ _ _ rfl (hown.alloc _) ⟨w1.heap.size,0,none⟩ 1 1 [.int .u8 (c.toNat:Int)] rfl rfl (cell_one_new _ _ _) (by simp[Value.oneCell']) (by unfold maxLen;omega) (by omega) (by simp;omega) ?_);intro v' w2 hown' H0 _;have H1:w2.heap[b]? =some (.cells #[.pointer (some ⟨b,0,none⟩),v] 100 (0,0)):=by rw[H0.block b (by simp;omega) (fun e=>hne e.symm),Lib.alloc_old w1 _ b H3];exact hbk
 have d0:w2.cell? ⟨b,0,none⟩=some (.pointer (some ⟨b,0,none⟩)):=by rw[Lib.cell_of_heap H1];rfl
 have d1:w2.cell? ⟨b,1,none⟩=some v:=by rw[Lib.cell_of_heap H1];rfl
 have f1:w2.frozen? ⟨b,1,none⟩=false:=Lib.frozen_of_heap H1 1;obtain⟨g,cap,rfl⟩:=ownsRow_succ hown';go_wp2;go_ret;refine⟨rfl,.inr ?_,?_⟩
 ·have e:Lib.byteCells (l++[c])=Lib.byteCells l++[.int .u8 (c.toNat:Int)]:=(by simp[Lib.byteCells]);rw[e];exact Lib.BuilderAt.put (T:= 100) (e:= 5) hB H1 (bs':=Lib.byteCells l++[.int .u8 (c.toNat:Int)]) (by rw[show(Lib.byteCells l++[Value.int .u8 (c.toNat:Int)]).length=l.length+1 from by simp[zbrZ]];exact hown') (by decide)
 ·exact((H2.alloc (by omega) _).grown H0 (by simp;omega) (fun k hk=>(hown.lt k hk).1)).setCell (p:=⟨b,1,none⟩) hB _
theorem zkxZ (B b:Nat) (l:List UInt8) (s:ByteArray) (w:World) (h:Bld B b l w) (hlen:l.length+s.size<=140737488355328) (hBw:B<=w.heap.size) :
  Calls Tryz.prog 94 #[.pointer (some ⟨b,0,none⟩),.string s] w fun e w'=>e=.returned (.tuple #[.int .i64 s.size,.nilIface])/\Bld B b (l++s.data.toList) w'/\Below B w w':=by
 obtain⟨i0,hi,hz0,hz1,hz2⟩:=info_parts zddZ;have H4:=zbrZ l;go_enter Tryz.func94, Tryz.ntmps94;go_wp2_with (go_at_call 129;refine(zkwZ B b l _ h).mono ?_);rintro e w1 ⟨rfl,h1,H2⟩;obtain⟨hB,v,hbk,hown,hne⟩:=h1;have H3:b<w1.heap.size:=zaZ hbk;have c0:w1.cell? ⟨b,0,none⟩=some (.pointer (some ⟨b,0,none⟩)):=by rw[Lib.cell_of_heap hbk];rfl
 have c1:w1.cell? ⟨b,1,none⟩=some v:=by rw[Lib.cell_of_heap hbk];rfl
 have H5:=H2.size;go_wp2_with (at_builtin;refine Lib.wpList_append_own_string (P:= Tryz.prog) (w:=w1) rfl _ _ 98 9 rfl B 5 i0 Tryz.underlying98 Tryz.underlying9 hi hz0 hz1 hz2 _ _ _ rfl hown s rfl (by unfold maxLen;omega) (by omega) (by omega) ?_);intro v' w2 hown' H0 _;have H1:w2.heap[b]? =some (.cells #[.pointer (some ⟨b,0,none⟩),v] 100 (0,0)):=by rw[H0.block b H3 (fun e=>hne e.symm)];exact hbk
 have d0:w2.cell? ⟨b,0,none⟩=some (.pointer (some ⟨b,0,none⟩)):=by rw[Lib.cell_of_heap H1];rfl
 have d1:w2.cell? ⟨b,1,none⟩=some v:=by rw[Lib.cell_of_heap H1];rfl
 have f1:w2.frozen? ⟨b,1,none⟩=false:=Lib.frozen_of_heap H1 1;obtain⟨A0,cap,rfl⟩:∃A c,v'=.slice A (l.length+s.size) c:=by
  rcases hown'.2 with⟨rfl,h0⟩ | ⟨g,cap,cur,rfl,_⟩
  ·exact⟨none,0,by rw[h0]⟩
  ·exact⟨_,cap,rfl⟩
 go_wp2
 refine ylZ (yDZ rfl _ _ _) rfl ?_;refine⟨rfl,.inr ?_,?_⟩
 ·have e:Lib.byteCells (l++s.data.toList)=Lib.byteCells l++Lib.strCells s:=(by simp[Lib.byteCells,Lib.strCells]);rw[e];exact Lib.BuilderAt.put (T:= 100) (e:= 5) hB H1 (bs':=Lib.byteCells l++Lib.strCells s) (by rw[show(Lib.byteCells l++Lib.strCells s).length=l.length+s.size from hown'.1.trans (Nat.mul_one _)];exact hown') (by decide)
 ·exact(H2.grown H0 (by omega) (fun k hk=>(hown.lt k hk).1)).setCell (p:=⟨b,1,none⟩) hB _
end Go.Proofs.YtdncljdfmdgdaaaGreatDoor
namespace Go.Proofs.YtdncljdfmdgdaaaGreatDoor
open Go.RowKit
def skipAt (s:ByteArray) (k:Nat):Nat:=s.size-(Lx.skip false (s.data.toList.drop k)).length
theorem zjmZ {s:ByteArray} {k m:Nat} (h:Lx.skip false (s.data.toList.drop k)=s.data.toList.drop m) (hm:m<=s.size):skipAt s k=m:=by
 unfold skipAt;rw[h,yhbZ,zhZ];omega
end Go.Proofs.YtdncljdfmdgdaaaGreatDoor
