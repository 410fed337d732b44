import Derived.WalkKit
import Derived.Deep.QuietTactic
import Derived.BigQuiet
open Go.IntKind (u8 u16 i64)
set_option linter.unusedVariables false
set_option linter.unusedSimpArgs false
namespace Go
theorem Ya {α:Type _} {a b:α}:cond true a b=a:=rfl
theorem Yb:type_of% @Bool.and_eq_true:=@Bool.and_eq_true
theorem Yc {α:Type _} {a b:α}:cond false a b=b:=rfl
theorem Yd:type_of% @List.length_append:=@List.length_append
theorem Ye:type_of% @Nat.le_refl:=@Nat.le_refl
theorem Yf:type_of% @decide_eq_true_eq:=@decide_eq_true_eq
theorem Yg:type_of% @List.getElem?_eq_getElem:=@List.getElem?_eq_getElem
theorem Yh :(!true)=false:=rfl
theorem Yi :(!true)=false:=rfl
theorem Yj:type_of% @Bool.false_or:=@Bool.false_or
theorem Yk:type_of% @Bool.or_true:=@Bool.or_true
theorem Yl:type_of% @List.getD_eq_getElem?_getD:=@List.getD_eq_getElem?_getD
theorem Ym :(!false)=true:=rfl
theorem Yn :(!false)=true:=rfl
theorem Yo:type_of% @List.append_assoc:=@List.append_assoc
theorem Yp:type_of% @List.getElem?_append_left:=@List.getElem?_append_left
theorem Yq:type_of% @Bool.or_eq_false_iff:=@Bool.or_eq_false_iff
theorem Yr:type_of% @Nat.zero_le:=@Nat.zero_le
theorem Ys:type_of% @List.mem_cons:=@List.mem_cons
theorem Yt:type_of% @Nat.beq_eq:=@Nat.beq_eq
theorem Yu:type_of% @Nat.zero_add:=@Nat.zero_add
theorem Yv:type_of% @Array.getElem?_eq_some_iff:=@Array.getElem?_eq_some_iff
theorem Yw:type_of% @Bool.true_or:=@Bool.true_or
theorem Yx:type_of% @Bool.or_false:=@Bool.or_false
theorem Yy:type_of% @Nat.ble_eq:=@Nat.ble_eq
theorem Yz:type_of% @decide_eq_true:=@decide_eq_true
theorem YA:type_of% @List.mem_cons_of_mem:=@List.mem_cons_of_mem
theorem YB:type_of% @Option.map_eq_some_iff:=@Option.map_eq_some_iff
theorem YC:type_of% @List.pairwise_cons:=@List.pairwise_cons
theorem YD:type_of% @Nat.le_trans:=@Nat.le_trans
theorem YE:type_of% @List.getElem?_eq_some_iff:=@List.getElem?_eq_some_iff
theorem YF:type_of% @List.getD_cons_zero:=@List.getD_cons_zero
theorem YG:type_of% @List.append_nil:=@List.append_nil
theorem YH:type_of% @List.length_take:=@List.length_take
theorem YI:type_of% @List.getElem?_take:=@List.getElem?_take
theorem YJ:type_of% @Bool.not_eq_true':=@Bool.not_eq_true'
theorem YK:type_of% @Bool.eq_false_iff:=@Bool.eq_false_iff
theorem YL:type_of% @Array.getD_eq_getD_getElem?:=@Array.getD_eq_getD_getElem?
theorem YM:type_of% @Bool.or_eq_true:=@Bool.or_eq_true
theorem YN:type_of% @List.getElem?_drop:=@List.getElem?_drop
theorem YO:type_of% @List.length_drop:=@List.length_drop
theorem YP:type_of% @Array.getElem?_eq_getElem:=@Array.getElem?_eq_getElem
theorem YQ:type_of% @Bool.true_and:=@Bool.true_and
theorem YR:type_of% @decide_eq_false:=@decide_eq_false
theorem YS:type_of% @Nat.mul_le_mul_right:=@Nat.mul_le_mul_right
theorem YT:type_of% @List.getElem?_append_right:=@List.getElem?_append_right
theorem YU:type_of% @List.all_eq_true:=@List.all_eq_true
theorem YV:type_of% @List.mem_append:=@List.mem_append
theorem YW:type_of% @List.take_of_length_le:=@List.take_of_length_le
theorem YX:type_of% @if_pos:=@if_pos
theorem YY:type_of% @Bool.and_true:=@Bool.and_true
theorem YZ:type_of% @Bool.false_and:=@Bool.false_and
theorem Y0:type_of% @List.getElem?_eq_none:=@List.getElem?_eq_none
theorem Y1:type_of% @Bool.and_self:=@Bool.and_self
theorem Y2:type_of% @List.length_eq_zero_iff:=@List.length_eq_zero_iff
theorem Y3:type_of% @if_neg:=@if_neg
theorem Y4:type_of% @Int.eq_ofNat_of_zero_le:=@Int.eq_ofNat_of_zero_le
theorem Y5:type_of% @decide_eq_false_iff_not:=@decide_eq_false_iff_not
theorem Y6:type_of% @List.drop_eq_nil_of_le:=@List.drop_eq_nil_of_le
theorem Y7:type_of% @List.size_toArray:=@List.size_toArray
theorem Y8:type_of% @List.mem_singleton:=@List.mem_singleton
theorem Y9:type_of% @List.eq_nil_of_length_eq_zero:=@List.eq_nil_of_length_eq_zero
theorem Yaa:type_of% @List.drop_eq_getElem_cons:=@List.drop_eq_getElem_cons
theorem Yab:type_of% @Int.toNat_of_nonneg:=@Int.toNat_of_nonneg
theorem Yac:type_of% @List.concat_eq_append:=@List.concat_eq_append
theorem Yad:type_of% @Nat.eq_of_beq_eq_true:=@Nat.eq_of_beq_eq_true
theorem Yae:type_of% @Nat.lt_or_ge:=@Nat.lt_or_ge
theorem Yaf:type_of% @Nat.blt_eq:=@Nat.blt_eq
theorem Yag:type_of% @List.eq_nil_or_concat:=@List.eq_nil_or_concat
theorem Yah:type_of% @List.drop_left':=@List.drop_left'
theorem Yai:type_of% @List.pairwise_append:=@List.pairwise_append
theorem Yaj:type_of% @Array.replicate_succ:=@Array.replicate_succ
theorem Yak:type_of% @List.take_add_one:=@List.take_add_one
theorem Yal:type_of% @List.append_toArray:=@List.append_toArray
theorem Yam:type_of% @List.take_append_drop:=@List.take_append_drop
theorem Yan:type_of% @Bool.and_eq_false_iff:=@Bool.and_eq_false_iff
theorem Yao:type_of% @List.getElem?_set_ne:=@List.getElem?_set_ne
theorem Yap:type_of% @List.Pairwise.nil:=@List.Pairwise.nil
theorem Yaq:type_of% @List.push_toArray:=@List.push_toArray
theorem Yar:type_of% @Option.bind_eq_some_iff:=@Option.bind_eq_some_iff
theorem Yas:type_of% @List.getElem?_map:=@List.getElem?_map
theorem Yat:type_of% @Nat.add_assoc:=@Nat.add_assoc
theorem Yau:type_of% @Bool.and_false:=@Bool.and_false
theorem Yav:type_of% @List.take_left':=@List.take_left'
theorem Yaw:type_of% @List.mem_of_mem_drop:=@List.mem_of_mem_drop
theorem Yax:type_of% @Bool.cond_self:=@Bool.cond_self
theorem Yay:type_of% @List.getElem?_set_self:=@List.getElem?_set_self
theorem Yaz:type_of% @List.mem_range:=@List.mem_range
theorem YaA:type_of% @beq_iff_eq:=@beq_iff_eq
theorem YaB:type_of% @List.getElem?_of_mem:=@List.getElem?_of_mem
theorem YaC:type_of% @Array.ext':=@Array.ext'
theorem YaD:type_of% @Nat.lt_succ_self:=@Nat.lt_succ_self
theorem YaE:type_of% @beq_self_eq_true:=@beq_self_eq_true
theorem YaF:type_of% @Array.toList_map:=@Array.toList_map
theorem YaG:type_of% @List.pairwise_iff_getElem:=@List.pairwise_iff_getElem
theorem YaH:type_of% @List.getElem?_range:=@List.getElem?_range
theorem YaI:type_of% @List.length_set:=@List.length_set
theorem YaJ:type_of% @List.cons.injEq:=@List.cons.injEq
theorem YaK:type_of% @List.mem_cons_self:=@List.mem_cons_self
theorem YaL:type_of% @Nat.lt_of_lt_of_le:=@Nat.lt_of_lt_of_le
theorem YaM:type_of% @Nat.add_mul:=@Nat.add_mul
theorem YaN:type_of% @List.take_length:=@List.take_length
theorem YaO:type_of% @Ne.symm:=@Ne.symm
theorem YaP:type_of% @List.mem_iff_getElem:=@List.mem_iff_getElem
theorem YaQ:type_of% @List.map_append:=@List.map_append
theorem YaR:type_of% @Nat.mul_le_mul_left:=@Nat.mul_le_mul_left
theorem YaS:type_of% @Bool.or_self:=@Bool.or_self
theorem YaT:type_of% @Nat.add_comm:=@Nat.add_comm
theorem YaU:type_of% @Nat.eq_zero_or_pos:=@Nat.eq_zero_or_pos
theorem YaV:type_of% @BitVec.toNat_ofInt:=@BitVec.toNat_ofInt
theorem YaW:type_of% @Nat.le_succ:=@Nat.le_succ
theorem YaX:type_of% @List.foldl_append:=@List.foldl_append
theorem YaY:type_of% @Option.isSome_iff_exists:=@Option.isSome_iff_exists
theorem YaZ:type_of% @List.map_cons:=@List.map_cons
theorem Ya0:type_of% @List.getElem_mem:=@List.getElem_mem
theorem Ya1:type_of% @List.append_inj':=@List.append_inj'
theorem Ya2:type_of% @Nat.mod_eq_of_lt:=@Nat.mod_eq_of_lt
theorem Ya3:type_of% @decide_false:=@decide_false
theorem Ya4:type_of% @List.map_map:=@List.map_map
theorem Ya5:type_of% @List.map_nil:=@List.map_nil
theorem Ya6:type_of% @Classical.em:=@Classical.em
theorem Ya7:type_of% @Nat.min_eq_left:=@Nat.min_eq_left
theorem Ya8:type_of% @List.mem_iff_getElem?:=@List.mem_iff_getElem?
end Go
namespace Go.S3
theorem oinj {α:Type _} (a b:α):(some a=some b)=(a=b):=Option.some.injEq a b
theorem pinj {α:Type _} {β:Type _} (a:α) (b:β) (c:α) (d:β):((a,b)=(c,d))=(a=c/\b=d):=Prod.mk.injEq a b c d

theorem Tv:True:=trivial
inductive R where
 |int (k:IntKind)
 |bool
 |str
 |sl (r:R)
 |Pq (a b:R)
 |unit
 deriving Inhabited
@[reducible] def R.den:R->Type
 | .int _=>Int
 | .bool=>Bool
 | .str=>ByteArray
 | .sl r=>List r.den
 | .Pq a b=>a.den×b.den
 | .unit=>Unit
def R.wid:R->Nat
 | .int _| .bool| .str| .sl _=>1
 | .Pq a b=>a.wid+b.wid
 | .unit=>0
def R.Df:(r:R)->r.den
 | .int _=>(0:Int)
 | .bool=>false
 | .str=>ByteArray.empty
 | .sl _=>[]
 | .Pq a b=>(a.Df,b.Df)
 | .unit=>()
inductive EqR (a:R):R->Type
 |refl:EqR a a
def EqR.cast {a b:R}:EqR a b->a.den->b.den
 | .refl,x=>x
def EqR.slc {a b:R}:EqR a b->EqR (.sl a) (.sl b)
 | .refl=>.refl
def EqR.ofEq {a b:R} (h:a=b):EqR a b:=h▸ .refl
def Zj5:IntKind->IntKind->Bool
 | .i8,.i8| .i16,.i16| .i32,.i32| .i64,.i64| .u8,.u8| .u16,.u16| .u32,.u32| .u64,.u64=>true
 |_,_=>false
theorem ZdW {a b:IntKind} (h:Zj5 a b=true):a=b:=by cases a<;>cases b<;>first|rfl|(simp[Zj5] at h)
def R.same:(a b:R)->Option (EqR a b)
 | .int k,.int k'=>match h:Zj5 k k' with
  |true=>some (.ofEq (by rw[ZdW h]))
  |false=>none
 | .bool,.bool=>some .refl
 | .str,.str=>some .refl
 | .sl r,.sl r'=>match R.same r r' with
  |some .refl=>some .refl
  |none=>none
 | .Pq a b,.Pq a' b'=>match R.same a a',R.same b b' with
  |some .refl,some .refl=>some .refl
  |_,_=>none
 | .unit,.unit=>some .refl
 |_,_=>none
inductive A where
 |bool (lit:Bool) (b:Bool)
 |int (lit:Bool) (k:IntKind) (n:Int)
 |str (s:ByteArray)
 |loc (b off:Nat)
 |nilp
 |nilsl
 |lst (r:R) (lit full nn:Bool) (l:List r.den)
 |tip (h ver:Nat)
 |fp (cells:List A)
 |sp (h ver:Nat) (i:Int) (off:Nat)
 |clo (f:FuncId) (caps:List A)
 |raw (v:Value)
 |junk
 deriving Inhabited
inductive W where
 |one (a:A)
 |agg (l:List A)
 |junk
 deriving Inhabited
inductive V where
 |w (x:W)
 |tup (l:List W)
 deriving Inhabited
inductive RT (α:Type) where
 |Lf (a:α)
 |br (b:Bool) (t f:RT α)
def RT.val {α:Type}:RT α->α
 | .Lf a=>a
 | .br b t f=>cond b t.val f.val
def RT.bind {α β:Type} (t:RT α) (f:α->RT β):RT β:=
 match t with
 | .Lf a=>f a
 | .br b t e=>.br b (t.bind f) (e.bind f)
def RT.map {α β:Type} (f:α->β):RT α->RT β
 | .Lf a=>.Lf (f a)
 | .br b t e=>.br b (t.map f) (e.map f)
structure Stg where
 r:R
 T:TypeId
 l:List r.den
 ver:Nat
 fzn:Bool
 ffz:Bool
 lit:Bool
 ub:Nat
structure Mem where
 Bx:List (List A)
 Sg:List Stg
structure St where
 Sl:List V
 mem:Mem
 dirty:Nat
 bd:List (Nat×Nat)
 sd:List Nat
inductive K where
 |normal
 |exit (id:Nat)
 |ret
 |stop
structure Out where
 k:K
 s:St
structure Res where
 chk:Option Bool
 v:V
 m:Mem
 bd:List (Nat×Nat)
 sd:List Nat
inductive En where
 |pure (p:List V->Option (Option Bool×V))
 |tree (g:List V->Mem->RT (Option Res))
 |read (g:List V->Mem->Option (Option Bool×V))
 |own (g:List V->Mem->RT (Option Res))
def En.plain:En->En
 | .own g=>.tree g
 | .pure p=>.pure p
 | .tree g=>.tree g
 | .read g=>.read g
theorem En.plain_read {e:En} {g:List V->Mem->Option (Option Bool×V)} (h:e.plain=.read g):e=.read g:=by cases e<;>simp_all [En.plain]
abbrev Ora:=St->RT Out
structure Env where
 P:Program
 calls:FuncId->Option En
 loops:Nat->Option Ora
 named:Nat
 fuel:Nat
def nth {α:Type}:List α->Nat->Option α
 |[],_=>none
 |a::_,0=>some a
 |_::l,n+1=>nth l n
def setN {α:Type}:List α->Nat->α->List α
 |[],_,_=>[]
 |_::l,0,x=>x::l
 |a::l,n+1,x=>a::setN l n x
def ZpN {α:Type}:Nat->List α->Option (List α)
 |0,_=>some []
 |_+1,[]=>none
 |n+1,a::l=>match ZpN n l with
  |some r=>some (a::r)
  |none=>none
def Zdk {α:Type}:Nat->List α->List α
 |0,l=>l
 |_+1,[]=>[]
 |n+1,_::l=>Zdk n l
def Z0 {α:Type}:Nat->List α->List α
 |0,_=>[]
 |_+1,[]=>[]
 |n+1,a::l=>a::Z0 n l
def putN {α:Type}:List α->Nat->List α->Option (List α)
 |l,_,[]=>some l
 |l,o,x::xs=>match nth l o with
  |some _=>putN (setN l o x) (o+1) xs
  |none=>none
def memN:List Nat->Nat->Bool
 |[],_=>false
 |a::l,n=>Nat.beq a n||memN l n
def len {α:Type}:List α->Nat
 |[]=>0
 |_::l=>len l+1
def Zut {α:Type}:List α->Bool
 |[]=>true
 |_::_=>false
def rep {α:Type} (x:α):Nat->List α
 |0=>[]
 |n+1=>x::rep x n
def R.enc:(r:R)->r.den->List A
 | .int k,n=>[.int false k n]
 | .bool,b=>[.bool false b]
 | .str,s=>[.str s]
 | .sl r,l=>[.lst r false false false l]
 | .Pq a b,x=>a.enc x.1++b.enc x.2
 | .unit,_=>[]
def decI (k:IntKind):List A->Option (Int×List A)
 | .int _ k' n::l=>match Zj5 k' k with
  |true=>some (n,l)
  |false=>none
 |_=>none
def decB:List A->Option (Bool×List A)
 | .bool _ b::l=>some (b,l)
 |_=>none
def decS:List A->Option (ByteArray×List A)
 | .str s::l=>some (s,l)
 |_=>none
def decL (r:R):List A->Option (List r.den×List A)
 | .lst r' _ _ _ x::l=>match R.same r' r with
  |some e=>some (EqR.cast e.slc x,l)
  |none=>none
 | .nilsl::l=>some ([],l)
 |_=>none
def R.dec:(r:R)->List A->Option (r.den×List A)
 | .int k,l=>decI k l
 | .bool,l=>decB l
 | .str,l=>decS l
 | .sl r,l=>decL r l
 | .Pq a b,l=>match a.dec l with
  |some (x,l)=>match b.dec l with
   |some (y,l)=>some ((x,y),l)
   |none=>none
  |none=>none
 | .unit,l=>some ((),l)
def R.decW (r:R) (l:List A):Option r.den:=match r.dec l with
 |some (x,[])=>some x
 |_=>none
def R.get (r:R) (l:List r.den) (i:Int):r.den:=l.getD i.toNat r.Df
def ZFt:Value->Option A
 | .bool b=>some (.bool true b)
 | .int k n=>match decide (k.min<=n)&&decide (n<=k.max) with
  |true=>some (.int true k n)
  |false=>none
 | .string s=>some (.str s)
 | .pointer none=>some .nilp
 | .slice none 0 0=>some .nilsl
 | .nilFunc=>some (.raw .nilFunc)
 | .nilIface=>some (.raw .nilIface)
 | .map none=>some (.raw (.map none))
 |_=>none
def ZpE:List Value->Option (List A)
 |[]=>some []
 |v::l=>match ZFt v,ZpE l with
  |some a,some r=>some (a::r)
  |_,_=>none
def ofValue (v:Value):Option W:=
 match v with
 | .agg cs=>(ZpE cs.toList).map .agg
 |v=>(ZFt v).map .one
def W.cells:W->Option (List A)
 | .one a=>some [a]
 | .agg l=>some l
 | .junk=>none
def V.one:V->Option A
 | .w (.one a)=>some a
 |_=>none
def V.cells:V->Option (List A)
 | .w x=>x.cells
 |_=>none
def opd (s:St):Operand->Option V
 | .tmp t=>nth s.Sl t
 | .const v=>(ofValue v).map .w
 | .func f=>some (.w (.one (.clo f [])))
 | .global _=>none
def opd1 (s:St) (x:Operand):Option A:=(opd s x).bind V.one
def opdC (s:St) (x:Operand):Option (List A):=(opd s x).bind V.cells
def opds (s:St):List Operand->Option (List V)
 |[]=>some []
 |x::l=>match opd s x,opds s l with
  |some v,some r=>some (v::r)
  |_,_=>none
def mB (c:Bool) (l1:Bool) (x:Bool) (l2:Bool) (y:Bool):A:=
 match l1,l2 with
 |true,true=>match x,y with
  |true,true=>.bool true true
  |false,false=>.bool true false
  |true,false=>.bool false c
  |false,true=>.bool false (!c)
 |true,false=>match x with
  |true=>.bool false (c||y)
  |false=>.bool false (!c&&y)
 |false,true=>match y with
  |true=>.bool false (!c||x)
  |false=>.bool false (c&&x)
 |false,false=>.bool false (cond c x y)
def mI (c:Bool) (k:IntKind) (l1:Bool) (x:Int) (l2:Bool) (y:Int):A:=
 match l1&&l2&&decide (x=y) with
 |true=>.int true k x
 |false=>.int false k (cond c x y)
def mA (c:Bool) (tm:Nat->Nat->Nat->Option Nat) (nb:Nat):A->A->Option A
 | .bool l1 x,.bool l2 y=>some (mB c l1 x l2 y)
 | .int l1 k x,.int l2 k' y=>match Zj5 k k' with
  |true=>some (mI c k l1 x l2 y)
  |false=>none
 | .loc b o,.loc b' o'=>match Nat.beq b b'&&Nat.beq o o'&&Nat.blt b nb with
  |true=>some (.loc b o)
  |false=>none
 | .tip h v,.tip h' v'=>match Nat.beq h h' with
  |true=>(tm h v v').map (.tip h)
  |false=>none
 | .lst r _ f g x,.lst r' _ f' g' y=>match R.same r' r with
  |some .refl=>some (.lst r' false (f&&f') (g&&g') (cond c x y))
  |none=>none
 | .nilsl,.lst r _ _ _ y=>some (.lst r false false false (cond c [] y))
 | .lst r _ _ _ x,.nilsl=>some (.lst r false false false (cond c x []))
 | .nilp,.nilp=>some .nilp
 | .nilsl,.nilsl=>some .nilsl
 | .junk,.junk=>some .junk
 | .str x,.str y=>some (.str (cond c x y))
 | .clo f [],.clo g []=>match Nat.beq f g with
  |true=>some (.clo f [])
  |false=>none
 |_,_=>none
def mL (c:Bool) (tm:Nat->Nat->Nat->Option Nat) (nb:Nat):List A->List A->Option (List A)
 |[],[]=>some []
 |a::l,b::r=>match mA c tm nb a b,mL c tm nb l r with
  |some x,some xs=>some (x::xs)
  |_,_=>none
 |_,_=>none
def mW (c:Bool) (tm:Nat->Nat->Nat->Option Nat) (nb:Nat):W->W->Option W
 | .one a,.one b=>(mA c tm nb a b).map .one
 | .agg l,.agg r=>(mL c tm nb l r).map .agg
 | .junk,.junk=>some .junk
 |_,_=>none
def mV (c:Bool) (tm:Nat->Nat->Nat->Option Nat) (nb:Nat) (named:Bool) (x y:V):Option V:=
 match x,y with
 | .w a,.w b=>match mW c tm nb a b with
  |some r=>some (.w r)
  |none=>match named with
   |true=>none
   |false=>some (.w .junk)
 |_,_=>some (.w .junk)
def memP:List (Nat×Nat)->Nat->Nat->Bool
 |[],_,_=>false
 |(a,b)::l,c,d=>(Nat.beq a c&&Nat.beq b d)||memP l c d
structure Nm where
 n:Nat
 jk:Bool
def tbit (m n:Nat):Bool:=Nat.beq (Nat.land 1 (Nat.shiftRight m n)) 1
def setB (m n:Nat):Nat:=Nat.lor m (Nat.shiftLeft 1 n)
def allB (n:Nat):Nat:=Nat.sub (Nat.shiftLeft 1 n) 1
def Zx4 {α:Type} (a:α):Option (List α)->Option (List α)
 |some l=>some (a::l)
 |none=>none
def ZdQ (c:Bool) (tm:Nat->Nat->Nat->Option Nat) (nb:Nat) (named:Nm) (mk:Nat):Nat->List V->List V->Option (List V)
 |_,_,[]=>some []
 |i,[],a::x=>match tbit mk i with
  |false=>Zx4 a (ZdQ c tm nb named mk (i+1) [] x)
  |true=>none
 |i,b::y,a::x=>match tbit mk i with
  |false=>Zx4 a (ZdQ c tm nb named mk (i+1) y x)
  |true=>match !tbit named.n i&&named.jk with
   |true=>Zx4 (.w .junk) (ZdQ c tm nb named mk (i+1) y x)
   |false=>match mV c tm nb (tbit named.n i) a b with
    |some r=>Zx4 r (ZdQ c tm nb named mk (i+1) y x)
    |none=>none
def Zjo (c:Bool) (tm:Nat->Nat->Nat->Option Nat) (nb:Nat) (y:List (List A)):List (Nat×Nat)->List (List A)->Option (List (List A))
 |[],x=>some x
 |(b,o)::r,x=>match !Nat.blt b nb||memP r b o with
  |true=>Zjo c tm nb y r x
  |false=>match nth x b,nth y b with
   |some l,some l'=>match nth l o,nth l' o with
    |some a,some a'=>match mA c tm nb a a' with
     |some z=>Zjo c tm nb y r (setN x b (setN l o z))
     |none=>none
    |_,_=>none
   |_,_=>none
def mStg (c:Bool) (a b:Stg):Option Stg:=match R.same b.r a.r,Nat.beq a.T b.T with
 |some e,true=>some {r:=a.r,T:=a.T,l:=cond c a.l (EqR.cast e.slc b.l),ver:=(match Nat.beq a.ver b.ver with|true=>a.ver|false=>Nat.max a.ver b.ver+1),fzn:=a.fzn||b.fzn,ffz:=a.ffz&&b.ffz,lit:=false,ub:=(match Nat.blt 0 a.ub&&Nat.blt 0 b.ub with|true=>(match Nat.ble a.ub b.ub with|true=>b.ub|false=>a.ub)|false=>0)}
 |_,_=>none
def ZpU (c:Bool) (y:List Stg):List Nat->List Stg->Option (List Stg)
 |[],x=>some x
 |h::r,x=>match memN r h with
  |true=>ZpU c y r x
  |false=>match nth x h,nth y h with
   |some a,some b=>match mStg c a b with
    |some g=>ZpU c y r (setN x h g)
    |none=>none
   |_,_=>ZpU c y r x
def tipM (xs ys ms:List Stg) (h v v':Nat):Option Nat:=match nth xs h,nth ys h,nth ms h with
 |some a,some b,some m=>match Nat.beq a.ver v&&Nat.beq b.ver v' with
  |true=>some m.ver
  |false=>none
 |_,_,_=>none
def tip1 (_ v v':Nat):Option Nat:=match Nat.beq v v' with
 |true=>some v
 |false=>none
def addN (l:List Nat) (t:Nat):List Nat:=match memN l t with
 |true=>l
 |false=>t::l
def ZhI (l:List Nat):List Nat->List Nat
 |[]=>l
 |t::r=>ZhI (addN l t) r
def addP (l:List (Nat×Nat)) (b o:Nat):List (Nat×Nat):=match memP l b o with
 |true=>l
 |false=>(b,o)::l
def Zkz (l:List (Nat×Nat)):List (Nat×Nat)->List (Nat×Nat)
 |[]=>l
 |(b,o)::r=>Zkz (addP l b o) r
def Zxa (c:Bool) (nb ns:Nat) (named:Nm) (x y:St):Option St:=
 match ZpU c (Z0 ns y.mem.Sg) (ZhI x.sd y.sd) (Z0 ns x.mem.Sg) with
 |none=>none
 |some st=>match ZdQ c (tipM x.mem.Sg y.mem.Sg st) nb named (Nat.lor x.dirty y.dirty) 0 y.Sl x.Sl with
  |none=>none
  |some sl=>match Zjo c (tipM x.mem.Sg y.mem.Sg st) nb y.mem.Bx (Zkz x.bd y.bd) (Z0 nb x.mem.Bx) with
   |none=>none
   |some bx=>some {Sl:=sl,mem:={Bx:=bx,Sg:=st},dirty:=Nat.lor x.dirty y.dirty,bd:=Zkz x.bd y.bd,sd:=ZhI x.sd y.sd}
def ZJz:K->K->Bool
 | .normal,.normal=>true
 | .exit a,.exit b=>Nat.beq a b
 |_,_=>false
def ZOb (c:Bool) (nb ns:Nat) (named:Nm) (x y:Out):RT Out:=
 match ZJz x.k y.k with
 |true=>match Zxa c nb ns named x.s y.s with
  |some s=>.Lf ⟨x.k,s⟩
  |none=>.br c (.Lf x) (.Lf y)
 |false=>.br c (.Lf x) (.Lf y)
def ZEV:RT Out->Bool
 | .Lf ⟨.stop,_⟩=>true
 |_=>false
def ZHO (c:Bool) (nb ns:Nat) (named:Nm) (x:Out):RT Out->RT Out
 | .Lf y=>ZOb c nb ns named x y
 | .br b t f=>match ZEV f with
  |true=>.br (c||b) (ZHO c nb ns named x t) f
  |false=>.br c (.Lf x) (.br b t f)
def fork (c:Bool) (nb ns:Nat) (named:Nm) (t e:RT Out):RT Out:=
 match t with
 | .Lf x=>match ZEV t with
  |true=>.br (!c) e t
  |false=>match ZEV e with
   |true=>.br c t e
   |false=>ZHO c nb ns named x e
 | .br b t f=>match ZEV f with
  |true=>.br (!c||b) (fork c nb ns named t e) f
  |false=>.br c (.br b t f) e
def ZiF (nb ns:Nat) (named:Nm):RT Out->RT Out
 | .Lf x=>.Lf x
 | .br c t e=>fork c nb ns named (ZiF nb ns named t) (ZiF nb ns named e)
def Zbo (s:St) (a:A):Option Res:=some {chk:=none,v:=.w (.one a),m:=s.mem,bd:=s.bd,sd:=s.sd}
def valR (s:St) (v:V):Option Res:=some {chk:=none,v:=v,m:=s.mem,bd:=s.bd,sd:=s.sd}
def cmpI (op:BinOp) (x y:Int):Option Bool:=
 match op with
 | .eql=>some (x==y)
 | .neq=>some (x !=y)
 | .lss=>some (decide (x<y))
 | .leq=>some (decide (x<=y))
 | .gtr=>some (decide (x>y))
 | .geq=>some (decide (x>=y))
 |_=>none
def andI (k:IntKind) (x y:Int):Int:=k.wrap ((BitVec.ofInt k.bits x)&&&(BitVec.ofInt k.bits y)).toNat
def orI (k:IntKind) (x y:Int):Int:=k.wrap ((BitVec.ofInt k.bits x)|||(BitVec.ofInt k.bits y)).toNat
def xorI (k:IntKind) (x y:Int):Int:=k.wrap ((BitVec.ofInt k.bits x)^^^(BitVec.ofInt k.bits y)).toNat
def Z1 (k:IntKind) (x y:Int):Int:=k.wrap ((BitVec.ofInt k.bits x)&&& ~~~(BitVec.ofInt k.bits y)).toNat
def shlI (k:IntKind) (x y:Int):Int:=k.wrap (x*2^(min y.toNat k.bits))
def shrI (k:IntKind) (x y:Int):Int:=x.fdiv (2^(min y.toNat k.bits))
def notI (k:IntKind) (x:Int):Int:=k.wrap ((BitVec.ofInt k.bits (if k.signed then-1 else k.max))^^^(BitVec.ofInt k.bits x)).toNat
def ZZm (op:BinOp) (k:IntKind) (x y:Int):Option Int:=
 match op with
 | .and=>some (andI k x y)
 | .or=>some (orI k x y)
 | .xor=>some (xorI k x y)
 | .andNot=>some (Z1 k x y)
 |_=>none
def ZT4 (op:BinOp) (k:IntKind) (x y:Int):Option Int:=
 match op with
 | .add=>some (k.wrap (x+y))
 | .sub=>some (k.wrap (x-y))
 | .mul=>some (k.wrap (x*y))
 |_=>ZZm op k x y
def eqL:List A->List A->Option Bool
 |[],[]=>some true
 |a::l,b::r=>match a,b,eqL l r with
  | .int _ k x,.int _ k' y,some e=>match Zj5 k k' with
   |true=>some ((x==y)&&e)
   |false=>none
  | .bool _ x,.bool _ y,some e=>some ((x==y)&&e)
  |_,_,_=>none
 |_,_=>none
def ptrA:A->Bool
 | .loc _ _| .fp _=>true
 |_=>false
def binA (d:Option TypeDesc) (op:BinOp) (a b:A):Option (Option Bool×A):=
 match a,b with
 | .int l k x,.int l' k' y=>
  match op with
  | .shl=>match l' with
   |true=>match decide (0<=y) with
    |true=>some (none,.int l k (shlI k x y))
    |false=>none
   |false=>some (some (decide (0<=y)),.int false k (shlI k x y))
  | .shr=>match l' with
   |true=>match decide (0<=y) with
    |true=>some (none,.int l k (shrI k x y))
    |false=>none
   |false=>some (some (decide (0<=y)),.int false k (shrI k x y))
  |op=>match Zj5 k k' with
   |false=>none
   |true=>match op with
    | .quo=>match l'&&(y !=0) with
     |true=>some (none,.int l k (k.wrap (x.tdiv y)))
     |false=>some (some (y !=0),.int false k (k.wrap (x.tdiv y)))
    | .rem=>match l'&&(y !=0) with
     |true=>some (none,.int l k (x.tmod y))
     |false=>some (some (y !=0),.int false k (x.tmod y))
    |op=>match ZT4 op k x y with
     |some n=>some (none,.int (l&&l') k n)
     |none=>match cmpI op x y with
      |some e=>some (none,.bool (l&&l') e)
      |none=>none
 | .bool l x,.bool l' y=>match d,op with
  |some .bool,.eql=>some (none,.bool (l&&l') (x==y))
  |some .bool,.neq=>some (none,.bool (l&&l') (!(x==y)))
  |_,_=>none
 | .nilp,.nilp=>match d,op with
  |some (.pointer _),.eql=>some (none,.bool true true)
  |some (.pointer _),.neq=>some (none,.bool true false)
  |_,_=>none
 | .str x,.str y=>match op with
  | .eql=>some (none,.bool false (x.toList==y.toList))
  | .neq=>some (none,.bool false (!(x.toList==y.toList)))
  | .add=>some (some (decide (((x.size+y.size:Nat):Int)<=i64.max)),.str (x++y))
  |_=>none
 | .nilsl,.nilsl=>match d,op with
  |some (.slice _),.eql=>some (none,.bool true true)
  |some (.slice _),.neq=>some (none,.bool true false)
  |_,_=>none
 | .lst _ _ _ true _,.nilsl=>match d,op with
  |some (.slice _),.eql=>some (none,.bool true false)
  |some (.slice _),.neq=>some (none,.bool true true)
  |_,_=>none
 |p,.nilp=>match ptrA p,d,op with
  |true,some (.pointer _),.eql=>some (none,.bool true false)
  |true,some (.pointer _),.neq=>some (none,.bool true true)
  |_,_,_=>none
 | .nilp,p=>match ptrA p,d,op with
  |true,some (.pointer _),.eql=>some (none,.bool true false)
  |true,some (.pointer _),.neq=>some (none,.bool true true)
  |_,_,_=>none
 |_,_=>none
def unA (op:UnOp) (a:A):Option A:=
 match op,a with
 | .not,.bool l b=>some (.bool l (!b))
 | .neg,.int l k n=>some (.int l k (k.wrap (0-n)))
 | .xor,.int l k n=>some (.int l k (notI k n))
 |_,_=>none
def aggT (P:Program) (t:TypeId):Option Bool:=
 match P.underlying t with
 |some (.struct _)|some (.array _ _)=>some true
 |some _=>some false
 |none=>none
def Zj4 (P:Program) (t:TypeId):Option Nat:=(P.info? t).map (·.size)
def ZpK (P:Program) (t:TypeId):Option (List A):=
 match (P.info? t).bind (·.zero) with
 |some z=>(ofValue z).bind W.cells
 |none=>none
def ZpR (P:Program) (t:TypeId) (l:List A) (off:Nat):Option W:=
 match aggT P t,Zj4 P t with
 |some true,some n=>(ZpN n (Zdk off l)).map .agg
 |some false,some _=>(nth l off).map .one
 |_,_=>none
def ZaY (m:Mem) (h ver:Nat):Option Stg:=
 match nth m.Sg h with
 |some g=>match Nat.beq g.ver ver with
  |true=>some g
  |false=>none
 |none=>none
def Zf4 (m:Mem):A->Option (List A)
 | .loc b o=>(nth m.Bx b).map (Zdk o)
 | .fp l=>some l
 | .sp h v i o=>match ZaY m h v with
  |some g=>some (Zdk o (g.r.enc (g.r.get g.l i)))
  |none=>none
 |_=>none
def Zxm (P:Program) (m:Mem) (t:TypeId) (p:A):Option W:=
 match Zf4 m p with
 |some l=>ZpR P t l 0
 |none=>none
def Zyh (bd:List (Nat×Nat)) (b o:Nat):Nat->List (Nat×Nat)
 |0=>bd
 |n+1=>Zyh (addP bd b o) b (o+1) n
def setI {α:Type} (l:List α) (i:Int) (x:α):List α:=l.set i.toNat x
def ZhW:A->Bool
 | .bool _ _| .int _ _ _| .str _| .lst .. | .nilsl=>true
 |_=>false
def Zvt (P:Program) (s:St) (t:TypeId) (p:A) (l:List A):Option Res:=
 match Zj4 P t with
 |none=>none
 |some n=>match Nat.beq n (len l) with
  |false=>none
  |true=>match p with
   | .loc b o=>match nth s.mem.Bx b with
    |none=>none
    |some c=>match putN c o l with
     |none=>none
     |some c'=>some {chk:=none,v:=.w .junk,m:={s.mem with Bx:=setN s.mem.Bx b c'},bd:=Zyh s.bd b o n,sd:=s.sd}
   | .sp h v i o=>match ZaY s.mem h v with
    |none=>none
    |some g=>match g.fzn||Zut l with
     |true=>none
     |false=>match putN (g.r.enc (g.r.get g.l i)) o l with
      |none=>none
      |some row=>match g.r.decW row with
       |none=>none
       |some x=>some {chk:=none,v:=.w .junk,m:={s.mem with Sg:=setN s.mem.Sg h {g with l:=setI g.l i x}},bd:=s.bd,sd:=addN s.sd h}
   |_=>none
def Zep (s:St) (l:List A):Res:=
 {chk:=none,v:=.w (.one (.loc (len s.mem.Bx) 0)),m:={s.mem with Bx:=s.mem.Bx++[l]},bd:=s.bd,sd:=s.sd}
def ZuC (P:Program) (t:TypeId) (f:Nat):Option Field:=
 match P.underlying t with
 |some (.struct fs)=>fs[f]?
 |_=>none
def ZHu (m:Mem) (p:A) (n:Nat):Option A:=
 match p with
 | .loc b o=>some (.loc b (o+n))
 | .fp l=>some (.fp (Zdk n l))
 | .sp h v i o=>match ZaY m h v with
  |some _=>some (.sp h v i (o+n))
  |none=>none
 |_=>none
def Zpk (place:Nat->Option (Nat×Nat)) (cells:List A):List (Nat×Option (List A))->Option (List A)
 |[]=>some cells
 |(i,v)::rest=>match place i,v with
  |some (off,size),some l=>match Nat.beq (len l) size&&Nat.blt 0 size with
   |false=>none
   |true=>match putN cells off l with
    |some c=>Zpk place c rest
    |none=>none
  |_,_=>none
def ZvF (P:Program):List Field->Option (List (Nat×Nat))
 |[]=>some []
 |f::l=>match Zj4 P f.type,ZvF P l with
  |some n,some r=>some ((f.offset,n)::r)
  |_,_=>none
def Zsv (P:Program) (t:TypeId):Option (Nat->Option (Nat×Nat)):=
 match P.underlying t with
 |some (.struct fs)=>match ZvF P fs.toList with
  |some l=>some (nth l)
  |none=>none
 |some (.array _ elem)=>match Zj4 P elem with
  |some n=>some (λi=>some (i*n,n))
  |none=>none
 |_=>none
def ZF5 (nb:Nat) (i:Int) (k:Nat):List (List A)->Option (List A)
 |[]=>none
 |[y]=>some y
 |y::r=>match ZF5 nb i (k+1) r with
  |some z=>mL (i==(k:Int)) tip1 nb y z
  |none=>none
def ZmL (n:Nat):Nat->List A->Option (List (List A))
 |0,_=>some []
 |m+1,l=>match ZpN n l with
  |none=>none
  |some y=>match ZmL n m (Zdk n l) with
   |some r=>some (y::r)
   |none=>none
def Zxz (P:Program) (s:St) (t:TypeId) (x:List A) (i:A):Option Res:=
 match P.underlying t,i with
 |some (.array m elem),.int lit _ i=>match aggT P elem,Zj4 P elem with
  |some g,some n=>match ZmL n m x with
   |none=>none
   |some rows=>match lit with
    |true=>match decide (0<=i/\i<(m:Int)) with
     |false=>none
     |true=>match nth rows i.toNat with
      |none=>none
      |some y=>match g,y with
       |true,y=>valR s (.w (.agg y))
       |false,[a]=>valR s (.w (.one a))
       |_,_=>none
    |false=>match ZF5 (len s.mem.Bx) i 0 rows with
     |none=>none
     |some y=>match g,y with
      |true,y=>some {chk:=some (decide (0<=i/\i<(m:Int))),v:=.w (.agg y),m:=s.mem,bd:=s.bd,sd:=s.sd}
      |false,[a]=>some {chk:=some (decide (0<=i/\i<(m:Int))),v:=.w (.one a),m:=s.mem,bd:=s.bd,sd:=s.sd}
      |_,_=>none
  |_,_=>none
 |_,_=>none
def Zda (b:ByteArray) (i:Int):Int:=((b.data.toList.getD i.toNat 0).toNat:Int)
def strL (b:ByteArray):List Int:=b.data.toList.map λx=>(x.toNat:Int)
def Zxy (P:Program) (s:St) (t:TypeId) (b:ByteArray) (i:A):Option Res:=
 match P.underlying t,i with
 |some .string,.int _ _ i=>some {chk:=some (decide (0<=i)&&decide (i<(b.size:Int))),v:=.w (.one (.int false .u8 (Zda b i))),m:=s.mem,bd:=s.bd,sd:=s.sd}
 |_,_=>none
def Zem (s:St):List (Nat×Operand)->List (Nat×Option (List A))
 |[]=>[]
 |(i,x)::l=>(i,opdC s x)::Zem s l
def Zpg (acc:Bool×IntKind×Int):List V->Option (Bool×IntKind×Int)
 |[]=>some acc
 | .w (.one (.int l k n))::r=>match Zj5 k acc.2.1 with
  |true=>Zpg (acc.1&&l,acc.2.1,if n<acc.2.2 then n else acc.2.2) r
  |false=>none
 |_=>none
def Zpi (acc:Bool×IntKind×Int):List V->Option (Bool×IntKind×Int)
 |[]=>some acc
 | .w (.one (.int l k n))::r=>match Zj5 k acc.2.1 with
  |true=>Zpi (acc.1&&l,acc.2.1,if n>acc.2.2 then n else acc.2.2) r
  |false=>none
 |_=>none
def Zo1 (f:TypeId->List A->Option (List A)) (cells:TypeId->Nat) (l:List A):List Field->Option (List A)
 |[]=>some []
 |fd::r=>match f fd.type (Z0 (cells fd.type) (Zdk fd.offset l)),Zo1 f cells l r with
  |some a,some b=>some (a++b)
  |_,_=>none
def Zxu (f:List A->Option (List A)) (n:Nat) (l:List A):List Nat->Option (List A)
 |[]=>some []
 |i::r=>match f (Z0 n (Zdk (i*n) l)),Zxu f n l r with
  |some a,some b=>some (a++b)
  |_,_=>none
def klT (P:Program):Nat->TypeId->List A->Option (List A)
 |0,_,_=>none
 |d+1,t,l=>
  match P.underlying t with
  |some .bool=>match l with
   |[.bool f b]=>some [.bool f b]
   |_=>none
  |some (.int q)=>match l with
   |[.int f q' n]=>match Zj5 q' q with
    |true=>some [.int f q n]
    |false=>none
   |_=>none
  |some (.array n e)=>match Nat.beq (len l) (P.cellsOf t) with
   |true=>Zxu (klT P d e) (P.cellsOf e) l (List.range n)
   |false=>none
  |some (.struct fs)=>match Nat.beq (len l) (P.cellsOf t)&&fs.all (·.name !="_") with
   |true=>Zo1 (klT P d) P.cellsOf l fs.toList
   |false=>none
  |_=>none
def eqT (P:Program) (t:TypeId) (l r:List A):Option Bool:=
 match P.keyTypeAt 12 t&& !P.eqGuardType P.depth t&&(aggT P t==some true) with
 |true=>match klT P 12 t l,klT P 12 t r with
  |some a,some b=>eqL a b
  |_,_=>none
 |false=>none
def most:Nat:=1073741824
def rowT (P:Program):Nat->TypeId->Option R
 |0,_=>none
 |d+1,t=>match P.underlying t with
  |some .bool=>some .bool
  |some (.int k)=>some (.int k)
  |some .string=>some .str
  |some (.slice e)=>match rowT P d e with
   |some r=>some (.sl r)
   |none=>none
  |some (.struct fs)=>rowF (rowT P d) fs.toList
  |some (.array n e)=>match rowT P d e with
   |some r=>rowN r n
   |none=>none
  |_=>none
where
 rowF (f:TypeId->Option R):List Field->Option R
  |[]=>some .unit
  |[fd]=>f fd.type
  |fd::l=>match f fd.type,rowF f l with
   |some a,some b=>some (.Pq a b)
   |_,_=>none
 rowN (r:R):Nat->Option R
  |0=>none
  |1=>some r
  |n+1=>match rowN r n with
   |some q=>some (.Pq r q)
   |none=>none
def ZxP (P:Program) (t:TypeId):Option R:=match P.info? t with
 |some i=>match i.zero with
  |some z=>match Nat.beq z.cells.size i.size&&Nat.blt 0 i.size&&Nat.ble i.bytes 65536 with
   |true=>match rowT P 8 t with
    |some r=>match Nat.beq r.wid i.size with
     |true=>some r
     |false=>none
    |none=>none
   |false=>none
  |none=>none
 |none=>none
structure Sq (r:R) where
 lit:Bool
 full:Bool
 l:List r.den
 ub:Nat
def sqOf (r:R) (m:Mem) (a:A):Option (Sq r):=
 match a with
 | .nilsl=>some ⟨true,true,[],1⟩
 | .lst r' lit full _ l=>match R.same r' r with
  |some e=>some ⟨lit,full,EqR.cast e.slc l,match lit with|true=>l.length+1|false=>0⟩
  |none=>none
 | .tip h ver=>match ZaY m h ver with
  |some g=>match R.same g.r r with
   |some e=>some ⟨g.lit,false,EqR.cast e.slc g.l,g.ub⟩
   |none=>none
  |none=>none
 |_=>none
def ubA {r:R} (q p:Sq r):Nat:=match Nat.blt 0 q.ub&&p.lit with
 |true=>q.ub+p.l.length
 |false=>0
def Zau (s:St) (a:A):Option (A×St):=
 match a with
 | .tip h ver=>match ZaY s.mem h ver with
  |some g=>match g.ffz with
   |true=>some (.lst g.r g.lit false false g.l,s)
   |false=>some (.lst g.r g.lit false false g.l,{s with mem:={s.mem with Sg:=setN s.mem.Sg h {g with fzn:=true,ffz:=true}},sd:=addN s.sd h})
  |none=>none
 | .sp _ _ _ _=>none
 |a=>some (a,s)
def Zat (s:St):List A->Option (List A×St)
 |[]=>some ([],s)
 |a::l=>match Zau s a with
  |some (b,s1)=>match Zat s1 l with
   |some (r,s2)=>some (b::r,s2)
   |none=>none
  |none=>none
def ZaF (s:St) (w:W):Option (W×St):=
 match w with
 | .one a=>match Zau s a with
  |some (b,s)=>some (.one b,s)
  |none=>none
 | .agg l=>match Zat s l with
  |some (l,s)=>some (.agg l,s)
  |none=>none
 | .junk=>some (.junk,s)
def Zbe (s:St):V->Option (V×St)
 | .w w=>match ZaF s w with
  |some (w,s)=>some (.w w,s)
  |none=>none
 | .tup t=>some (.tup t,s)
def Zac (s:St):List V->Option (List V×St)
 |[]=>some ([],s)
 |v::l=>match Zbe s v with
  |some (v,s1)=>match Zac s1 l with
   |some (r,s2)=>some (v::r,s2)
   |none=>none
  |none=>none
def ofSt (s:St) (chk:Option Bool) (v:V):Res:={chk:=chk,v:=v,m:=s.mem,bd:=s.bd,sd:=s.sd}
def Zjg (s:St) (g:Stg) (chk:Option Bool):Res:=
 {chk:=chk,v:=.w (.one (.tip (len s.mem.Sg) g.ver)),m:={s.mem with Sg:=s.mem.Sg++[g]},bd:=s.bd,sd:=s.sd}
def litC (lit:Bool) (b:Bool):Option (Option Bool):=match lit with
 |true=>match b with
  |true=>some none
  |false=>none
 |false=>some (some b)
def Zh (i:Int) (n:Nat):Bool:=decide (0<=i)&&decide (i<(n:Int))
def appC {r:R} (q p:Sq r):Option (Option Bool):=match Nat.blt 0 (ubA q p)&&Nat.ble (ubA q p) most with
 |true=>some none
 |false=>litC (q.lit&&p.lit) (Nat.ble (q.l++p.l).length most)
def ZaN (P:Program) (s:St) (t:TypeId) (x i:A):Option Res:=
 match P.underlying t,i with
 |some (.slice elem),.int lit _ i=>match ZxP P elem with
  |some r=>match x with
   | .tip h ver=>match ZaY s.mem h ver with
    |some g=>match R.same g.r r with
     |some _=>match litC (lit&&g.lit) (Zh i g.l.length) with
      |some chk=>some (ofSt s chk (.w (.one (.sp h ver i 0))))
      |none=>none
     |none=>none
    |none=>none
   | .lst r' ll _ _ l=>match R.same r' r with
    |some _=>match litC (lit&&ll) (Zh i l.length) with
     |some chk=>some (ofSt s chk (.w (.one (.fp (r'.enc (r'.get l i))))))
     |none=>none
    |none=>none
   |_=>none
  |none=>none
 |some (.array m elem),.int true _ i=>match Zj4 P elem with
  |some n=>match Zh i m,x with
   |true,.loc b o=>Zbo s (.loc b (o+i.toNat*n))
   |true,.fp l=>Zbo s (.fp (Zdk (i.toNat*n) l))
   |_,_=>none
  |none=>none
 |_,_=>none
def Zx6 (r:R) (l:List r.den) (j:Nat):Nat->List A
 |0=>[]
 |n+1=>r.enc (r.get l (j:Int))++Zx6 r l (j+1) n
def Zyd (P:Program) (s:St) (t:TypeId) (x:A):Option Res:=
 match P.underlying t,x with
 |some (.array n _),.lst r ll _ _ l=>match Nat.beq r.wid 1&&Nat.blt 0 n with
  |true=>match litC ll (Nat.ble n l.length) with
   |some chk=>some (ofSt s chk (.w (.one (.fp (Zx6 r l 0 n)))))
   |none=>none
  |false=>none
 |_,_=>none
def ZUP (P:Program) (r:R) (m:Mem) (t t':TypeId) (y:A):Option (Sq r):=
 match Nat.beq t t' with
 |true=>sqOf r m y
 |false=>match P.underlying t',y with
  |some .string,.str b=>match R.same (.int .u8) r with
   |some e=>some ⟨false,false,EqR.cast e.slc (strL b),0⟩
   |none=>none
  |_,_=>none
def ZkT (P:Program) (s:St) (t t':TypeId) (x y:A):Option Res:=
 match P.underlying t with
 |some (.slice elem)=>match ZxP P elem with
  |none=>none
  |some r=>match sqOf r s.mem x,ZUP P r s.mem t t' y with
   |some q,some p=>match appC q p with
    |none=>none
    |some chk=>match x with
     | .tip h ver=>match ZaY s.mem h ver with
      |some g=>match Nat.beq g.T elem with
       |true=>some {chk:=chk,v:=.w (.one (.tip h (ver+1))),m:={s.mem with Sg:=setN s.mem.Sg h {r:=r,T:=elem,l:=q.l++p.l,ver:=ver+1,fzn:=g.fzn,ffz:=false,lit:=q.lit&&p.lit,ub:=ubA q p}},bd:=s.bd,sd:=addN s.sd h}
       |false=>none
      |none=>none
     |_=>match q.full with
      |true=>match q.lit&&Zut q.l||p.lit&& !Zut p.l with
       |true=>some (Zjg s {r:=r,T:=elem,l:=q.l++p.l,ver:=0,fzn:=false,ffz:=false,lit:=q.lit&&p.lit,ub:=ubA q p} chk)
       |false=>some (ofSt s chk (.w (.one (.lst r (q.lit&&p.lit) false false (q.l++p.l)))))
      |false=>none
   |_,_=>none
 |_=>none
def Zfs (P:Program) (s:St) (t:TypeId) (l c:A):Option Res:=
 match P.underlying t,l,c with
 |some (.slice elem),.int ll _ l,.int lc _ c=>match ZxP P elem,ZpK P elem with
  |some r,some z=>match r.decW z with
   |some x=>match litC (ll&&lc) (decide (0<=l)&&decide (l<=c)&&decide (c<=(most:Int))) with
    |some chk=>some (Zjg s {r:=r,T:=elem,l:=rep x l.toNat,ver:=0,fzn:=false,ffz:=false,lit:=ll,ub:=0} chk)
    |none=>none
   |none=>none
  |_,_=>none
 |_,_,_=>none
def opdI (s:St) (d:Option Operand) (z:Bool×Int):Option (Bool×Int):=
 match d with
 |none=>some z
 |some x=>match opd1 s x with
  |some (.int l _ n)=>some (l,n)
  |_=>none
def nnA:A->Bool
 | .lst _ _ _ nn _=>nn
 |_=>false
def subL {α:Type} (l:List α) (a b:Int):List α:=(l.drop a.toNat).take (b.toNat-a.toNat)
def sliceB (P:Program) (s:St) (t:TypeId) (x:A) (low high max:Option Operand):Option Res:=
 match P.underlying t with
 |some (.slice elem)=>match ZxP P elem with
  |some r=>match sqOf r s.mem x with
   |some q=>match opdI s low (true,0),opdI s high (q.lit,(q.l.length:Int)) with
    |some l,some h=>match opdI s max h with
     |some m=>match (max.isNone||decide (m.2=h.2))&& !(max.isSome&&high.isNone) with
      |true=>match litC (h.1&&(l.1&&(q.lit||decide (h.2=0)))) (decide (0<=l.2)&&decide (l.2<=h.2)&&(decide (h.2=0)||decide (h.2<=(q.l.length:Int)))) with
       |some chk=>some (ofSt s chk (.w (.one (.lst r (l.1&&h.1) ((q.full&&high.isNone)||max.isSome) (nnA x) (subL q.l l.2 h.2)))))
       |none=>none
      |false=>none
     |none=>none
    |_,_=>none
   |none=>none
  |none=>none
 |_=>none
def Zqg (P:Program) (s:St) (t:TypeId) (b:ByteArray) (low high max:Option Operand):Option Res:=
 match P.underlying t,max with
 |some .string,none=>match opdI s low (true,0),opdI s high (false,(b.size:Int)) with
  |some l,some h=>some (ofSt s (some (decide (0<=l.2)&&decide (l.2<=h.2)&&decide (h.2<=(b.size:Int)))) (.w (.one (.str (b.extract l.2.toNat h.2.toNat)))))
  |_,_=>none
 |_,_=>none
def Zqh (P:Program) (s:St) (t:TypeId) (x:A) (low high max:Option Operand):Option Res:=
 match Zau s x with
 |some (x',s')=>match x' with
  | .tip _ _=>none
  | .str b=>Zqg P s' t b low high max
  |x'=>sliceB P s' t x' low high max
 |none=>none
def ZkM (r:R):List (List A)->Option (List r.den)
 |[]=>some []
 |y::l=>match r.decW y,ZkM r l with
  |some x,some xs=>some (x::xs)
  |_,_=>none
def ZbD (s:St):List (Nat×Option (List A))->Option (List (Nat×Option (List A))×St)
 |[]=>some ([],s)
 |(i,some l)::r=>match Zat s l with
  |some (l',s1)=>match ZbD s1 r with
   |some (r',s2)=>some ((i,some l')::r',s2)
   |none=>none
  |none=>none
 |(_,none)::_=>none
def repL (l:List A):Nat->List A
 |0=>[]
 |n+1=>l++repL l n
def Zdo (P:Program) (s:St) (t:TypeId) (n:Nat) (ps:List (Nat×Option (List A))):Option Res:=
 match P.underlying t with
 |some (.slice elem)=>match ZxP P elem,ZpK P elem with
  |some r,some z=>match Nat.ble (n*r.wid) 16777216 with
   |true=>match Zpk (λi=>some (i*r.wid,r.wid)) (repL z n) ps with
    |some l=>match ZmL r.wid n l with
     |some rows=>match ZkM r rows with
      |some xs=>some (ofSt s none (.w (.one (.lst r true true true xs))))
      |none=>none
     |none=>none
    |none=>none
   |false=>none
  |_,_=>none
 |_=>none
def Zdn (P:Program) (s:St) (t:TypeId) (n:Nat) (ps:List (Nat×Option (List A))):Option Res:=
 match P.underlying t with
 |some (.slice elem)=>match ZxP P elem,ZpK P elem with
  |some r,some z=>match Nat.ble (n*r.wid) 16777216 with
   |true=>match Zpk (λi=>some (i*r.wid,r.wid)) (repL z n) ps with
    |some l=>match ZmL r.wid n l with
     |some rows=>match ZkM r rows with
      |some xs=>some (Zjg s {r:=r,T:=elem,l:=xs,ver:=0,fzn:=false,ffz:=false,lit:=true,ub:=n+1} none)
      |none=>none
     |none=>none
    |none=>none
   |false=>none
  |_,_=>none
 |_=>none
def Zf6 (P:Program) (s:St) (t:TypeId) (n:Nat) (parts:List (Nat×Operand)):Option Res:=
 match ZbD s (Zem s parts) with
 |some (ps,s')=>Zdn P s' t n ps
 |none=>none
def ZeE (P:Program) (s:St) (t:TypeId) (n:Nat) (parts:List (Nat×Operand)):Option Res:=
 match ZbD s (Zem s parts) with
 |some (ps,s')=>Zdo P s' t n ps
 |none=>none
def lenA (P:Program) (s:St) (t:TypeId) (v:V):Option Res:=
 match P.underlying t,v with
 |some (.slice _),.w (.one .nilsl)=>Zbo s (.int true .i64 0)
 |some (.slice _),.w (.one (.lst _ lit _ _ l))=>Zbo s (.int lit .i64 (l.length:Int))
 |some (.slice _),.w (.one (.tip h ver))=>match ZaY s.mem h ver with
  |some g=>Zbo s (.int g.lit .i64 (g.l.length:Int))
  |none=>none
 |some (.array n _),_=>match Nat.ble n most with
  |true=>Zbo s (.int true .i64 (n:Int))
  |false=>none
 |some .string,.w (.one (.str b))=>some (ofSt s (some (decide ((b.size:Int)<=i64.max))) (.w (.one (.int false .i64 (b.size:Int)))))
 |_,_=>none
def Zdr (P:Program) (s:St) (b:Builtin) (ts:List TypeId) (vs:List V):Option Res:=
 match b,ts,vs with
 | .min,_,.w (.one (.int l k n))::r=>match Zpg (l,k,n) r with
  |some (l,k,n)=>Zbo s (.int l k n)
  |none=>none
 | .max,_,.w (.one (.int l k n))::r=>match Zpi (l,k,n) r with
  |some (l,k,n)=>Zbo s (.int l k n)
  |none=>none
 | .len,[t],[v]=>lenA P s t v
 | .append,[t,t'],[.w (.one x),.w (.one y)]=>ZkT P s t t' x y
 |_,_,_=>none
def Zyy (l:List Int):ByteArray:=l.foldl (λr n=>r.push (UInt8.ofNat n.toNat)) ByteArray.empty
def ZjJ (P:Program) (s:St) (src dst:TypeId) (x:A):Option Res:=
 match P.underlying src,P.underlying dst with
 |some (.int _),some (.int k)=>match x with
  | .int l _ n=>Zbo s (.int l k (k.wrap n))
  |_=>none
 |some (.slice e),some .string=>match P.underlying e with
  |some (.int .u8)=>match sqOf (.int .u8) s.mem x with
   |some q=>Zbo s (.str (Zyy q.l))
   |none=>none
  |_=>none
 |_,_=>none
def Zli:List V->Option (List A)
 |[]=>some []
 | .w (.one a)::l=>match Zli l with
  |some r=>some (a::r)
  |none=>none
 |_=>none
def ZxC (E:Env):Bool:=Nat.ble 100 E.fuel
def evOp (E:Env) (s:St) (o:Op):Option Res:=
 match o with
 | .move x| .assign x=>match opd s x with
  |some v=>valR s v
  |none=>none
 | .pick c a b=>match opd1 s c with
  |some (.bool true c)=>match (match c with|true=>opd s a|false=>opd s b) with
   |some v=>valR s v
   |none=>none
  |some (.bool false c)=>match opd s a,opd s b with
   |some (.w x),some (.w y)=>match mW c tip1 (len s.mem.Bx) x y with
    |some z=>valR s (.w z)
    |none=>none
   |_,_=>none
  |_=>none
 | .alloc t=>(ZpK E.P t).map (Zep s)
 | .box _ x=>(opdC s x).map (Zep s)
 | .build t parts=>match ZpK E.P t,Zsv E.P t with
  |some z,some pl=>match Zpk pl z (Zem s parts.toList) with
   |some l=>valR s (.w (.agg l))
   |none=>none
  |_,_=>none
 | .load t p=>match opd1 s p with
  |some p=>match Zxm E.P s.mem t p with
   |some w=>valR s (.w w)
   |none=>none
  |none=>none
 | .store t p x=>match opd1 s p,opdC s x with
  |some p,some l=>Zvt E.P s t p l
  |_,_=>none
 | .nilCheck x=>match opd1 s x with
  |some (.loc b o)=>Zbo s (.loc b o)
  |some (.fp l)=>Zbo s (.fp l)
  |some (.sp h v i o)=>match ZaY s.mem h v with
   |some _=>Zbo s (.sp h v i o)
   |none=>none
  |_=>none
 | .binOp op t x y _=>match opd s x,opd s y with
  |some (.w (.one a)),some (.w (.one b))=>match binA (E.P.underlying t) op a b with
   |some (c,r)=>some {chk:=c,v:=.w (.one r),m:=s.mem,bd:=s.bd,sd:=s.sd}
   |none=>none
  |some (.w (.agg l)),some (.w (.agg r))=>match op with
   | .eql=>match eqT E.P t l r with
    |some e=>Zbo s (.bool false e)
    |none=>none
   | .neq=>match eqT E.P t l r with
    |some e=>Zbo s (.bool false (!e))
    |none=>none
   |_=>none
  |_,_=>none
 | .unOp op _ x=>match opd1 s x with
  |some a=>(unA op a).bind (Zbo s)
  |none=>none
 | .convert src dst x=>match opd1 s x with
  |some x=>ZjJ E.P s src dst x
  |none=>none
 | .fieldAddr t p f=>match opd1 s p,ZuC E.P t f with
  |some p,some f=>match Zj4 E.P f.type with
   |some (_+1)=>(ZHu s.mem p f.offset).bind (Zbo s)
   |_=>none
  |_,_=>none
 | .field t x f=>match opd s x,ZuC E.P t f with
  |some (.w (.agg l)),some f=>match ZpR E.P f.type l f.offset with
   |some w=>valR s (.w w)
   |none=>none
  |_,_=>none
 | .index t x i=>match opd s x,opd1 s i with
  |some (.w (.agg l)),some i=>Zxz E.P s t l i
  |some (.w (.one (.str b))),some i=>Zxy E.P s t b i
  |_,_=>none
 | .extract x i=>match opd s x with
  |some (.tup l)=>match nth l i with
   |some w=>valR s (.w w)
   |none=>none
  |_=>none
 | .indexAddr t x i=>match opd1 s x,opd1 s i with
  |some x,some i=>ZaN E.P s t x i
  |_,_=>none
 | .makeSlice t l c=>match opd1 s l,opd1 s c with
  |some l,some c=>Zfs E.P s t l c
  |_,_=>none
 | .slice t x low high max=>match opd1 s x with
  |some x=>Zqh E.P s t x low high max
  |none=>none
 | .buildSlice t n parts=>match ZxC E with
  |true=>Zf6 E.P s t n parts.toList
  |false=>ZeE E.P s t n parts.toList
 | .makeFunc (.func f) first caps=>match first.toList,opds s caps.toList with
  |[],some vs=>match Zli vs with
   |some l=>Zbo s (.clo f l)
   |none=>none
  |_,_=>none
 | .sliceToArrayPointer t x=>match opd1 s x with
  |some x=>Zyd E.P s t x
  |none=>none
 |_=>none
def chkT (c:Option Bool) (s:St) (t:RT Out):RT Out:=
 match c with
 |none=>t
 |some b=>.br b t (.Lf ⟨.stop,s⟩)
def ZfI (s:St):RT Out:=.Lf ⟨.stop,s⟩
def put (s:St) (d:Option Nat) (v:V):St:=
 match d with
 |none=>s
 |some d=>{s with Sl:=setN s.Sl d v,dirty:=setB s.dirty d}
def putRes (s:St) (d:Option Nat) (r:Res):St:=
 put {s with mem:=r.m,bd:=r.bd,sd:=r.sd} d r.v
def ZuU (s:St) (r:Res):Res:={r with bd:=Zkz s.bd r.bd,sd:=ZhI s.sd r.sd}
def ZaX (E:Env) (s:St) (c:Call):Option (En×List V):=
 match c.callee with
 | .value f=>match opd1 s f with
  |some (.clo f caps)=>match E.calls f with
   |some e=>some (e.plain,caps.map (λa=>.w (.one a)))
   |none=>none
  |_=>none
 |_=>none
def ZkS (P:Program) (s:St) (t:TypeId) (x:A) (k:IntKind) (n:Int):Nat->Nat->RT (Option Res)
 |0,_=>.Lf none
 |r+1,j=>.br (n==(j:Int)) (.Lf (ZaN P s t x (.int true k j))) (ZkS P s t x k n r (j+1))
def idxT (P:Program) (s:St) (t:TypeId) (x i:A):RT (Option Res):=match P.underlying t,i with
 |some (.array m _),.int false k n=>ZkS P s t x k n m 0
 |_,i=>.Lf (ZaN P s t x i)
def Z6 (E:Env) (s:St) (o:Oper):RT (Option Res):=
 match o.op with
 | .call c=>match c.callee with
  | .builtin b=>match opds s c.args.toList with
   |some vs=>.Lf (Zdr E.P s b c.argTypes.toList vs)
   |none=>.Lf none
  |_=>match ZaX E s c,opds s c.args.toList with
   |some (.pure p,caps),some vs=>match Zac s (vs++caps) with
    |some (vs,s')=>match p vs with
     |some (chk,v)=>.Lf (some (ofSt s' chk v))
     |none=>.Lf none
    |none=>.Lf none
   |some (.read g,caps),some vs=>match g (vs++caps) s.mem with
    |some (chk,v)=>.Lf (some (ofSt s chk v))
    |none=>.Lf none
   |some (.tree g,caps),some vs=>(g (vs++caps) s.mem).map fun
    |some r=>some (ZuU s r)
    |none=>none
   |_,_=>.Lf none
 | .indexAddr t x i=>match opd1 s x,opd1 s i with
  |some x,some i=>idxT E.P s t x i
  |_,_=>.Lf none
 |op=>.Lf (evOp E s op)
def contT (s:St) (d:Option Nat) (k:St->RT Out):Option Res->RT Out
 |some r=>chkT r.chk s (k (putRes s d r))
 |none=>ZfI s
def ZJh (E:Env) (s:St) (o:Oper) (k:St->RT Out):RT Out:=(Z6 E s o).bind (contT s o.dst k)
def Zar (s:St):St:={s with dirty:=0,bd:=[],sd:=[]}
def backD (s:St) (o:Out):Out:={o with s:={o.s with dirty:=Nat.lor s.dirty o.s.dirty,bd:=Zkz s.bd o.s.bd,sd:=ZhI s.sd o.s.sd}}
def ZxB (named:Nm) (ops:List Oper) (s:St) (g:Option (Nat×Bool)) (run skip:St->RT Out):RT Out:=
 match g with
 |none=>run s
 |some (j,want)=>match nth ops j with
  |some o=>match o.dst with
   |some d=>match nth s.Sl d with
    |some (.w (.one (.bool true b)))=>match b==want with
     |true=>run s
     |false=>skip s
    |some (.w (.one (.bool false b)))=>
     match want with
     |true=>(fork b (len s.mem.Bx) (len s.mem.Sg) named (run (put (Zar s) (some d) (.w (.one (.bool true true))))) (skip (put (Zar s) (some d) (.w (.one (.bool true false)))))).map (backD s)
     |false=>(fork b (len s.mem.Bx) (len s.mem.Sg) named (skip (put (Zar s) (some d) (.w (.one (.bool true true))))) (run (put (Zar s) (some d) (.w (.one (.bool true false)))))).map (backD s)
    |some (.tup [])=>skip s
    |_=>ZfI s
   |none=>ZfI s
  |none=>ZfI s
def Zmr:V:=.tup []
def ZHR (E:Env) (ops:List Oper):List Oper->St->RT Out
 |[],s=>.Lf ⟨.normal,s⟩
 |o::rest,s=>ZxB ⟨E.named,false⟩ ops s o.guard (λs=>ZJh E s o (ZHR E ops rest)) (λs=>ZHR E ops rest (put s o.dst Zmr))
def Zlo (E:Env):Op->Bool
 | .alloc _| .box .. | .store .. | .makeSlice .. =>true
 | .call c=>match c.callee with
  | .builtin .append=>true
  | .builtin _=>false
  | .value (.func f)=>match E.calls f with
   |some (.pure _)=>false
   |some (.read _)=>false
   |_=>true
  |_=>true
 |_=>false
def ZiN (E:Env):Op->Bool
 | .call c=>match c.callee with
  | .value (.func f)=>match E.calls f with
   |some (.read _)=>true
   |_=>false
  |_=>false
 |_=>false
def emL:List Edge->Nat
 |[]=>0
 |e::l=>match Region.binds .any e with
  |true=>setB (emL l) e.on
  |false=>emL l
def Zcu:List Nat->Nat->Nat->Nat
 |[],_,_=>0
 |c::l,i,m=>match tbit m i with
  |true=>Nat.lor c (Zcu l (i+1) m)
  |false=>Zcu l (i+1) m
def Zdq:List Oper->List Nat->List Nat
 |[],acc=>acc
 |o::l,acc=>Zdq l (acc++[Nat.lor (emL o.after.toList) (Zcu acc 0 (emL o.after.toList))])
def rch (cls:List Nat) (i j:Nat):Bool:=match nth cls j with
 |some m=>tbit m i
 |none=>false
def ZpV (o:Oper):List Nat:=o.op.operands.toList.filterMap fun
 | .tmp t=>some t
 |_=>none
def lmL:List Nat->Nat
 |[]=>0
 |t::l=>setB (lmL l) t
def Zkx (ops:List Oper) (o:Oper):Nat:=match o.guard with
 |some (g,_)=>match nth ops g with
  |some q=>match q.dst with
   |some d=>setB (lmL (ZpV o)) d
   |none=>lmL (ZpV o)
  |none=>lmL (ZpV o)
 |none=>lmL (ZpV o)
structure OI where
 d:Option Nat
 lm:Nat
 em:Nat
def ZSb (d:Option Nat) (m:Nat):Bool:=match d with
 |some d=>tbit m d
 |none=>false
def ZSc (a b:Option Nat):Bool:=match a,b with
 |some a,some b=>Nat.beq a b
 |_,_=>false
def Zyf (a b:OI):Bool:= !ZSb a.d b.lm&& !ZSc a.d b.d&& !ZSb b.d a.lm
def Zwk (a:OI) (j:Nat):List OI->Bool
 |[]=>true
 |b::l=>(tbit b.em j||Zyf a b)&&Zwk a j l
def lexI:Nat->List OI->Bool
 |_,[]=>true
 |j,a::l=>Nat.blt a.em (Nat.shiftLeft 1 j)&&Zwk a j l&&lexI (j+1) l
def ZWP (ops:List Oper):List Oper->List OI
 |[]=>[]
 |o::l=>⟨o.dst,Zkx ops o,emL o.after.toList⟩::ZWP ops l
def lexL (ops:List Oper):Bool:=lexI 0 (ZWP ops ops)
def Zxf (ts:List Nat):Nat->List V->List V
 |_,[]=>[]
 |i,v::l=>(match memN ts i with|true=>v|false=>.w .junk)::Zxf ts (i+1) l
def mask (s:St) (o:Oper):St:={s with Sl:=Zxf (ZpV o) 0 s.Sl}
def ZdF:Mem:=⟨[],[]⟩
def bareS (s:St):St:={s with mem:=ZdF}
def Zdh (m:Mem):A->Bool
 | .tip h ver=>match ZaY m h ver with
  |some g=>g.ffz
  |none=>false
 | .sp _ _ _ _=>false
 |_=>true
def Zco (m:Mem):V->Bool
 | .w (.one a)=>Zdh m a
 | .w (.agg l)=>l.all (Zdh m)
 |_=>true
def Zfy (E:Env) (s:St):Op->Bool
 | .call c=>match c.callee with
  | .builtin _=>true
  |_=>match ZaX E s c,opds s c.args.toList with
   |some (.read _,_),some _=>true
   |some (_,caps),some vs=>(vs++caps).all (Zco s.mem)
   |_,_=>false
 | .slice _ x _ _ _=>match opd s x with
  |some v=>Zco s.mem v
  |none=>false
 | .buildSlice _ _ parts=> !ZxC E&&parts.toList.all λp=>match opd s p.2 with
  |some v=>Zco s.mem v
  |none=>false
 |_=>true
def ZcJ (E:Env) (rd:Bool) (s:St) (o:Oper):Option (Option Bool×V):=
 match !Zlo E o.op&&Zfy E s o.op&&(rd|| !ZiN E o.op) with
 |false=>none
 |true=>match Z6 E s o with
  | .Lf (some r)=>some (r.chk,r.v)
  |_=>none
def Zq8 (ops:List Oper) (s:St) (g:Option (Nat×Bool)) (run skip:St->RT Out):RT Out:=
 match g with
 |none=>run s
 |some (j,want)=>match nth ops j with
  |some o=>match o.dst with
   |some d=>match nth s.Sl d with
    |some (.w (.one (.bool true b)))=>match b==want with
     |true=>run s
     |false=>skip s
    |some (.w (.one (.bool false b)))=>match want with
     |true=>.br b (run (put s (some d) (.w (.one (.bool true true))))) (skip (put s (some d) (.w (.one (.bool true false)))))
     |false=>.br b (skip (put s (some d) (.w (.one (.bool true true))))) (run (put s (some d) (.w (.one (.bool true false)))))
    |some (.tup [])=>skip s
    |_=>ZfI s
   |none=>ZfI s
  |none=>ZfI s
def ZE0 (chg:Bool) (s:St):St:=match chg with
 |true=>bareS s
 |false=>s
def ZE5:List V->Option Nat
 | .w (.one (.loc b _))::_=>some b
 |_=>none
def capP:Nat:=36893488147419103232
def bxP (c:Nat):Nat:=Nat.mod c capP
def mkP (c:Nat):Nat:=Nat.div c capP
def prtP (b m:Nat):Nat:=Nat.add b (Nat.mul capP (Nat.succ m))
def rngM (o n:Nat):Nat:=Nat.shiftLeft (allB n) o
def ovlB (a b:Nat):Bool:=Nat.beq (bxP a) (bxP b)&&(Nat.beq (mkP a) 0||(Nat.beq (mkP b) 0|| !Nat.beq (Nat.land (Nat.pred (mkP a)) (Nat.pred (mkP b))) 0))
def widT (P:Program) (t:TypeId):Option Nat:=match aggT P t,Zj4 P t with
 |some true,some n=>some n
 |some false,some _=>some 1
 |_,_=>none
def ZwU (nb:Nat):List (Nat×Nat)->Option (Option (Nat×Nat))
 |[]=>some none
 |(b,o)::l=>match Nat.blt b nb with
  |false=>ZwU nb l
  |true=>match ZwU nb l with
   |none=>none
   |some none=>some (some (b,setB 0 o))
   |some (some (b',m))=>match Nat.beq b b' with
    |true=>some (some (b,setB m o))
    |false=>none
def Zyu (E:Env) (s:St) (o:Oper):Option (Nat×Bool):=match o.op with
 | .store _ p _=>match opd1 s p with
  |some (.loc b _)=>some (b,false)
  |_=>none
 | .alloc _| .box .. =>some (len s.mem.Bx,false)
 | .call c=>match c.callee with
  | .builtin .append=>some (len s.mem.Bx,true)
  | .value (.func f)=>match E.calls f with
   |some (.own _)=>match opds s c.args.toList with
    |some vs=>(ZE5 vs).map λb=>(b,false)
    |none=>none
   |some (.pure _)=>some (len s.mem.Bx,true)
   |_=>none
  |_=>none
 | .slice .. | .buildSlice .. =>some (len s.mem.Bx,true)
 |_=>none
def ZYI:V->Bool
 | .w (.one (.loc _ _))=>false
 |_=>true
def ZoS (m:Mem):Option (List V)->Option Nat
 |some (.w (.one (.loc b _))::l)=>match l.all ZYI&&(Nat.blt b (len m.Bx)&&Nat.blt b capP) with
  |true=>some b
  |false=>none
 |_=>none
def ZoR (E:Env) (s:St) (o:Oper):Option (Nat×Bool):=match o.op with
 | .load t p=>match opd1 s p with
  |some (.loc b o)=>match widT E.P t with
   |some n=>match Nat.blt b capP with
    |true=>some (prtP b (rngM o n),false)
    |false=>none
   |none=>none
  |some (.sp _ _ _ _)=>some (18446744073709551616,true)
  |_=>none
 | .indexAddr t x _=>match opd1 s x,E.P.underlying t with
  |some (.tip _ _),some (.slice _)=>some (18446744073709551616,true)
  |_,_=>none
 | .call c=>match c.callee with
  | .value (.func f)=>match E.calls f with
   |some (.read _)=>(ZoS s.mem (opds s c.args.toList)).map λb=>(b,true)
   |some (.pure _)=>some (18446744073709551616,true)
   |_=>none
  |_=>none
 |_=>none
def ZaK:Option (Nat×Bool)->Option (Nat×Bool)->Bool
 |some (a,st),some (b,ns)=> !ovlB a b&& !(st&&ns)
 |_,_=>false
def Zeg (E:Env) (s:St) (o:Oper) (r:Res):Option (Nat×Bool):=match Zyu E s o with
 |some (b,st)=>match Nat.blt b capP with
  |true=>some (b,st)
  |false=>none
 |none=>match ZwU (len s.mem.Bx) r.bd with
  |none=>none
  |some none=>match Nat.blt (len s.mem.Bx) capP with
   |true=>some (len s.mem.Bx,true)
   |false=>none
  |some (some (b,m))=>match Nat.blt b capP with
   |true=>some (prtP b m,true)
   |false=>none
def ZOU (s:St) (d:Option Nat) (c:Res->Bool) (k:Res->St->RT Out):Option Res->RT Out
 |some r=>match c r with
  |true=>chkT r.chk s (k r (putRes s d r))
  |false=>ZfI s
 |none=>ZfI s
def Zxq (cls:List Nat) (ops:List Oper) (cs:List (Nat×Option (Nat×Bool))) (d:Nat):List Oper->Nat->Bool
 |[],_=>true
 |o::l,i=>(!tbit (Zkx ops o) d||cs.all (λq=>rch cls q.1 i))&& !ZSc o.dst (some d)&&Zxq cls ops cs d l (i+1)
def ZOf (cls:List Nat) (ops:List Oper) (cs:List (Nat×Option (Nat×Bool))) (o:Oper) (rest:List Oper) (i n:Nat):Bool:=match o.op,o.dst,o.guard with
 | .alloc _,some d,none=>Nat.blt d n&&Zxq cls ops cs d rest (i+1)
 |_,_,_=>false
def ZUZ (cls:List Nat) (cs:List (Nat×Option (Nat×Bool))) (lo:Option (Nat×Bool)) (i:Nat) (fl:Bool):Bool:=match fl with
 |false=>cs.all (λq=>ZaK q.2 lo||rch cls q.1 i)
 |true=>cs.all (λq=>ZaK q.2 lo)||cs.all (λq=>rch cls q.1 i)
def ZcN (E:Env) (chg:Bool) (cls:List Nat) (ops:List Oper):List Oper->Nat->Bool->List (Nat×Option (Nat×Bool))->List (Nat×Option (Nat×Bool))->St->RT Out
 |[],_,_,_,_,s=>.Lf ⟨.normal,s⟩
 |o::rest,i,fl,cs,rs,s=>Zq8 ops s o.guard (λs=>match ZcJ E (!chg) (ZE0 chg (mask s o)) o with
   |some (chk,v)=>chkT chk s (ZcN E chg cls ops rest (i+1) fl cs rs (put s o.dst v))
   |none=>match chg with
    |true=>match ZcJ E true (mask s o) o with
     |some (chk,v)=>match ZUZ cls cs (ZoR E (mask s o) o) i fl with
      |true=>chkT chk s (ZcN E chg cls ops rest (i+1) fl cs ((i,ZoR E (mask s o) o)::rs) (put s o.dst v))
      |false=>ZfI s
     |none=>match cs.all (λq=>rch cls q.1 i) with
      |true=>(Z6 E (mask s o) o).bind (ZOU s o.dst (λr=>rs.all (λq=>ZaK (Zeg E (mask s o) o r) q.2||rch cls q.1 i)) (λr s'=>ZcN E chg cls ops rest (i+1) fl ((i,Zeg E (mask s o) o r)::cs) rs s'))
      |false=>match ZOf cls ops cs o rest i (len s.Sl) with
       |true=>(Z6 E (mask s o) o).bind (ZOU s o.dst (λr=>rs.all (λq=>ZaK (Zeg E (mask s o) o r) q.2||rch cls q.1 i)) (λr s'=>ZcN E chg cls ops rest (i+1) true ((i,Zeg E (mask s o) o r)::cs) rs s'))
       |false=>ZfI s
    |false=>ZfI s) (λs=>ZcN E chg cls ops rest (i+1) fl cs rs (put s o.dst Zmr))
def ZO1 (E:Env) (d:Nat):List Oper->Bool
 |[]=>false
 |o::l=>(match o.op with
  | .call c=>match c.callee with
   | .value (.func f)=>match E.calls f with
    |some (.pure _)=>c.args.toList.any (λa=>match a with
     | .tmp t=>Nat.beq t d
     |_=>false)
    |_=>false
   |_=>false
  |_=>false)||ZO1 E d l
def Zif (E:Env) (s:St):List Oper->St
 |[]=>s
 |o::l=>match o.op with
  | .call c=>match c.callee with
   | .builtin _=>Zif E s l
   |_=>match opds s c.args.toList with
    |some vs=>match Zac s vs with
     |some (_,s')=>Zif E s' l
     |none=>Zif E s l
    |none=>Zif E s l
  | .move y=>match o.dst with
   |some d=>match ZO1 E d l with
    |true=>match opds s [y] with
     |some vs=>match Zac s vs with
      |some (_,s')=>Zif E s' l
      |none=>Zif E s l
     |none=>Zif E s l
    |false=>Zif E s l
   |none=>Zif E s l
  |_=>Zif E s l
def Zfd (s:St) (o:Out):Out:=match o.k with
 | .stop=>⟨.stop,s⟩
 |_=>o
def ZFa (E:Env) (ops:List Oper) (s:St):RT Out:=(ZiF (len s.mem.Bx) (len s.mem.Sg) ⟨E.named,false⟩ ((ZcN E (ops.any (λo=>Zlo E o.op)) (Zdq ops []) ops ops 0 false [] [] (Zar s)).map (Zfd (Zar s)))).map (backD s)
def seqT (t:RT Out) (k:St->RT Out):RT Out:=
 t.bind λo=>match o.k with
  | .normal=>k o.s
  |_=>.Lf o
def unexit (id:Nat) (o:Out):Out:=
 match o.k with
 | .exit i=>match Nat.beq i id with
  |true=>⟨.normal,o.s⟩
  |false=>o
 |_=>o
def ZjW (round:St->RT Out):Nat->St->RT Out
 |0,s=>ZfI s
 |n+1,s=>seqT (round s) (ZjW round n)
def ZbI (E:Env):Code->St->RT Out
 | .skip,s=>.Lf ⟨.normal,s⟩
 | .region _ ops draw,s=>match draw with
  |false=>(ZiF (len s.mem.Bx) (len s.mem.Sg) ⟨E.named,false⟩ (ZHR E ops.toList ops.toList (Zar s))).map (backD s)
  |true=>match lexL ops.toList&&E.P.follows .mixedOrders with
   |false=>ZfI s
   |true=>ZFa E ops.toList (Zif E s ops.toList)
 | .seq a b,s=>seqT (ZbI E a s) (ZbI E b)
 | .cond c t e,s=>match opd1 s c with
  |some (.bool true b)=>match b with
   |true=>ZbI E t s
   |false=>ZbI E e s
  |some (.bool false b)=>(fork b (len s.mem.Bx) (len s.mem.Sg) ⟨E.named,true⟩ (ZbI E t (Zar s)) (ZbI E e (Zar s))).map (backD s)
  |_=>ZfI s
 | .block id (.loop c),s=>match E.loops id with
  |some f=>f s
  |none=>(ZiF (len s.mem.Bx) (len s.mem.Sg) ⟨E.named,true⟩ ((ZjW (ZbI E c) E.fuel (Zar s)).map (unexit id))).map (backD s)
 | .block id c,s=>(ZiF (len s.mem.Bx) (len s.mem.Sg) ⟨E.named,true⟩ ((ZbI E c (Zar s)).map (unexit id))).map (backD s)
 | .exit id,s=>.Lf ⟨.exit id,s⟩
 | .ret,s=>.Lf ⟨.ret,s⟩
 |_,s=>ZfI s
def ZeO (P:Program) (s:St):List ResultVar->Option (List W)
 |[]=>some []
 | .tmp t::r=>match nth s.Sl t,ZeO P s r with
  |some (.w x),some l=>some (x::l)
  |_,_=>none
 | .cell t ty::r=>match nth s.Sl t,ZeO P s r with
  |some (.w (.one p)),some l=>match Zxm P s.mem ty p with
   |some x=>some (x::l)
   |none=>none
  |_,_=>none
def Zr2 (P:Program) (fn:Func) (s:St):Option V:=
 match ZeO P s fn.results.toList with
 |some [x]=>some (.w x)
 |some l=>some (.tup l)
 |none=>none
def Zan (fn:Func) (vs:List V) (m:Mem):St:=
 {Sl:=vs++rep Zmr (fn.ntmps-len vs),mem:=m,dirty:=0,bd:=[],sd:=[]}
def ZE6 (P:Program) (fn:Func) (o:Out):Option Res:=
 match o.k with
 | .ret| .normal=>match Zr2 P fn o.s with
  |some v=>some (ofSt o.s none v)
  |none=>none
 |_=>none
def Zo (E:Env) (fn:Func) (vs:List V) (m:Mem):RT (Option Res):=
 match fn.body with
 |some c=>(ZbI E c (Zan fn vs m)).map (ZE6 E.P fn)
 |none=>.Lf none
