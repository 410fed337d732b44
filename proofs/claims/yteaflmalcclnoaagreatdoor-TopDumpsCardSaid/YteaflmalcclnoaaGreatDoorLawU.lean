import Derived.Test.YteaflmalcclnoaaGreatDoorExpP
open Go.Proofs.Tryz (prog)
set_option linter.unusedVariables false
set_option linter.unusedSimpArgs false
namespace Go.Proofs
open Go.Shelf
def Tryz.lays137_ren:Go.Shelf.Ren:=⟨fun|137=>115|217=>180|266=>231|n=>n,fun|9=>9|5=>5|3=>3|n=>n,fun|n=>n⟩
theorem Tryz.lays137:Go.Proofs.Lays.n137 prog Tryz.lays137_ren:={
 mixed:=by kernel_rfl
 f137:=Tryz.func115.trans (congrArg some (by kernel_rfl))
 f217:=Tryz.func180.trans (congrArg some (by kernel_rfl))
 f266:=Tryz.func231.trans (congrArg some (by kernel_rfl))
 t3:=Tryz.underlying3
 a3:=Tryz.isAgg3
 z3:=Tryz.sizeOf3
 v3:=Tryz.zeroValue3
 t5:=Tryz.underlying5
 a5:=Tryz.isAgg5
 z5:=Tryz.sizeOf5
 v5:=Tryz.zeroValue5
 t9:=Tryz.underlying9
 a9:=Tryz.isAgg9
 z9:=Tryz.sizeOf9
 v9:=Tryz.zeroValue9}
def Tryz.lays219_ren:Go.Shelf.Ren:=⟨fun|219=>166|217=>180|225=>176|224=>175|267=>222|266=>231|314=>254|n=>n,fun|9=>9|3=>3|4=>4|5=>5|46=>189|146=>345|51=>344|n=>n,fun|1=>0|n=>n⟩
theorem Tryz.lays219:Go.Proofs.Lays.n219 prog Tryz.lays219_ren:={
 mixed:=by kernel_rfl
 f217:=Tryz.func180.trans (congrArg some (by kernel_rfl))
 f219:=Tryz.func166.trans (congrArg some (by kernel_rfl))
 f224:=Tryz.func175.trans (congrArg some (by kernel_rfl))
 f225:=Tryz.func176.trans (congrArg some (by kernel_rfl))
 f266:=Tryz.func231.trans (congrArg some (by kernel_rfl))
 f267:=Tryz.func222.trans (congrArg some (by kernel_rfl))
 f314:=Tryz.func254.trans (congrArg some (by kernel_rfl))
 t3:=Tryz.underlying3
 a3:=Tryz.isAgg3
 z3:=Tryz.sizeOf3
 v3:=Tryz.zeroValue3
 t4:=Tryz.underlying4
 a4:=Tryz.isAgg4
 z4:=Tryz.sizeOf4
 v4:=Tryz.zeroValue4
 t5:=Tryz.underlying5
 a5:=Tryz.isAgg5
 z5:=Tryz.sizeOf5
 v5:=Tryz.zeroValue5
 t9:=Tryz.underlying9
 a9:=Tryz.isAgg9
 z9:=Tryz.sizeOf9
 v9:=Tryz.zeroValue9
 t46:=Tryz.underlying189
 a46:=Tryz.isAgg189
 z46:=Tryz.sizeOf189
 v46:=Tryz.zeroValue189
 t51:=Tryz.underlying344
 a51:=Tryz.isAgg344
 z51:=Tryz.sizeOf344
 v51:=Tryz.zeroValue344
 t146:=Tryz.underlying345
 a146:=Tryz.isAgg345
 z146:=Tryz.sizeOf345
 v146:=Tryz.zeroValue345
 g1:=by kernel_rfl}
def Tryz.lays221_ren:Go.Shelf.Ren:=⟨fun|221=>167|268=>223|138=>224|143=>225|195=>255|197=>178|218=>256|219=>166|260=>229|217=>180|225=>176|224=>175|267=>222|266=>231|314=>254|n=>n,fun|9=>9|3=>3|31=>128|4=>4|0=>0|105=>223|21=>21|5=>5|46=>189|119=>347|139=>350|138=>349|146=>345|51=>344|n=>n,fun|1=>0|3=>1|4=>2|n=>n⟩
theorem Tryz.lays221:Go.Proofs.Lays.n221 prog Tryz.lays221_ren:={
 mixed:=by kernel_rfl
 f138:=Tryz.func224.trans (congrArg some (by kernel_rfl))
 f143:=Tryz.func225.trans (congrArg some (by kernel_rfl))
 f195:=Tryz.func255.trans (congrArg some (by kernel_rfl))
 f197:=Tryz.func178.trans (congrArg some (by kernel_rfl))
 f217:=Tryz.func180.trans (congrArg some (by kernel_rfl))
 f218:=Tryz.func256.trans (congrArg some (by kernel_rfl))
 f219:=Tryz.func166.trans (congrArg some (by kernel_rfl))
 f221:=Tryz.func167.trans (congrArg some (by kernel_rfl))
 f224:=Tryz.func175.trans (congrArg some (by kernel_rfl))
 f225:=Tryz.func176.trans (congrArg some (by kernel_rfl))
 f260:=Tryz.func229.trans (congrArg some (by kernel_rfl))
 f266:=Tryz.func231.trans (congrArg some (by kernel_rfl))
 f267:=Tryz.func222.trans (congrArg some (by kernel_rfl))
 f268:=Tryz.func223.trans (congrArg some (by kernel_rfl))
 f314:=Tryz.func254.trans (congrArg some (by kernel_rfl))
 t0:=Tryz.underlying0
 a0:=Tryz.isAgg0
 z0:=Tryz.sizeOf0
 v0:=Tryz.zeroValue0
 t3:=Tryz.underlying3
 a3:=Tryz.isAgg3
 z3:=Tryz.sizeOf3
 v3:=Tryz.zeroValue3
 t4:=Tryz.underlying4
 a4:=Tryz.isAgg4
 z4:=Tryz.sizeOf4
 v4:=Tryz.zeroValue4
 t5:=Tryz.underlying5
 a5:=Tryz.isAgg5
 z5:=Tryz.sizeOf5
 v5:=Tryz.zeroValue5
 t9:=Tryz.underlying9
 a9:=Tryz.isAgg9
 z9:=Tryz.sizeOf9
 v9:=Tryz.zeroValue9
 t21:=Tryz.underlying21
 a21:=Tryz.isAgg21
 z21:=Tryz.sizeOf21
 v21:=Tryz.zeroValue21
 t31:=Tryz.underlying128
 a31:=Tryz.isAgg128
 z31:=Tryz.sizeOf128
 v31:=Tryz.zeroValue128
 t46:=Tryz.underlying189
 a46:=Tryz.isAgg189
 z46:=Tryz.sizeOf189
 v46:=Tryz.zeroValue189
 t51:=Tryz.underlying344
 a51:=Tryz.isAgg344
 z51:=Tryz.sizeOf344
 v51:=Tryz.zeroValue344
 t105:=Tryz.underlying223
 a105:=Tryz.isAgg223
 z105:=Tryz.sizeOf223
 v105:=Tryz.zeroValue223
 t119:=Tryz.underlying347
 a119:=Tryz.isAgg347
 z119:=Tryz.sizeOf347
 t138:=Tryz.underlying349
 a138:=Tryz.isAgg349
 z138:=Tryz.sizeOf349
 v138:=Tryz.zeroValue349
 t139:=Tryz.underlying350
 a139:=Tryz.isAgg350
 z139:=Tryz.sizeOf350
 v139:=Tryz.zeroValue350
 t146:=Tryz.underlying345
 a146:=Tryz.isAgg345
 z146:=Tryz.sizeOf345
 v146:=Tryz.zeroValue345
 g1:=by kernel_rfl
 g3:=by kernel_rfl
 g4:=by kernel_rfl}
end Go.Proofs
open Go Go.S3 Go.Proofs
open Go.S3.R (Pq)
namespace Go.Proofs.YteaflmalcclnoaaGreatDoor
noncomputable section
theorem hi221:(prog.info? (Tryz.lays221_ren.t 9)).map (λi=>(i.zero,i.size,i.bytes))=some (some (.string ByteArray.empty),1,16):=by kernel_rfl
theorem ZYJ:Tryz.lays221_ren.f 221=167:=by kernel_rfl
theorem ZYK:Tryz.lays219_ren.f 219=166:=by kernel_rfl
theorem ZYL:Tryz.lays137_ren.f 137=115:=by kernel_rfl
abbrev Zur:En:=ZSW
theorem ZHC:Za prog 167 Zur:=by have h:=ZPU Tryz.lays221 hi221 (by rw[ZYJ];exact Tryz.call167);rw[ZYJ] at h;exact h
abbrev ZNx:En:=ZNZ
theorem ZRF:Za prog 166 ZNx:=by have h:=ZNY Tryz.lays219 (by rw[ZYK];exact Tryz.call166);rw[ZYK] at h;exact h
abbrev ZBB:En:=ZEW
theorem Zxo:Za prog 115 ZBB:=by have h:=ZHH Tryz.lays137 (by rw[ZYL];exact Tryz.call115);rw[ZYL] at h;exact h
end
end Go.Proofs.YteaflmalcclnoaaGreatDoor
open Go Go.S3
namespace Go.Proofs.Wd
def B (l:List UInt8):ByteArray:=⟨l.toArray⟩
theorem ZIa (b:ByteArray):B b.data.toList=b:=by cases b;simp[B]
theorem Zro (l:List UInt8):(B l).size=l.length:=by simp[B,ByteArray.size]
theorem ZPl (a b:List UInt8):B a++B b=B (a++b):=by rw[<-ZIa (B a++B b)];simp[B]
theorem ZZt (l:List UInt8) (a b:Nat):(B l).extract a b=B ((l.drop a).take (b-a)):=by rw[<-ZIa ((B l).extract a b),Lib.extract_data];rfl
theorem ZBK {c:UInt8} {r:List UInt8}:∀{w:List UInt8},c ∉ w->Lib.indexByte (w++c::r) c=w.length
 |[],_=>by simp[Lib.indexByte]
 |b::w,h=>by
  have h1:(b==c)=false:=beq_eq_false_iff_ne.2 λe=>h (e▸by simp)
  have h2:=ZBK (r:=r) (w:=w) λe=>h (YA _ e)
  have h3:¬((w.length:Int)= -1):=by omega
  simp[Lib.indexByte,h1,h2,h3]
def Zcu (c:UInt8):List (List UInt8)->List UInt8
 |[]=>[]
 |[w]=>w
 |w::v::r=>w++c::Zcu c (v::r)
theorem Zqf (c:UInt8):∀(ws:List (List UInt8)),ws≠[]->(∀w∈ws,c ∉ w)->Lib.splitK [c] 0 (List.count c (Zcu c ws)) (Zcu c ws)=ws
 |[],h,_=>absurd rfl h
 |[w],_,h=>by have hw:c ∉ w:=h w (by simp);have:List.count c w=0:=List.count_eq_zero.2 hw;simp[Zcu,this,Lib.splitK]
 |w::v::r,_,h=>by
  have hw:c ∉ w:=h w (by simp);have h0:List.count c w=0:=List.count_eq_zero.2 hw;have ih:=Zqf c (v::r) (by simp) (λx hx=>h x (YA _ hx));have hi:Lib.index (w++c::Zcu c (v::r)) [c]=(w.length:Int):=by rw[Lib.index_one,ZBK hw]
  have hne:((w.length:Int)== -1)=false:=beq_eq_false_iff_ne.2 (by omega);have hcnt:List.count c (Zcu c (w::v::r))=List.count c (Zcu c (v::r))+1:=by simp[Zcu,h0]
  rw[hcnt];show Lib.splitK [c] 0 _ (w++c::Zcu c (v::r))=_;rw[Lib.splitK,hi,hne,Y3 (by simp)];have e1:(w.length:Int).toNat=w.length:=by omega
  rw[e1];have e2:(w++c::Zcu c (v::r)).drop (w.length+[c].length)=Zcu c (v::r):=by simp
  have e3:(w++c::Zcu c (v::r)).take (w.length+0)=w:=by simp
  rw[e2,e3,ih]
theorem ZyC (c:UInt8) (ws:List (List UInt8)) (hne:ws≠[]) (h:∀w∈ws,c ∉ w):Lib.splitB ⟨#[c]⟩ 0 (Lib.countB (B (Zcu c ws)) ⟨#[c]⟩) (B (Zcu c ws))=ws.map B:=by
 have hc:Lib.countB (B (Zcu c ws)) ⟨#[c]⟩=List.count c (Zcu c ws):=by show Lib.count _ [c]=_;rw[Lib.count_one];rfl
 have:=Lib.splitB_data ⟨#[c]⟩ 0 (Lib.countB (B (Zcu c ws)) ⟨#[c]⟩) (B (Zcu c ws));rw[hc] at this|-;have h2:=Zqf c ws hne h;have e:∀l:List ByteArray,(l.map (·.data.toList)).map B=l:=λl=>by
  rw[Ya4]
  conv=>rhs;rw[<-List.map_id l]
  exact List.map_congr_left λx _=>ZIa x
 rw[<-e (Lib.splitB _ _ _ _),this];exact congrArg _ h2
theorem ZHF (c:UInt8) {w r:List UInt8} (h:c ∉ w):Lib.indexB (B (w++c::r)) ⟨#[c]⟩=w.length:=by rw[Zuu];exact ZBK h
def bI (l:List UInt8):List Int:=l.map λx=>(x.toNat:Int)
theorem ZJf (l:List UInt8):strL (B l)=bI l:=rfl
theorem ZPa (a b:List UInt8):bI (a++b)=bI a++bI b:=YaQ
theorem ZCM (l:List UInt8):Zyy (bI l)=B l:=by
 have key:∀(l:List UInt8) (r:ByteArray),(bI l).foldl (λr n=>r.push (UInt8.ofNat n.toNat)) r=r++B l:=by
  intro l
  induction l with
  |nil=>intro r;rw[<-ZIa r,ZPl,YG];rfl
  |cons c l ih=>
   intro r;show (bI l).foldl _ (r.push (UInt8.ofNat ((c.toNat:Int).toNat)))=_;rw[ih];have e:UInt8.ofNat ((c.toNat:Int).toNat)=c:=by simp
   rw[e,<-ZIa (r.push c++B l),<-ZIa (r++B (c::l))];congr 1;simp[B,ByteArray.push]
 have:=key l ByteArray.empty;unfold Zyy;rw[this];have:ByteArray.empty=B []:=rfl;rw[this,ZPl,List.nil_append]
end Go.Proofs.Wd
open Go.IntKind (u8 u16 i64 wrap)
namespace Go.Proofs
abbrev kD:ByteArray:=Wd.B [48,49,50,51,52,53,54,55,56,57,97,98,99,100,101,102]
abbrev kS:ByteArray:=Wd.B [32]
abbrev kN:ByteArray:=Wd.B [10]
abbrev nA:ByteArray:=Wd.B [115,121,110,99]
abbrev nB:ByteArray:=Wd.B [100,98,105,110]
abbrev nC:ByteArray:=Wd.B [119,97,105,116]
abbrev nD:ByteArray:=Wd.B [105,110,116,101]
abbrev nE:ByteArray:=Wd.B [97,108,101]
abbrev nF:ByteArray:=Wd.B [105,111,109]
abbrev nG:ByteArray:=Wd.B [115,49]
abbrev nH:ByteArray:=Wd.B [115,48]
abbrev nI:ByteArray:=Wd.B [114,100]
abbrev nJ:ByteArray:=Wd.B [105,110,116,97]
abbrev nK:ByteArray:=Wd.B [115,111,100]
abbrev nL:ByteArray:=Wd.B [119,114]
abbrev nM:ByteArray:=Wd.B [104,108,100,97]
abbrev nN:ByteArray:=Wd.B [102,108,111,97,116]
abbrev mx (n:Nat):Bool:=decide (iN n<=IntKind.max i64)
abbrev bm {α:Type} (l:List α):Bool:=Nat.ble l.length most
abbrev pa (p:PINT):Bool:=p.2.2.2.1
abbrev pb (p:PINT):Bool:=p.2.2.2.2.1
abbrev pc (p:PINT):Bool:=p.2.2.2.2.2.1
abbrev pd (p:PINT):Bool:=p.2.2.2.2.2.2.1
abbrev pe (p:PINT):Bool:=p.2.2.2.2.2.2.2.1
abbrev pf (p:PINT):Bool:=p.2.2.2.2.2.2.2.2.1
abbrev pg (p:PINT):Bool:=p.2.2.2.2.2.2.2.2.2.1
abbrev ph (p:PINT):Bool:=p.2.2.2.2.2.2.2.2.2.2.1
abbrev pi (p:PINT):Bool:=p.2.2.2.2.2.2.2.2.2.2.2.1
abbrev pj (p:PINT):Bool:=p.2.2.2.2.2.2.2.2.2.2.2.2.1
end Go.Proofs
set_option maxRecDepth 100000
namespace Go.Proofs.YteaflmalcclnoaaGreatDoor
noncomputable section
def ZjE:En:=.tree (Zo (envX prog [] [] 1 8) Tryz.f83)
theorem Zpn:Za prog 83 ZjE:=ZL trivial Tryz.func83 rfl (by kernel_rfl) Tryz.call83 trivial
abbrev ZOy:Rs:=Rs.one (So R.str)
def ZW8 (n:Int):RT (Option (ByteArray)):=
 let x1:Nat:=0+1+1+1+1+1+1+1
 .br (decide (n<1)||decide (n>10)) (Ls (ByteArray.mk #[63])) (.br (decide (0<=i64.wrap (n-1)/\i64.wrap (n-1)<10)) (Ls (bif i64.wrap (n-1)==0 then ByteArray.mk #[116,49] else bif i64.wrap (n-1)==iN (0+1) then ByteArray.mk #[116,50] else bif i64.wrap (n-1)==iN (0+1+1) then ByteArray.mk #[116,51] else bif i64.wrap (n-1)==iN (0+1+1+1) then ByteArray.mk #[116,52] else bif i64.wrap (n-1)==iN (0+1+1+1+1) then ByteArray.mk #[116,53] else bif i64.wrap (n-1)==iN (0+1+1+1+1+1) then ByteArray.mk #[116,54] else bif i64.wrap (n-1)==iN (0+1+1+1+1+1+1) then ByteArray.mk #[116,119] else bif i64.wrap (n-1)==iN x1 then ByteArray.mk #[116,104] else bif i64.wrap (n-1)==iN (x1+1) then ByteArray.mk #[116,104,97,108,116] else ByteArray.mk #[116,114,101,115,101,116])) Ln)
def dpSt (n:Int):ByteArray:=getO ZOy.Df (ZW8 n).val
def ZHS (n:Int):Bool:=okB (ZW8 n).val
def ZSg:En:=Zf Zwr ZOy (λa=>some (ZHS a)) (λa=>dpSt a)
theorem ZOx:Za prog 85 ZSg:=
 pureP 7 [(83,ZjE)] [] _ _ ⟨Zpn,Tv⟩ Tryz.func85 Tryz.call85 trivial
abbrev ZOC:List Sh:=[So R.str]
def ZSk:LS:={n:=20,Sl:=[(0,.code (So R.str)),(3,.code (So Kc)),(6,.code (So Kc)),(7,.code (So Kc))],Bx:=[],Sg:=[]}
def ZjG (a:ByteArray×Int×Int×Int×PUnit):RT (Option (Go1 (ByteArray×Int×Int×Int×PUnit))):=
 let x1:=decide (0<=a.2.2.2.1)&&decide (a.2.2.2.1<iN (ByteArray.size a.1))
 let x2:= !x1||Nat.ble (ByteArray.size kD) 4294967280
 .br (decide (a.2.2.2.1<a.2.2.1)) (.br (!x2||x1) (.br (x2) (Ls (Go1.cont (a.1,orI i64 (shlI i64 a.2.1 4) (andI i64 (Lib.indexByte (Array.toList #[48,49,50,51,52,53,54,55,56,57,97,98,99,100,101,102]) (Nat.toUInt8 (Int.toNat (Zda a.1 a.2.2.2.1)))) 15),a.2.2.1,i64.wrap (a.2.2.2.1+1),PUnit.unit))) Ln) Ln) (Ls (Go1.brk (a.1,a.2.1,a.2.2.1,a.2.2.2.1,PUnit.unit)))
def ZFf:Ora:=Zbq false ZSk ZjG (λa=>1000000000000)
theorem ZHU:Za1 (envX prog [(115,ZBB)] [] 31 8) (.block 0 (.loop (Z5 Tryz.f82.body 0))) ZFf:=
 loopP ⟨Zxo,Tv⟩
def ZxV (s:ByteArray):RT (Option (Int)):=
 let x1:=runF false ZjG (λa=>1000000000000) (s,0,iN (ByteArray.size s),0,())
 .br (decide (iN (ByteArray.size s)<=IntKind.max i64)) (.br (okB x1) (Ls (getO (false,s,0,iN (ByteArray.size s),0,()) x1).2.2.1) Ln) Ln
def ZOD (s:ByteArray):Int:=getO ZTl.Df (ZxV s).val
def ZxW (s:ByteArray):Bool:=okB (ZxV s).val
def Zrf:En:=Zf ZOC ZTl (λa=>some (ZxW a)) (λa=>ZOD a)
theorem ZuJ:Za prog 82 Zrf:=
 pureP 31 [(115,ZBB)] [(0,ZFf)] _ _ ⟨Zxo,Tv⟩ Tryz.func82 Tryz.call82 ⟨ZHU,Tv⟩
def ZeV:En:=.tree (Zo (envX prog [] [] 7 8) Tryz.f84)
theorem ZhY:Za prog 84 ZeV:=ZL trivial Tryz.func84 rfl (by kernel_rfl) Tryz.call84 trivial
def ZbE:En:=.tree (Zo (envX prog [] [] 31 8) Tryz.f86)
theorem ZdG:Za prog 86 ZbE:=ZL trivial Tryz.func86 rfl (by kernel_rfl) Tryz.call86 trivial
def ZuL:En:=.tree (Zo (envX prog [(84,ZeV),(85,ZSg),(86,ZbE)] [] 127 16) Tryz.f30)
theorem ZxY:Za prog 30 ZuL:=ZL ⟨ZhY,ZOx,ZdG,Tv⟩ Tryz.func30 rfl (by kernel_rfl) Tryz.call30 trivial
abbrev ZOE:List Sh:=[Sh.agg ZcS]
def ZxX (p:PINT):RT (Option (List Int)):=
 let x1:=mx (ByteArray.size (dpSt p.1)+ByteArray.size kS)
 let x2:=iN (ByteArray.size kD)
 let x3:=decide (0<=shrI u8 (u8.wrap (shrI u16 p.2.1 8)) 4)&&decide (shrI u8 (u8.wrap (shrI u16 p.2.1 8)) 4<x2)
 let x4:= !x3
 let x5:=decide (0<=andI u8 (u8.wrap (shrI u16 p.2.1 8)) 15)&&decide (andI u8 (u8.wrap (shrI u16 p.2.1 8)) 15<x2)
 let x6:List Int:=[]++strL (dpSt p.1++kS)++[Zda kD (shrI u8 (u8.wrap (shrI u16 p.2.1 8)) 4),Zda kD (andI u8 (u8.wrap (shrI u16 p.2.1 8)) 15)]
 let x7:=x4||(!x5||bm x6)
 let x8:= !x7
 let x9:=x4||x5
 let x10:= !x9
 let x11:=decide (0<=shrI u8 (u8.wrap p.2.1) 4)&&decide (shrI u8 (u8.wrap p.2.1) 4<x2)
 let x12:= !x11
 let x13:=decide (0<=andI u8 (u8.wrap p.2.1) 15)&&decide (andI u8 (u8.wrap p.2.1) 15<x2)
 let x14:List Int:=x6++[Zda kD (shrI u8 (u8.wrap p.2.1) 4),Zda kD (andI u8 (u8.wrap p.2.1) 15)]
 let x15:=x12||(!x13||bm x14)
 let p1:=( !x15)::x4::x10::x8::[]
 let x17:=x12||x13
 let p4:=(!x17)::p1
 let x18:List Int:=x14++[32]
 let x19:=bm x18
 let x20:= !x19
 let x21:=decide (0<=shrI u8 p.2.2.1 4)&&decide (shrI u8 p.2.2.1 4<x2)
 let x22:= !x21
 let x23:=decide (0<=andI u8 p.2.2.1 15)&&decide (andI u8 p.2.2.1 15<x2)
 let x24:List Int:=x18++[Zda kD (shrI u8 p.2.2.1 4),Zda kD (andI u8 p.2.2.1 15)]
 let x25:=x22||(!x23||bm x24)
 let x26:= !x25
 let x27:=x22||x23
 let x28:=mx (ByteArray.size kS+ByteArray.size nA)
 let x29:List Int:=x24++strL (kS++nA)
 let x30:= !(pa p)||(!x28||bm x29)
 let x31:= !x30
 let x32:=x31||(!(pa p)||x28)
 let x33:= !x32
 let x34:=mx (ByteArray.size kS+ByteArray.size nB)
 let x35:List Int:=bif (pa p) then x29 else x24
 let x36:List Int:=x35++strL (kS++nB)
 let x37:= !(pb p)||(!x34||bm x36)
 let x38:= !x37
 let x39:=x38||(!(pb p)||x34)
 let x40:= !x39
 let p2:=x38::x40::x31::x33::[]
 let x41:=mx (ByteArray.size kS+ByteArray.size nC)
 let x42:List Int:=bif (pb p) then x36 else x35
 let x43:List Int:=x42++strL (kS++nC)
 let x44:= !(pc p)||(!x41||bm x43)
 let x45:= !x44
 let x46:=x45||(!(pc p)||x41)
 let p3:=( !x46)::p2
 let p5:=x45::p3
 let x48:=mx (ByteArray.size kS+ByteArray.size nD)
 let x49:List Int:=bif (pc p) then x43 else x42
 let x50:List Int:=x49++strL (kS++nD)
 let x51:= !(pd p)||(!x48||bm x50)
 let x52:= !x51
 let x53:=x52||(!(pd p)||x48)
 let p6:=( !x53)::p5
 let p7:=x52::p6
 let x55:=mx (ByteArray.size kS+ByteArray.size nE)
 let x56:List Int:=bif (pd p) then x50 else x49
 let x57:List Int:=x56++strL (kS++nE)
 let x58:= !(pe p)||(!x55||bm x57)
 let x59:= !x58
 let x60:=x59||(!(pe p)||x55)
 let p8:=( !x60)::p7
 let p9:=x59::p8
 let x62:=mx (ByteArray.size kS+ByteArray.size nF)
 let x63:List Int:=bif (pe p) then x57 else x56
 let x64:List Int:=x63++strL (kS++nF)
 let x65:= !(pf p)||(!x62||bm x64)
 let x66:= !x65
 let x67:=x66||(!(pf p)||x62)
 let p10:=( !x67)::p9
 let p11:=x66::p10
 let x69:=mx (ByteArray.size kS+ByteArray.size nG)
 let x70:List Int:=bif (pf p) then x64 else x63
 let x71:List Int:=x70++strL (kS++nG)
 let x72:= !(pg p)||(!x69||bm x71)
 let x73:= !x72
 let x74:=x73||(!(pg p)||x69)
 let p12:=( !x74)::p11
 let p13:=x73::p12
 let x76:=mx (ByteArray.size kS+ByteArray.size nH)
 let x77:List Int:=bif (pg p) then x71 else x70
 let x78:List Int:=x77++strL (kS++nH)
 let x79:= !(ph p)||(!x76||bm x78)
 let x80:= !x79
 let x81:=x80||(!(ph p)||x76)
 let p14:=( !x81)::p13
 let p15:=x80::p14
 let x83:= !(pi p)
 let x84:=mx (ByteArray.size kS+ByteArray.size nI)
 let x85:List Int:=bif (ph p) then x78 else x77
 let x86:List Int:=x85++strL (kS++nI)
 let x87:=x83||(!x84||bm x86)
 let x88:= !x87
 let x89:=x88||(x83||x84)
 let p16:=( !x89)::p15
 let p17:=x88::p16
 let x91:=(pj p)
 let x92:= !x91
 let x93:=mx (ByteArray.size kS+ByteArray.size nJ)
 let x94:List Int:=bif (pi p) then x86 else x85
 let x95:List Int:=x94++strL (kS++nJ)
 let x96:=x92||(!x93||bm x95)
 let x97:= !x96
 let x98:=x97||(x92||x93)
 let p18:=( !x98)::p17
 let p19:=x97::p18
 let x100:=p.2.2.2.2.2.2.2.2.2.2.2.2.2
 let x101:=x100.1
 let x102:= !x101
 let x103:=mx (ByteArray.size kS+ByteArray.size nK)
 let x104:List Int:=bif x91 then x95 else x94
 let x105:List Int:=x104++strL (kS++nK)
 let x106:=x102||(!x103||bm x105)
 let x107:= !x106
 let x108:=x107||(x102||x103)
 let p20:=( !x108)::p19
 let p21:=x107::p20
 let x110:=x100.2
 let x111:=x110.1
 let x112:= !x111
 let x113:=mx (ByteArray.size kS+ByteArray.size nL)
 let x114:List Int:=bif x101 then x105 else x104
 let x115:List Int:=x114++strL (kS++nL)
 let x116:=x112||(!x113||bm x115)
 let x117:= !x116
 let x118:=x117||(x112||x113)
 let p22:=( !x118)::p21
 let p23:=x117::p22
 let x120:=x110.2
 let x121:=x120.1
 let x122:= !x121
 let x123:=mx (ByteArray.size kS+ByteArray.size nM)
 let x124:List Int:=bif x111 then x115 else x114
 let x125:List Int:=x124++strL (kS++nM)
 let x126:=x122||(!x123||bm x125)
 let x127:= !x126
 let x128:=x127||(x122||x123)
 let p24:=( !x128)::p23
 let p25:=x127::p24
 let x130:=x120.2
 let x131:= !x130
 let x132:=mx (ByteArray.size kS+ByteArray.size nN)
 let x133:List Int:=bif x121 then x125 else x124
 let x134:List Int:=x133++strL (kS++nN)
 let x135:=x131||(!x132||bm x134)
 let x136:= !x135||(x131||x132)
 let p26:=(!x136)::p25
 .br (!ZHS p.1||(!x1||Nat.ble (Le ([]++strL (dpSt p.1++kS))) most)) (.br (!ZHS p.1||x1) (.br (ZHS p.1) (.br (orR p4 x11) (.br (orR p1 x17) (.br (x8||(x10||(x4||x15))) (.br (x8||(x10||x3)) (.br (x8||x9) (.br (x7) (.br (x20||(x26||(!x27||x21))) (.br (x20||(x26||x27)) (.br (x20||x25) (.br (x19) (.br (orR p26 x135) (.br (orR p25 x136) (.br (orR p24 x126) (.br (orR p23 x128) (.br (orR p22 x116) (.br (orR p21 x118) (.br (orR p20 x106) (.br (orR p19 x108) (.br (orR p18 x96) (.br (orR p17 x98) (.br (orR p16 x87) (.br (orR p15 x89) (.br (orR p14 x79) (.br (orR p13 x81) (.br (orR p12 x72) (.br (orR p11 x74) (.br (orR p10 x65) (.br (orR p9 x67) (.br (orR p8 x58) (.br (orR p7 x60) (.br (orR p6 x51) (.br (orR p5 x53) (.br (orR p3 x44) (.br (orR p2 x46) (.br (x33||(x31||(x40||x37))) (.br (x33||(x31||x39)) (.br (x33||x30) (.br (x32) (Ls (bif x130 then x134 else x133)) Ln) Ln) Ln) Ln) Ln) Ln) Ln) Ln) Ln) Ln) Ln) Ln) Ln) Ln) Ln) Ln) Ln) Ln) Ln) Ln) Ln) Ln) Ln) Ln) Ln) Ln) Ln) Ln) Ln) Ln) Ln) Ln) Ln) Ln) Ln) Ln) Ln) Ln) Ln) Ln) Ln
def ZOF (p:PINT):List Int:=getO ZIl.Df (ZxX p).val
def ZFg (p:PINT):Bool:=okB (ZxX p).val
def Zrg:En:=ZWq ZOE ZIl (λa=>some (ZFg a)) (λa=>ZOF a)
theorem ZuK:Za prog 30 Zrg:=
 ZMV (P:=prog) (n:=127) (k:=16) (l:=[(84,ZeV),(85,ZSg),(86,ZbE)]) (ol:=[]) ⟨ZhY,ZOx,ZdG,Tv⟩ Tryz.func30 rfl (by kernel_rfl) Tryz.call30 trivial (ts:=ZOE) (rs:=ZIl) (t:=λa=>ZxX a) (λa=>by kernel_rfl)
abbrev ZOG:List Sh:=[So (R.sl ZcS)]
def ZSm:LS:={n:=20,Sl:=[(3,.tip 0),(6,.code (So (R.sl ZcS))),(7,.code (So Kc)),(8,.code (So Kc))],Bx:=[],Sg:=[⟨Ka,5,true⟩]}
def ZhD (a:List PINT×Int×Int×List Int×PUnit):RT (Option (Go1 (List PINT×Int×Int×List Int×PUnit))):=
 let x1:PINT:=R.get ZcS a.1 a.2.2.1
 let x2:=x1.1
 let x3:=ZHS x2
 let x4:= !x3
 let x5:=mx (ByteArray.size (dpSt x2)+ByteArray.size kS)
 let x6:List Int:=a.2.2.2.1++strL (dpSt x2++kS)
 let x7:=x4||(!x5||bm x6)
 let x8:= !x7
 let x9:=x4||x5
 let x10:= !x9
 let x11:=x1.2
 let x12:=x11.1
 let x13:=u8.wrap (shrI u16 x12 8)
 let x14:=shrI u8 x13 4
 let x15:=iN (ByteArray.size kD)
 let x16:=decide (0<=x14)&&decide (x14<x15)
 let x17:= !x16
 let x18:=andI u8 x13 15
 let x19:=decide (0<=x18)&&decide (x18<x15)
 let x20:List Int:=x6++[Zda kD x14,Zda kD x18]
 let x21:=x17||(!x19||bm x20)
 let x22:= !x21
 let x23:=x17||x19
 let x24:= !x23
 let x25:=u8.wrap x12
 let x26:=shrI u8 x25 4
 let x27:=decide (0<=x26)&&decide (x26<x15)
 let x28:= !x27
 let x29:=andI u8 x25 15
 let x30:=decide (0<=x29)&&decide (x29<x15)
 let x31:List Int:=x20++[Zda kD x26,Zda kD x29]
 let x32:=x28||(!x30||bm x31)
 let p2:=( !x32)::x17::x24::x22::[]
 let x34:=x28||x30
 let p7:=(!x34)::p2
 let x35:=orR p7 x27
 let p1:=( !x35)::x4::x10::x8::[]
 let x37:=orR p2 x34
 let p6:=( !x37)::p1
 let x39:=x22||(x24||(x17||x32))
 let p11:=( !x39)::p6
 let x41:=x22||(x24||x16)
 let p14:=( !x41)::p11
 let x43:=x22||x23
 let p17:=( !x43)::p14
 let p20:=x22::p17
 let x45:List Int:=x31++[32]
 let x46:=bm x45
 let x47:= !x46
 let x48:=x11.2
 let x49:=x48.1
 let x50:=shrI u8 x49 4
 let x51:=decide (0<=x50)&&decide (x50<x15)
 let x52:= !x51
 let x53:=andI u8 x49 15
 let x54:=decide (0<=x53)&&decide (x53<x15)
 let x55:List Int:=x45++[Zda kD x50,Zda kD x53]
 let x56:=x52||(!x54||bm x55)
 let x57:= !x56
 let x58:=x52||x54
 let x59:=x47||(x57||(!x58||x51))
 let p21:=( !x59)::p20
 let x61:=x47||(x57||x58)
 let p25:=( !x61)::p21
 let x63:=x47||x56
 let p29:=( !x63)::p25
 let p30:=x47::p29
 let x65:=x48.2
 let x66:=x65.1
 let x67:= !x66
 let x68:=mx (ByteArray.size kS+ByteArray.size nA)
 let x69:List Int:=x55++strL (kS++nA)
 let x70:=x67||(!x68||bm x69)
 let x71:= !x70
 let x72:=x71||(x67||x68)
 let x73:= !x72
 let x74:=x65.2
 let x75:=x74.1
 let x76:= !x75
 let x77:=mx (ByteArray.size kS+ByteArray.size nB)
 let x78:List Int:=bif x66 then x69 else x55
 let x79:List Int:=x78++strL (kS++nB)
 let x80:=x76||(!x77||bm x79)
 let x81:= !x80
 let x82:=x81||(x76||x77)
 let x83:= !x82
 let p3:=x81::x83::x71::x73::[]
 let x84:=x74.2
 let x85:=x84.1
 let x86:= !x85
 let x87:=mx (ByteArray.size kS+ByteArray.size nC)
 let x88:List Int:=bif x75 then x79 else x78
 let x89:List Int:=x88++strL (kS++nC)
 let x90:=x86||(!x87||bm x89)
 let x91:= !x90
 let x92:=x91||(x86||x87)
 let p5:=( !x92)::p3
 let p9:=x91::p5
 let x94:=x84.2
 let x95:=x94.1
 let x96:= !x95
 let x97:=mx (ByteArray.size kS+ByteArray.size nD)
 let x98:List Int:=bif x85 then x89 else x88
 let x99:List Int:=x98++strL (kS++nD)
 let x100:=x96||(!x97||bm x99)
 let x101:= !x100
 let x102:=x101||(x96||x97)
 let p13:=( !x102)::p9
 let p15:=x101::p13
 let x104:=x94.2
 let x105:=x104.1
 let x106:= !x105
 let x107:=mx (ByteArray.size kS+ByteArray.size nE)
 let x108:List Int:=bif x95 then x99 else x98
 let x109:List Int:=x108++strL (kS++nE)
 let x110:=x106||(!x107||bm x109)
 let x111:= !x110
 let x112:=x111||(x106||x107)
 let p18:=( !x112)::p15
 let p22:=x111::p18
 let x114:=x104.2
 let x115:=x114.1
 let x116:= !x115
 let x117:=mx (ByteArray.size kS+ByteArray.size nF)
 let x118:List Int:=bif x105 then x109 else x108
 let x119:List Int:=x118++strL (kS++nF)
 let x120:=x116||(!x117||bm x119)
 let x121:= !x120
 let x122:=x121||(x116||x117)
 let p26:=( !x122)::p22
 let p28:=x121::p26
 let x124:=x114.2
 let x125:=x124.1
 let x126:= !x125
 let x127:=mx (ByteArray.size kS+ByteArray.size nG)
 let x128:List Int:=bif x115 then x119 else x118
 let x129:List Int:=x128++strL (kS++nG)
 let x130:=x126||(!x127||bm x129)
 let x131:= !x130
 let x132:=x131||(x126||x127)
 let p32:=( !x132)::p28
 let p34:=x131::p32
 let x134:=x124.2
 let x135:=x134.1
 let x136:= !x135
 let x137:=mx (ByteArray.size kS+ByteArray.size nH)
 let x138:List Int:=bif x125 then x129 else x128
 let x139:List Int:=x138++strL (kS++nH)
 let x140:=x136||(!x137||bm x139)
 let x141:= !x140
 let x142:=x141||(x136||x137)
 let p38:=( !x142)::p34
 let p39:=x141::p38
 let x144:=x134.2
 let x145:=x144.1
 let x146:= !x145
 let x147:=mx (ByteArray.size kS+ByteArray.size nI)
 let x148:List Int:=bif x135 then x139 else x138
 let x149:List Int:=x148++strL (kS++nI)
 let x150:=x146||(!x147||bm x149)
 let x151:= !x150
 let x152:=x151||(x146||x147)
 let p43:=( !x152)::p39
 let p45:=x151::p43
 let x154:=x144.2
 let x155:=x154.1
 let x156:= !x155
 let x157:=mx (ByteArray.size kS+ByteArray.size nJ)
 let x158:List Int:=bif x145 then x149 else x148
 let x159:List Int:=x158++strL (kS++nJ)
 let x160:=x156||(!x157||bm x159)
 let x161:= !x160
 let x162:=x161||(x156||x157)
 let p48:=( !x162)::p45
 let p53:=x161::p48
 let x164:=x154.2
 let x165:=x164.1
 let x166:= !x165
 let x167:=mx (ByteArray.size kS+ByteArray.size nK)
 let x168:List Int:=bif x155 then x159 else x158
 let x169:List Int:=x168++strL (kS++nK)
 let x170:=x166||(!x167||bm x169)
 let x171:= !x170
 let x172:=x171||(x166||x167)
 let p56:=( !x172)::p53
 let p58:=x171::p56
 let x174:=x164.2
 let x175:=x174.1
 let x176:= !x175
 let x177:=mx (ByteArray.size kS+ByteArray.size nL)
 let x178:List Int:=bif x165 then x169 else x168
 let x179:List Int:=x178++strL (kS++nL)
 let x180:=x176||(!x177||bm x179)
 let x181:= !x180
 let x182:=x181||(x176||x177)
 let p62:=( !x182)::p58
 let p64:=x181::p62
 let x184:=x174.2
 let x185:=x184.1
 let x186:= !x185
 let x187:=mx (ByteArray.size kS+ByteArray.size nM)
 let x188:List Int:=bif x175 then x179 else x178
 let x189:List Int:=x188++strL (kS++nM)
 let x190:=x186||(!x187||bm x189)
 let x191:= !x190
 let x192:=x191||(x186||x187)
 let p66:=( !x192)::p64
 let p70:=x191::p66
 let x194:=x184.2
 let x195:= !x194
 let x196:=mx (ByteArray.size kS+ByteArray.size nN)
 let x197:List Int:=bif x185 then x189 else x188
 let x198:List Int:=x197++strL (kS++nN)
 let x199:=x195||(!x196||bm x198)
 let x200:= !x199||(x195||x196)
 let p73:=(!x200)::p70
 let x201:=orR p73 x199
 let p33:=( !x201)::p30
 let x203:=orR p70 x200
 let p37:=( !x203)::p33
 let x205:=orR p66 x190
 let p41:=( !x205)::p37
 let x207:=orR p64 x192
 let p42:=( !x207)::p41
 let x209:=orR p62 x180
 let p46:=( !x209)::p42
 let x211:=orR p58 x182
 let p49:=( !x211)::p46
 let x213:=orR p56 x170
 let p52:=( !x213)::p49
 let x215:=orR p53 x172
 let p54:=( !x215)::p52
 let x217:=orR p48 x160
 let p59:=( !x217)::p54
 let x219:=orR p45 x162
 let p60:=( !x219)::p59
 let x221:=orR p43 x150
 let p65:=( !x221)::p60
 let x223:=orR p39 x152
 let p67:=( !x223)::p65
 let x225:=orR p38 x140
 let p69:=( !x225)::p67
 let x227:=orR p34 x142
 let p74:=( !x227)::p69
 let x229:=orR p32 x130
 let p76:=( !x229)::p74
 let x231:=orR p28 x132
 let p78:=( !x231)::p76
 let x233:=orR p26 x120
 let p79:=( !x233)::p78
 let x235:=orR p22 x122
 let p82:=( !x235)::p79
 let x237:=orR p18 x110
 let p83:=( !x237)::p82
 let x239:=orR p15 x112
 let p86:=( !x239)::p83
 let x241:=orR p13 x100
 let p88:=( !x241)::p86
 let x243:=orR p9 x102
 let p89:=( !x243)::p88
 let x245:=orR p5 x90
 let p91:=( !x245)::p89
 let x247:=orR p3 x92
 let p93:=( !x247)::p91
 let x249:=x73||(x71||(x83||x80))
 let p95:=( !x249)::p93
 let x251:=x73||(x71||x82)
 let p97:=( !x251)::p95
 let x253:=x73||x70
 let p99:=( !x253)::p97
 let p101:=x73::p99
 let x255:List Int:=(bif x194 then x198 else x197)++[10]
 let x256:=orR p101 (bm x255)
 let x257:= !x256
 let x258:=orR p99 x72
 let x259:= !x258
 let x260:=orR p97 x253
 let p4:=( !x260)::x259::x257::(!Zh a.2.2.1 (Le a.1))::[]
 let x262:=orR p95 x251
 let p8:=( !x262)::p4
 let x264:=orR p93 x249
 let p10:=( !x264)::p8
 let x266:=orR p91 x247
 let p12:=( !x266)::p10
 let x268:=orR p89 x245
 let p16:=( !x268)::p12
 let x270:=orR p88 x243
 let p19:=( !x270)::p16
 let x272:=orR p86 x241
 let p23:=( !x272)::p19
 let x274:=orR p83 x239
 let p24:=( !x274)::p23
 let x276:=orR p82 x237
 let p27:=( !x276)::p24
 let x278:=orR p79 x235
 let p31:=( !x278)::p27
 let x280:=orR p78 x233
 let p35:=( !x280)::p31
 let x282:=orR p76 x231
 let p36:=( !x282)::p35
 let x284:=orR p74 x229
 let p40:=( !x284)::p36
 let x286:=orR p69 x227
 let p44:=( !x286)::p40
 let x288:=orR p67 x225
 let p47:=( !x288)::p44
 let x290:=orR p65 x223
 let p50:=( !x290)::p47
 let x292:=orR p60 x221
 let p51:=( !x292)::p50
 let x294:=orR p59 x219
 let p55:=( !x294)::p51
 let x296:=orR p54 x217
 let p57:=( !x296)::p55
 let x298:=orR p52 x215
 let p61:=( !x298)::p57
 let x300:=orR p49 x213
 let p63:=( !x300)::p61
 let x302:=orR p46 x211
 let p68:=( !x302)::p63
 let x304:=orR p42 x209
 let p71:=( !x304)::p68
 let x306:=orR p41 x207
 let p72:=( !x306)::p71
 let x308:=orR p37 x205
 let p75:=( !x308)::p72
 let x310:=orR p33 x203
 let p77:=( !x310)::p75
 let x312:=orR p30 x201
 let p80:=( !x312)::p77
 let x314:=orR p29 x46
 let p81:=( !x314)::p80
 let x316:=orR p25 x63
 let p84:=( !x316)::p81
 let x318:=orR p21 x61
 let p85:=( !x318)::p84
 let x320:=orR p20 x59
 let p87:=( !x320)::p85
 let x322:=orR p17 x21
 let p90:=( !x322)::p87
 let x324:=orR p14 x43
 let p92:=( !x324)::p90
 let x326:=orR p11 x41
 let p94:=( !x326)::p92
 let x328:=orR p6 x39
 let p96:=( !x328)::p94
 let x330:=orR p1 x37
 let p98:=( !x330)::p96
 let x332:=x8||(x10||(x4||x35))
 let p100:=( !x332)::p98
 let x334:=x8||(x10||x3)
 let p102:=( !x334)::p100
 let x336:=x8||x9
 let p103:=(!x336)::p102
 .br (decide (a.2.2.1<a.2.1)) (.br (orR p103 x7) (.br (orR p102 x336) (.br (orR p100 x334) (.br (orR p98 x332) (.br (orR p96 x330) (.br (orR p94 x328) (.br (orR p92 x326) (.br (orR p90 x324) (.br (orR p87 x322) (.br (orR p85 x320) (.br (orR p84 x318) (.br (orR p81 x316) (.br (orR p80 x314) (.br (orR p77 x312) (.br (orR p75 x310) (.br (orR p72 x308) (.br (orR p71 x306) (.br (orR p68 x304) (.br (orR p63 x302) (.br (orR p61 x300) (.br (orR p57 x298) (.br (orR p55 x296) (.br (orR p51 x294) (.br (orR p50 x292) (.br (orR p47 x290) (.br (orR p44 x288) (.br (orR p40 x286) (.br (orR p36 x284) (.br (orR p35 x282) (.br (orR p31 x280) (.br (orR p27 x278) (.br (orR p24 x276) (.br (orR p23 x274) (.br (orR p19 x272) (.br (orR p16 x270) (.br (orR p12 x268) (.br (orR p10 x266) (.br (orR p8 x264) (.br (orR p4 x262) (.br (!Zh a.2.2.1 (Le a.1)||(x257||(x259||x260))) (.br (!Zh a.2.2.1 (Le a.1)||(x257||x258)) (.br (!Zh a.2.2.1 (Le a.1)||x256) (.br (Zh a.2.2.1 (Le a.1)) (Ls (Go1.cont (a.1,a.2.1,i64.wrap (a.2.2.1+1),x255,PUnit.unit))) Ln) Ln) Ln) Ln) Ln) Ln) Ln) Ln) Ln) Ln) Ln) Ln) Ln) Ln) Ln) Ln) Ln) Ln) Ln) Ln) Ln) Ln) Ln) Ln) Ln) Ln) Ln) Ln) Ln) Ln) Ln) Ln) Ln) Ln) Ln) Ln) Ln) Ln) Ln) Ln) Ln) Ln) Ln) (Ls (Go1.brk (a.1,a.2.1,a.2.2.1,a.2.2.2.1,PUnit.unit)))
def ZFh:Ora:=Zbq false ZSm ZhD (λa=>1000000000000)
theorem ZHV:Za1 (envX prog [(30,ZuL)] [] 63 16) (.block 0 (.loop (Z5 Tryz.f9.body 0))) ZFh:=
 Zev (ZaT (l:=[(30,ZuL)]) ⟨ZxY,Tv⟩ [] 63 16) (ZeT (by kernel_rfl)) (λa=>by kernel_rfl)
def ZxZ (l:List PINT):RT (Option (ByteArray)):=
 let x1:=runF false ZhD (λa=>1000000000000) (l,iN (Le l),0,[],())
 .br (okB x1) (Ls (Zyy (getO (false,l,iN (Le l),0,[],()) x1).2.2.2.2.1)) Ln
def ZOH (l:List PINT):ByteArray:=getO ZOy.Df (ZxZ l).val
def Zx0 (l:List PINT):Bool:=okB (ZxZ l).val
def ZTT:En:=Zf ZOG ZOy (λa=>some (Zx0 a)) (λa=>ZOH a)
theorem ZSl:Za prog 9 ZTT:=
 ZgI (P:=prog) (n:=63) (k:=16) (l:=[(30,ZuL)]) (ol:=[(0,ZFh)]) ⟨ZxY,Tv⟩ Tryz.func9 rfl (by kernel_rfl) Tryz.call9 ⟨ZHV,Tv⟩ (ts:=ZOG) (rs:=ZOy) (t:=λa=>ZxZ a) (λa=>by kernel_rfl)
def Za7:En:=.tree (Zo (envX prog [(167,Zur)] [] 31 8) Tryz.f81)
theorem ZcY:Za prog 81 Za7:=ZL ⟨ZHC,Tv⟩ Tryz.func81 rfl (by kernel_rfl) Tryz.call81 trivial
def Zcf:En:=.tree (Zo (envX prog [] [] 1 8) Tryz.f83)
theorem ZeA:Za prog 83 Zcf:=ZL trivial Tryz.func83 rfl (by kernel_rfl) Tryz.call83 trivial
def ZcO:En:=.tree (Zo (envX prog [] [] 7 8) Tryz.f84)
theorem Ze6:Za prog 84 ZcO:=ZL trivial Tryz.func84 rfl (by kernel_rfl) Tryz.call84 trivial
abbrev ZuH:Rs:=Rs.tup [Sh.agg ZcS,So R.bool]
def ZOA:LS:={n:=88,Sl:=[(0,.code (So R.str)),(2,.fix (A.loc 0 0)),(4,.code (So (R.sl R.str))),(5,.fix (A.loc 1 0)),(43,.code (Sh.agg (Pq R.str (Pq R.str (Pq R.str (Pq R.str (Pq R.str (Pq R.str (Pq R.str (Pq R.str (Pq R.str R.str))))))))))),(44,.code (So Kc))],Bx:=[List.replicate 17 .junk,[.many ZcS],List.replicate 10 .junk],Sg:=[]}
def ZeB (a:ByteArray×List ByteArray×(ByteArray×ByteArray×ByteArray×ByteArray×ByteArray×ByteArray×ByteArray×ByteArray×ByteArray×ByteArray)×Int×PINT×PUnit):RT (Option (Go1 (ByteArray×List ByteArray×(ByteArray×ByteArray×ByteArray×ByteArray×ByteArray×ByteArray×ByteArray×ByteArray×ByteArray×ByteArray)×Int×PINT×PUnit))):=
 let x1:=decide (0<=a.2.2.2.1/\a.2.2.2.1<10)
 let x2:Nat:=0+1+1+1+1+1+1+1
 .br (decide (a.2.2.2.1<10)) (.br (!x1||Zh 0 (Le a.2.1)) (.br (x1) (Ls (Go1.cont (a.1,a.2.1,a.2.2.1,i64.wrap (a.2.2.2.1+1),(bif ByteArray.toList (bif a.2.2.2.1==0 then a.2.2.1.1 else bif a.2.2.2.1==iN (0+1) then a.2.2.1.2.1 else bif a.2.2.2.1==iN (0+1+1) then a.2.2.1.2.2.1 else bif a.2.2.2.1==iN (0+1+1+1) then a.2.2.1.2.2.2.1 else bif a.2.2.2.1==iN (0+1+1+1+1) then a.2.2.1.2.2.2.2.1 else bif a.2.2.2.1==iN (0+1+1+1+1+1) then a.2.2.1.2.2.2.2.2.1 else bif a.2.2.2.1==iN (0+1+1+1+1+1+1) then a.2.2.1.2.2.2.2.2.2.1 else bif a.2.2.2.1==iN x2 then a.2.2.1.2.2.2.2.2.2.2.1 else bif a.2.2.2.1==iN (x2+1) then a.2.2.1.2.2.2.2.2.2.2.2.1 else a.2.2.1.2.2.2.2.2.2.2.2.2)==ByteArray.toList (R.get R.str a.2.1 0) then i64.wrap (a.2.2.2.1+1) else a.2.2.2.2.1.1,a.2.2.2.2.1.2),PUnit.unit))) Ln) Ln) (Ls (Go1.brk (a.1,a.2.1,a.2.2.1,a.2.2.2.1,a.2.2.2.2.1,PUnit.unit)))
def ZxT:Ora:=Zbq false ZOA ZeB (λa=>1000000000000)
theorem ZBY:Za1 (envX prog [(30,Zrg),(81,Za7),(82,Zrf),(83,Zcf),(84,ZcO)] [] 4095 16) (.block 0 (.loop (Z5 Tryz.f29.body 0))) ZxT:=
 Zev (ZaT (l:=[(30,Zrg),(81,Za7),(82,Zrf),(83,Zcf),(84,ZcO)]) ⟨ZuK,ZcY,ZuJ,ZeA,Ze6,Tv⟩ [] 4095 16) (ZeT (by kernel_rfl)) (λa=>by kernel_rfl)
def ZOz:LS:={n:=88,Sl:=[(0,.code (So R.str)),(2,.fix (A.loc 0 0)),(5,.fix (A.loc 1 0)),(58,.code (So (R.sl R.str))),(59,.code (So Kc)),(60,.code (So Kc))],Bx:=[List.replicate 17 .junk,[.many ZcS],List.replicate 10 .junk],Sg:=[]}
def Zfz (a:ByteArray×List ByteArray×Int×Int×PINT×PUnit):RT (Option (Go1 (ByteArray×List ByteArray×Int×Int×PINT×PUnit))):=
 let x1:=a.2.2.2.2.1.2.2.2.2.2.2.2.2
 let x2:=x1.2
 let x3:=x2.2
 let x4:=x3.2
 let x5:=x4.2
 let x6:=x5.2
 let x7:=x6.2
 let x8:=x7.2
 .br (decide (a.2.2.2.1<a.2.2.1)) (.br (Zh a.2.2.2.1 (Le a.2.1)) (Ls (Go1.cont (a.1,a.2.1,a.2.2.1,i64.wrap (a.2.2.2.1+1),(a.2.2.2.2.1.1,a.2.2.2.2.1.2.1,a.2.2.2.2.1.2.2.1,ByteArray.toList nA==ByteArray.toList (R.get R.str a.2.1 a.2.2.2.1)||a.2.2.2.2.1.2.2.2.1,ByteArray.toList nB==ByteArray.toList (R.get R.str a.2.1 a.2.2.2.1)||a.2.2.2.2.1.2.2.2.2.1,ByteArray.toList nC==ByteArray.toList (R.get R.str a.2.1 a.2.2.2.1)||a.2.2.2.2.1.2.2.2.2.2.1,ByteArray.toList nD==ByteArray.toList (R.get R.str a.2.1 a.2.2.2.1)||a.2.2.2.2.1.2.2.2.2.2.2.1,ByteArray.toList nE==ByteArray.toList (R.get R.str a.2.1 a.2.2.2.1)||a.2.2.2.2.1.2.2.2.2.2.2.2.1,ByteArray.toList nF==ByteArray.toList (R.get R.str a.2.1 a.2.2.2.1)||x1.1,ByteArray.toList nG==ByteArray.toList (R.get R.str a.2.1 a.2.2.2.1)||x2.1,ByteArray.toList nH==ByteArray.toList (R.get R.str a.2.1 a.2.2.2.1)||x3.1,ByteArray.toList nI==ByteArray.toList (R.get R.str a.2.1 a.2.2.2.1)||x4.1,ByteArray.toList nJ==ByteArray.toList (R.get R.str a.2.1 a.2.2.2.1)||x5.1,ByteArray.toList nK==ByteArray.toList (R.get R.str a.2.1 a.2.2.2.1)||x6.1,ByteArray.toList nL==ByteArray.toList (R.get R.str a.2.1 a.2.2.2.1)||x7.1,ByteArray.toList nM==ByteArray.toList (R.get R.str a.2.1 a.2.2.2.1)||x8.1,ByteArray.toList nN==ByteArray.toList (R.get R.str a.2.1 a.2.2.2.1)||x8.2),PUnit.unit))) Ln) (Ls (Go1.brk (a.1,a.2.1,a.2.2.1,a.2.2.2.1,a.2.2.2.2.1,PUnit.unit)))
def ZxS:Ora:=Zbq false ZOz Zfz (λa=>1000000000000)
theorem ZBX:Za1 (envX prog [(30,Zrg),(81,Za7),(82,Zrf),(83,Zcf),(84,ZcO)] [] 4095 16) (.block 2 (.loop (Z5 Tryz.f29.body 2))) ZxS:=
 Zev (ZaT (l:=[(30,Zrg),(81,Za7),(82,Zrf),(83,Zcf),(84,ZcO)]) ⟨ZuK,ZcY,ZuJ,ZeA,Ze6,Tv⟩ [] 4095 16) (ZeT (by kernel_rfl)) (λa=>by kernel_rfl)
def ZkK (s:ByteArray):RT (Option (PINT×Bool)):=
 let x1:List ByteArray:=Lib.splitB kS 0 (Lib.countB s kS) s
 let x2:Nat:=Le x1
 let x3:=decide (iN x2<3)
 let x4:=Zh 1 x2
 let x5:=x3||x4
 let x6:= !x5
 let x7:=iN (ByteArray.size (R.get R.str x1 1))
 let x8:=x3||decide (x7<=IntKind.max i64)
 let x9:= !x8
 let x10:=x7 !=4
 let x11:=Zh 2 x2
 let x12:=x3||(x10||x11)
 let p1:=x10::x3::(!x12)::x9::x6::[]
 let x13:=iN (ByteArray.size (R.get R.str x1 2))
 let x14:Bool×Bool×Bool×Bool×Bool×LINT:=(false,false,false,false,false,false,false,false,false,false,false,false,false,false)
 let x15:= !x4
 let x16:=ZxW (R.get R.str x1 1)
 let x17:= !x16
 let x18:ByteArray×List ByteArray×(ByteArray×ByteArray×ByteArray×ByteArray×ByteArray×ByteArray×ByteArray×ByteArray×ByteArray×ByteArray)×Int×PINT×PUnit:=(s,x1,(ByteArray.mk #[116,49],ByteArray.mk #[116,50],ByteArray.mk #[116,51],ByteArray.mk #[116,52],ByteArray.mk #[116,53],ByteArray.mk #[116,54],ByteArray.mk #[116,119],ByteArray.mk #[116,104],ByteArray.mk #[116,104,97,108,116],ByteArray.mk #[116,114,101,115,101,116]),0,(0,u16.wrap (ZOD (R.get R.str x1 1)),u8.wrap (ZOD (R.get R.str x1 2)),x14),())
 let x19:=runF false ZeB (λa=>1000000000000) x18
 let x20:ByteArray×List ByteArray×(ByteArray×ByteArray×ByteArray×ByteArray×ByteArray×ByteArray×ByteArray×ByteArray×ByteArray×ByteArray)×Int×PINT×PUnit:=(getO (false,x18) x19).2
 let x21:=x20.2
 let x22:=x21.1
 let x23:=iN (Le x22)
 let x24:=subL x22 3 x23
 let x25:ByteArray×List ByteArray×Int×Int×PINT×PUnit:=(x20.1,x24,iN (Le x24),0,x21.2.2.2.1,())
 let x26:=runF false Zfz (λa=>1000000000000) x25
 let x27:ByteArray×List ByteArray×Int×Int×PINT×PUnit:=(getO (false,x25) x26).2
 let x28:=x27.2.2.2.2.1
 let x29:=x28.1
 let x30:=x29 !=0
 let x31:=x28.2
 let x32:=x31.1
 let x33:=x31.2
 let x34:=x33.1
 let x35:=x33.2
 let x36:=x35.1
 let x37:=x35.2
 let x38:=x37.1
 let x39:=x37.2
 let x40:=x39.1
 let x41:=x39.2
 let x42:=x41.1
 let x43:=x41.2
 let x44:=x43.1
 let x45:=x43.2
 let x46:=x45.1
 let x47:=x45.2
 let x48:=x47.1
 let x49:=x47.2
 let x50:=x49.1
 let x51:=x49.2
 let x52:=x51.1
 let x53:=x51.2
 let x54:=x53.1
 let x55:=x53.2
 let x56:=x55.1
 let x57:=x55.2
 let x58:=x57.1
 let x59:=x57.2
 let x60:=x59.1
 let x61:=x59.2
 .br (Nat.beq (ByteArray.size kS) 1&&Nat.ble (ByteArray.size s) 1000000&&(decide (0=0)&&decide (-1= -1))) (.br (orR p1 (decide (x13<=IntKind.max i64))) (.br (x6||(x9||x12)) (.br (x6||x8) (.br (x5) (.br (x3||(x10||x13 !=2)) (Ls (((0,0,0,x14),false))) (.br (x15||(x17||(!x11||ZxW (R.get R.str x1 2)))) (.br (x15||(x17||x11)) (.br (x15||x16) (.br (x4) (.br (okB x19) (.br (decide (0<=3)&&decide (3<=x23)&&(decide (x23=0)||decide (x23<=x23))) (.br (okB x26) (.br (!x30||ZFg x28) (Ls (((bif x30 then x29 else x29,bif x30 then x32 else x32,bif x30 then x34 else x34,bif x30 then x36 else x36,bif x30 then x38 else x38,bif x30 then x40 else x40,bif x30 then x42 else x42,bif x30 then x44 else x44,bif x30 then x46 else x46,bif x30 then x48 else x48,bif x30 then x50 else x50,bif x30 then x52 else x52,bif x30 then x54 else x54,bif x30 then x56 else x56,bif x30 then x58 else x58,bif x30 then x60 else x60,bif x30 then x61 else x61),x30&&ByteArray.toList (Zyy (ZOF x28))==ByteArray.toList x27.1))) Ln) Ln) Ln) Ln) Ln) Ln) Ln) Ln)) Ln) Ln) Ln) Ln) Ln
def ZFc (s:ByteArray):PINT×Bool:=getO ZuH.Df (ZkK s).val
def ZuI (s:ByteArray):Bool:=okB (ZkK s).val
def ZBZ:En:=Zf ZOC ZuH (λa=>some (ZuI a)) (λa=>ZFc a)
theorem ZxR:Za prog 29 ZBZ:=
 ZgI (P:=prog) (n:=4095) (k:=16) (l:=[(30,Zrg),(81,Za7),(82,Zrf),(83,Zcf),(84,ZcO)]) (ol:=[(0,ZxT),(2,ZxS)]) ⟨ZuK,ZcY,ZuJ,ZeA,Ze6,Tv⟩ Tryz.func29 rfl (by kernel_rfl) Tryz.call29 ⟨ZBY,ZBX,Tv⟩ (ts:=ZOC) (rs:=ZuH) (t:=λa=>ZkK a) (λa=>by kernel_rfl)
def ZaU:En:=.tree (Zo (envX prog [(166,ZNx)] [] 255 8) Tryz.f80)
theorem ZdL:Za prog 80 ZaU:=ZL ⟨ZRF,Tv⟩ Tryz.func80 rfl (by kernel_rfl) Tryz.call80 trivial
def Ze7:En:=.tree (Zo (envX prog [(80,ZaU)] [] 127 8) Tryz.f28)
theorem Zgd:Za prog 28 Ze7:=ZL ⟨ZdL,Tv⟩ Tryz.func28 rfl (by kernel_rfl) Tryz.call28 trivial
abbrev ZB0:Rs:=Rs.tup [So (R.sl ZcS),So Kc,So Kc]
def ZSi:LS:={n:=38,Sl:=[(0,.code (So R.str)),(2,.tip 0),(3,.code (So Kc)),(4,.code (So Kc))],Bx:=[],Sg:=[⟨ZcS,99,true⟩]}
def ZjF (a:ByteArray×Int×Int×List PINT×PUnit):RT (Option (Go1 (ByteArray×Int×Int×List PINT×PUnit))):=
 let x1:=Nat.beq (ByteArray.size kN) 1&&Nat.ble (ByteArray.size a.1) 4294967280
 let x2:= !x1
 let x3:=decide (0<=0)&&decide (0<=Lib.indexB a.1 kN)&&decide (Lib.indexB a.1 kN<=iN (ByteArray.size a.1))
 let x4:= !x3
 let x5:=i64.wrap (Lib.indexB a.1 kN+iN (ByteArray.size kN))
 let x6:= !decide (Lib.indexB a.1 kN>=0)||(x4||(!decide (iN (ByteArray.size kN)<=IntKind.max i64)||decide (0<=x5)&&decide (x5<=iN (ByteArray.size a.1))&&decide (iN (ByteArray.size a.1)<=iN (ByteArray.size a.1))))
 let x7:= !x6
 let x8:= !decide (Lib.indexB a.1 kN>=0)||(x4||decide (iN (ByteArray.size kN)<=IntKind.max i64))
 let p1:=(!decide (Lib.indexB a.1 kN>=0))::(!x8)::x7::x2::[]
 let x9:=orR p1 x3
 let x10:= !x9
 let x11:=x2||(x7||x8)
 let x12:= !x11
 let x13:=x2||x6
 let x14:=x10||(x12||(!x13||x1))
 let x15:= !x14
 let x16:=x10||(x12||x13)
 let x17:= !x16
 let x18:=x10||x11
 let x19:= !x18
 let p2:=x10::x19::x17::x15::[]
 let x20:=ZuI (bif decide (Lib.indexB a.1 kN>=0) then ByteArray.extract a.1 (Int.toNat 0) (Int.toNat (Lib.indexB a.1 kN)) else a.1)
 let x21:=ZFc (bif decide (Lib.indexB a.1 kN>=0) then ByteArray.extract a.1 (Int.toNat 0) (Int.toNat (Lib.indexB a.1 kN)) else a.1)
 let x22:= !decide (Lib.indexB a.1 kN>=0)|| !x21.2
 let p3:=x22::(!x20)::p2
 let x23:List PINT:=a.2.2.2.1++[x21.1]
 .br (!ByteArray.toList a.1==ByteArray.toList (ByteArray.mk #[])) (.br (orR p3 (bm x23)) (.br (orR p2 x20) (.br (x15||(x17||(x19||x9))) (.br (x15||(x17||x18)) (.br (x15||x16) (.br (x14) (.br (x22) Ln (Ls (Go1.cont (bif decide (Lib.indexB a.1 kN>=0) then ByteArray.extract a.1 (Int.toNat x5) (Int.toNat (iN (ByteArray.size a.1))) else ByteArray.mk #[],i64.wrap (a.2.1+1),a.2.2.1,x23,PUnit.unit)))) Ln) Ln) Ln) Ln) Ln) Ln) (Ls (Go1.brk (a.1,a.2.1,a.2.2.1,a.2.2.2.1,PUnit.unit)))
def ZFd:Ora:=Zbq false ZSi ZjF (λa=>1000000000000)
theorem ZHT:Za1 (envX prog [(28,Ze7),(29,ZBZ)] [] 1023 8) (.block 0 (.loop (Z5 Tryz.f8.body 0))) ZFd:=
 loopP ⟨Zgd,ZxR,Tv⟩
def ZxU (s:ByteArray):RT (Option (List PINT×Int×Int)):=
 let x1:=runF false ZjF (λa=>1000000000000) (s,0,0,[],())
 .br (okB x1) (Ls (((getO (false,s,0,0,[],()) x1).2.2.2.2.1,0,0))) Ln
def ZSj (s:ByteArray):List PINT×Int×Int:=getO ZB0.Df (ZxU s).val
def ZFe (s:ByteArray):Bool:=okB (ZxU s).val
def ZTS:En:=Zf ZOC ZB0 (λa=>some (ZFe a)) (λa=>ZSj a)
theorem ZSh:Za prog 8 ZTS:=
 pureP 1023 [(28,Ze7),(29,ZBZ)] [(0,ZFd)] _ _ ⟨Zgd,ZxR,Tv⟩ Tryz.func8 Tryz.call8 ⟨ZHT,Tv⟩
def ZPG:RT (Option (Bool)):=
 let x1:List Int:=[62,5,198,7,50,16,0,118]
 let x2:BRDT:=(2,[(0,65535,true,0)],0,0,0,false,Stg.l (newG ZcQ ZrC (ZoT 0 x1)))
 let x3:=ZdH x2 (decX (rep 0 (Int.toNat 160)))
 let x4:=x3.1
 let x5:=x4.2.2.2.2
 let x6:=x5.1.1.2
 let p1:=(!x6.1.1==12)::(!x6.2.2.2.1)::(!iN (Le x4.1)==40)::(!x3.2==0)::[]
 .br (smB x1) (.br (ZvJ x2 (rep 0 (Int.toNat 160))) (.br (orR p1 (smC x5.2.1)) (Ls (true)) Ln) Ln) Ln
def tpKn:Bool:=getO ZnA.Df (ZPG).val
def ZPH:Bool:=okB (ZPG).val
def ZXI:En:=Zf Zv5 ZnA (λa=>some (ZPH)) (λa=>tpKn)
theorem ZUC:Za prog 5 ZXI:=
 pureP 15 [(7,ZO8),(19,ZlG),(20,ZKb)] [] _ _ ⟨Zya,Zkb,ZKa,Tv⟩ Tryz.func5 Tryz.call5 trivial
def ZeX:En:=.tree (Zo (envX prog [] [] 7 8) Tryz.f13)
theorem ZhK:Za prog 13 ZeX:=ZL trivial Tryz.func13 rfl (by kernel_rfl) Tryz.call13 trivial
abbrev ZCG:List Sh:=[So (R.sl Kc),So Kc]
abbrev ZrH:Rs:=Rs.tup [Sh.agg (Pq Kc (Pq rcRG (Pq Kc (Pq Ka (Pq Ka (Pq R.bool rcCE)))))),So (R.sl Ka)]
def Zmy (n:List Int) (k:Int):RT (Option (BRDT×List Int)):=
 .br (ZoJ (n,0)) (.br (ZlV (Zcs (n,0)).2 k) (Ls (((Zcs (n,0)).1,(ZgO (Zcs (n,0)).2 k).1))) Ln) Ln
def ZaH (n:List Int) (k:Int):BRDT×List Int:=getO ZrH.Df (Zmy n k).val
def Zmz (n:List Int) (k:Int):Bool:=okB (Zmy n k).val
def ZI6:En:=Zf ZCG ZrH (λa=>some (Zmz a.1 a.2)) (λa=>ZaH a.1 a.2)
theorem ZI5:Za prog 6 ZI6:=
 pureP 255 [(13,ZeX),(21,ZNc),(22,ZEA)] [] _ _ ⟨ZhK,ZNa,ZHm,Tv⟩ Tryz.func6 Tryz.call6 trivial
abbrev ZNA:List Sh:=[So (R.sl Kc)]
def Zq4 (n:List Int):RT (Option (Bool)):=
 let x1:= !(runV (ZaH n 40).1 (decX (ZaH n 40).2)).2==0
 let x2:=ZSj (ZOH (runV (ZaH n 40).1 (decX (ZaH n 40).2)).1.1)
 let x3:=x2.2
 let x4:=x3.2==0
 let x5:= !x4
 let x6:=x3.1==0
 let x7:= !x6
 let x8:=expP (ZaH n 40).1.1 (runV (ZaH n 40).1 (decX (ZaH n 40).2)).1.2.1
 let x9:=x1||(x5||(x7||Nat.ble (Le x8) most))
 let x10:= !x9
 let x11:=x2.1
 let x12:=x1||(x5||(x7||Zhn x11 x8))
 let x13:=ZiO x11 x8
 let p1:=(!x13)::x7::x5::x1::(!x12)::x10::[]
 .br (!decide (iN (Le n)>250)||ZPH) (.br (decide (iN (Le n)>250)) (Ls (true)) (.br (Zmz n 40) (.br (ZvJ (ZaH n 40).1 (ZaH n 40).2) (.br (!Zx0 (runV (ZaH n 40).1 (decX (ZaH n 40).2)).1.1||ZFe (ZOH (runV (ZaH n 40).1 (decX (ZaH n 40).2)).1.1)) (.br (Zx0 (runV (ZaH n 40).1 (decX (ZaH n 40).2)).1.1) (.br (orR p1 ZPH) (.br (x10||x12) (.br (x9) (Ls ((runV (ZaH n 40).1 (decX (ZaH n 40).2)).2==0&&(x4&&(x6&&(x13&&tpKn))))) Ln) Ln) Ln) Ln) Ln) Ln) Ln)) Ln
def ZWJ (n:List Int):Bool:=getO ZnA.Df (Zq4 n).val
def ZNB (n:List Int):Bool:=okB (Zq4 n).val
def ZYX:En:=Zf ZNA ZnA (λa=>some (ZNB a)) (λa=>ZWJ a)
theorem lTDmp_ok:Za prog 3 ZYX:=
 pureP 1023 [(5,ZXI),(6,ZI6),(7,ZO7),(8,ZTS),(9,ZTT),(10,Zqt),(11,ZTO)] [] _ _ ⟨ZUC,ZI5,ZO6,ZSh,ZSl,ZvT,ZRY,Tv⟩ Tryz.func3 Tryz.call3 trivial
end
end Go.Proofs.YteaflmalcclnoaaGreatDoor
open Go Go.S3 Go.Proofs Go.Proofs.Cells
namespace Go.Proofs.YteaflmalcclnoaaGreatDoor
noncomputable section
def NoD (ev:List EVTT):Prop:=∀e∈ev,e.1≠5
theorem ZPm (k:Int):ZbU k=(k==3||(k==5||k==7)):=rfl
theorem NoD.left {a t:List EVTT} (h:NoD (a++t)):NoD a:=λe he=>h e (List.mem_append_left _ he)
def stC (w:Nat):Nat->List Int
 |0=>[]
 |1=>[1]
 |2=>[1,2]++List.replicate w 7
 |n+1=>stC w n++[((n+1:Nat):Int)]
def stI (y:ITMT):List Int:=
 bif y.1==1 then stC y.2.2.1.toNat y.2.2.2.1.toNat else List.replicate y.2.2.2.1.toNat (bif y.1==2 then 8 else bif y.1==3 then 9 else 10)
def pinI (k:Int) (y:ITMT) (t:Int):PINT:=ZaZ k t y.2.1 y.2.1.2.2.1 y.2.2.2.2.1 y.2.2.2.2.2
def expX (k:Int) (l:List ITMT):List PINT:=l.flatMap λy=>(stI y).map (pinI k y)
theorem ZhA (k:Int) (l:List ITMT) (y:ITMT):expX k (l++[y])=expX k l++(stI y).map (pinI k y):=by unfold expX;rw[List.flatMap_append];simp
theorem ZQA (k t:Int) (p:TC) (x:TY) (d D D':Int) (i o:Bool) (h:(t==3)=false):ZaZ k t (ZaE p x d) D i o=ZaZ k t x D' i o:=by
 have e1:(ZaE p x d).1=x.1:=rfl;have e2:(ZaE p x d).2.1=x.2.1:=rfl;have e3:ZbU x.1=true->(ZaE p x d).2.2.1=x.2.2.1:=λhw=>by
  have:Zba x.1=false:=by
   rw[ZPm] at hw;by_cases h3:x.1=3
   ·rw[h3];rfl
   by_cases h5:x.1=5
   ·rw[h5];rfl
   by_cases h7:x.1=7
   ·rw[h7];rfl
   have b3:(x.1==3)=false:=by simpa using h3
   have b5:(x.1==5)=false:=by simpa using h5
   have b7:(x.1==7)=false:=by simpa using h7
   rw[b3,b5,b7] at hw;simp at hw
  show (bif Zba x.1 then d else x.2.2.1)=x.2.2.1;rw[this];rfl
 unfold ZaZ ZhR;simp only[RT.val,e1,e2,h,YZ,Yc];cases hw:(t==2||(t==7||false))&&ZbU x.1
 ·simp only[Yc]
 ·rw[e3 (by simp at hw;exact hw.2)]
theorem pin_3 (k:Int) (p:TC) (x:TY) (d:Int) (i o:Bool):ZaZ k 3 (ZaE p x d) (ZaE p x d).2.2.1 i o=ZaZ k 3 x d i o:=by
 have e1:(ZaE p x d).1=x.1:=rfl;have e2:(ZaE p x d).2.1=x.2.1:=rfl;have e3:(ZaE p x d).2.2.1=bif Zba x.1 then d else x.2.2.1:=rfl
 unfold ZaZ ZhR;simp only[RT.val,e1,e2,e3];cases Zba x.1<;>rfl
theorem ZR5 (c:TC) (s:Int) (g:List Int) (l:LINT):(finX c s g l).1=c.1:=by
 unfold finX;cases Zz s
 ·simp only[Yc];unfold finI;dsimp only;cases (Zc c.1 (g.getD 0 0)).1==38
  ·simp only[Yc];cases (Zc c.1 (g.getD 0 0)).1==39<;>rfl
  ·simp only[Ya];rw[ZSZ]
 ·rfl
def okS (x:TY):Bool:=decide (3<=x.2.2.2)&&decide (x.2.2.2<=6)
variable {b:Bool} {x:List TY}
theorem okl {y:List TY} (hx:x.all okS=true) (hy:y.all okS=true):(bif b then x else y).all okS=true:=by cases b<;>assumption
theorem okS_c {y:List TY}:(bif b then x else y).all okS=bif b then x.all okS else y.all okS:=by cases b<;>rfl
theorem ZXg (c:TC) (inj:Bool) (g:List Int) (i:InsT):(Zg5 c inj g i).all okS=true:=by
 have h1:∀k,okS (opC c inj k)=true:=λk=>by unfold opC;cases inj<;>rfl
 have hw:∀a,(Zec c a).all okS=true:=λa=>rfl
 have hr:∀a,(ZiM a).all okS=true:=λa=>rfl
 have hp:∀w,(ZcP c w).all okS=true:=λw=>rfl
 have ho:(popX c).all okS=true:=rfl;have ht:(Zcj c inj i).all okS=true:=by unfold Zcj;exact okl (by simp[h1]) (by simp[h1])
 have h32:okS (5,spOf c,c.2.1.2.2.2.2.2.2.1,bif c.1==2 then 3 else 5)=true:=by cases c.1==2<;>rfl
 have he:([]:List TY).all okS=true:=rfl;unfold Zg5;dsimp only;repeat' apply okl
 all_goals (try assumption)
 all_goals (try exact hw _)
 all_goals (try exact hr _)
 all_goals (try exact hp _)
 all_goals (try rfl)
 all_goals (try (simp only[List.all_cons,List.all_append,List.all_nil,h1,hr,hw,hp,ho,ht,h32,Y1,YY,YQ];done))
 all_goals (cases inj<;>cases h2:c.1==2<;>simp[okS_c,List.all_append,hr,hw,hp,ho,ht,okS,opC,ZgX,h2];done)
theorem ZVj (c:TC) (s:Int) (g:List Int):(Ze1 c s g).all okS=true:=by
 unfold Ze1;cases Zz s
 ·cases g with
  |nil=>rfl
  |cons o g=>
   simp only[Yc,List.all_cons,ZXg,YY];rfl
 ·rfl
theorem Zub (c:TC) (s:Int) (g:List Int) (h:(Zm c s g).2=true):3<=(Zm c s g).1.2.2.2/\(Zm c s g).1.2.2.2<=6:=by
 unfold Zm pick at h|-;have hlt:g.length<(Ze1 c s g).length:=by simpa using h
 have:=YU.1 (ZVj c s g) ((Ze1 c s g).getD g.length (0,0,0,0)) (by
  rw[Yl,Yg hlt]
  exact Ya0 _)
 simpa [okS] using this
theorem ZR2 (k o:Int):3<=ZeP k o/\ZeP k o<=6:=by unfold ZeP Zzb;simp only[RT.val];repeat' (first|(exact⟨by decide,by decide⟩)|(rw[Bool.cond_eq_ite];split))
theorem ZUX (p:TC) (x:TY) (d:Int) (h:3<=x.2.2.2/\x.2.2.2<=6):3<=(ZaE p x d).2.2.2/\(ZaE p x d).2.2.2<=6:=by
 have e:(ZaE p x d).2.2.2=bif x.1==1||x.1==8 then ZeP p.1 (ZaE p x d).2.2.1 else x.2.2.2:=rfl
 rw[e];cases x.1==1||x.1==8
 ·exact h
 ·exact ZR2 _ _
theorem ZQB (k t:Int) (x:TY) (d d':Int) (i o:Bool) (h:(t==3)=false):ZaZ k t x d i o=ZaZ k t x d' i o:=by unfold ZaZ ZhR;simp only[RT.val,h,YZ,Yc]
theorem pin_8 (k:Int) (x x':TY) (d d':Int) (i o:Bool):ZaZ k 8 x d i o=ZaZ k 8 x' d' i o:=rfl
theorem ZYl (k:Int) (x x':TY) (d d':Int) (i o:Bool):ZaZ k 10 x d i o=ZaZ k 10 x' d' i o:=rfl
theorem ZYk (k:Int) (x x':TY) (d d':Int) (i o:Bool) (h:x.2.1=x'.2.1):ZaZ k 9 x d i o=ZaZ k 9 x' d' i o:=by unfold ZaZ ZhR;simp only[RT.val,show ((9:Int)==8)=false from rfl,show ((9:Int)==9)=true from rfl,Ya,Yc,h]
def okI (y:ITMT):Prop:=
 (y.1=1/\3<=y.2.1.2.2.2/\y.2.1.2.2.2<=6/\1<=y.2.2.2.1/\y.2.2.2.1<=y.2.1.2.2.2/\0<=y.2.2.1/\(0<y.2.2.1->2<=y.2.2.2.1/\Zg y.2.1.1=true))\/
 ((y.1=2\/y.1=3\/y.1=4)/\1<=y.2.2.2.1/\y.2.2.1=0)
def adjI (y z:ITMT):Prop:=(y.1=1->y.2.2.2.1<y.2.1.2.2.2->z.1=4)/\(z.1≠1->¬(y.1=z.1/\y.2.2.2.2.1=z.2.2.2.2.1/\y.2.2.2.2.2=z.2.2.2.2.2))
structure GV (m:Int) (l:List ITMT):Prop where
 ok:∀y∈l,okI y
 adj:∀i:Nat,i+1<l.length->adjI (R.get Zdu l (i:Int)) (R.get Zdu l ((i+1:Nat):Int))
 bd:∀y∈l,y.2.2.2.1<=m/\y.2.2.1<=m
theorem Zfw (l:List ITMT) (z:ITMT) (i:Nat) (h:i<l.length):R.get Zdu (l++[z]) (i:Int)=R.get Zdu l (i:Int):=by simp[R.get,Yp h]
theorem Zjw (l:List ITMT) (z:ITMT):R.get Zdu (l++[z]) (l.length:Int)=z:=by simp[R.get]
variable {m m':Int} {l:List ITMT} {z:ITMT}
theorem GV.snoc (h:GV m l) (hm:m<=m') (hz:okI z) (hb:z.2.2.2.1<=m'/\z.2.2.1<=m') (ha:∀l' y,l=l'++[y]->adjI y z):GV m' (l++[z]):=by
 refine⟨λy hy=> ?_,λi hi=> ?_,λy hy=> ?_⟩
 ·rcases YV.1 hy with hy|hy
  ·exact h.ok y hy
  ·rw[Y8] at hy;subst hy;exact hz
 ·simp only[Yd,List.length_singleton] at hi;by_cases h1:i+1<l.length
  ·rw[Zfw l z i (by omega),Zfw l z (i+1) h1];exact h.adj i h1
  ·have e:i+1=l.length:=by omega
   rw[e,Zjw,Zfw l z i (by omega)];rcases Yag l with rfl|⟨l',y,rfl⟩
   ·simp at e
   ·rw[Yac] at e|-;have:i=l'.length:=by simp at e;omega
    rw[this,Zjw];exact ha l' y (Yac ..)
 ·rcases YV.1 hy with hy|hy
  ·have:=h.bd y hy;omega
  ·rw[Y8] at hy;subst hy;exact hb
theorem GV.split (h:GV m (l++[z])):GV m l/\okI z/\(∀l' y,l=l'++[y]->adjI y z):=by
 refine⟨⟨λy hy=>h.ok y (List.mem_append_left _ hy),λi hi=> ?_,λy hy=>h.bd y (List.mem_append_left _ hy)⟩,h.ok z (by simp),?_⟩
 ·have:=h.adj i (by simp;omega);rw[Zfw l z i (by omega),Zfw l z (i+1) hi] at this;exact this
 ·rintro l' y rfl;have:=h.adj l'.length (by simp);have e:((l'.length+1:Nat):Int)=((l'++[y]).length:Int):=by simp
  rw[e,Zjw,Zfw _ z l'.length (by simp),Zjw] at this;exact this
theorem GV.redo {z':ITMT} (h:GV m (l++[z])) (hm:m<=m') (hz:okI z') (hb:z'.2.2.2.1<=m'/\z'.2.2.1<=m') (h1:z'.1=z.1) (h2:z'.2.2.2.2=z.2.2.2.2):GV m' (l++[z']):=by
 obtain⟨g,_,ha⟩:=h.split;refine g.snoc hm hz hb λl' y e=> ?_
 obtain⟨a1,a2⟩:=ha l' y e;exact⟨by rw[h1];exact a1,by rw[h1,h2];exact a2⟩
def ZNz (c:CORT) (it:List ITMT):Prop:=
 ((c.2.2.2.2.1=2\/c.2.2.2.2.1=3\/c.2.2.2.2.1=7)->∃(l:List ITMT) (w:Int),it=l++[(1,c.2.2.2.1,w,(bif c.2.2.2.2.1==2 then 1 else 2),ZaA c,sodC c)]/\(c.2.2.2.2.1=2->w=0)/\(c.2.2.2.2.1=7->Zg c.2.2.2.1.1=true))/\
 (4<=c.2.2.2.2.1->c.2.2.2.2.1<=6->∃(l:List ITMT) (w:Int),it=l++[(1,c.2.2.2.1,w,c.2.2.2.2.1-1,ZaA c,sodC c)]/\c.2.2.2.2.1<=c.2.2.2.1.2.2.2)/\
 ((c.2.2.2.2.1=1\/c.2.2.2.2.1=8\/c.2.2.2.2.1=9)->∀(l:List ITMT) (y:ITMT),it=l++[y]->(y.1=1->y.2.2.2.1=y.2.1.2.2.2)/\(c.2.2.2.2.1=9->y.1=3->y.2.1.2.1=c.1.2.1.2.2.2.2.2.2.2.2.2))
structure Gr (k m:Int) (c:CORT) (it:List ITMT) (tr:List PINT):Prop where
 chip:c.1.1=k
 ex:expX k it=tr
 gv:GV m it
 la:ZNz c it
theorem ZNp (p:TC) (l:LINT):(Ze p l).2.2.1=p.2.2.1/\(Ze p l).2.2.2.2.2.2.2.2.2.2.2.2=p.2.2.2.2.2.2.2.2.2.2.2.2/\(Ze p l).1=p.1/\(Ze p l).2.1=p.2.1:=by have:=Zvf p l;simp only[unl,pinj] at this;obtain⟨h1,h2,h3,h4,h5,h6,h7⟩:=this;exact⟨h3,by rw[h7],h1,h2⟩
theorem ZxO (p:TC) (s:Int) (g:List Int) (h:Bool) (l:LINT):(endX p s g h l).1.1=p.1:=by
 unfold endX;cases (Zm p s g).2
 ·simp only[Yc];rw[(Zu0 _ _).1,ZR5]
 ·rfl
theorem ZxN (p:TC) (s:Int) (g:List Int) (h:Bool) (l:LINT):(endX p s g h l).2.2.2.2.1=8\/(endX p s g h l).2.2.2.2.1=9\/(endX p s g h l).2.2.2.2.1=1:=by
 unfold endX;cases (Zm p s g).2
 ·exact (Zfu _ _ _).1
 ·exact (Zfu _ _ _).1
variable {c:CORT} {y:ITMT}
theorem ZES (h:c.2.2.2.2.1=8\/c.2.2.2.2.1=9\/c.2.2.2.2.1=1) (h1:y.1=1) (h2:y.2.2.2.1=y.2.1.2.2.2):ZNz c (l++[y]):=
 ⟨λe=>by omega,λe1 e2=>by omega,λ_ l' y' e=>by
  obtain⟨_,e2⟩:=Ya1 e rfl;simp only[YaJ,and_true] at e2;subst e2
  exact⟨λ_=>h2,λ_ e3=>by omega⟩⟩
theorem Zjq (h:c.2.2.2.2.1=8\/c.2.2.2.2.1=9\/c.2.2.2.2.1=1) (h1:y.1≠1) (h2:c.2.2.2.2.1=9->y.1=3->y.2.1.2.1=c.1.2.1.2.2.2.2.2.2.2.2.2):ZNz c (l++[y]):=
 ⟨λe=>by omega,λe1 e2=>by omega,λ_ l' y' e=>by
  obtain⟨_,e2⟩:=Ya1 e rfl;simp only[YaJ,and_true] at e2;subst e2
  exact⟨λe3=>(h1 e3).elim,h2⟩⟩
theorem ZPR (y:ITMT) (h:y.1=2\/y.1=3\/y.1=4) (h1:1<=y.2.2.2.1) (h2:y.2.2.2.1<=1000000):stI (Zw8 y)=stI y++[bif y.1==2 then 8 else bif y.1==3 then 9 else 10]/\(Zw8 y).2.2.2.1=y.2.2.2.1+1:=by
 have w:wrap .i64 (y.2.2.2.1+1)=y.2.2.2.1+1:=wrap_i64 _ (by omega) (by omega);have e1:(y.1==1)=false:=by rcases h with h|h|h<;>rw[h]<;>rfl
 unfold stI Zw8;simp only[w,e1,Yc,and_true];have:(y.2.2.2.1+1).toNat=y.2.2.2.1.toNat+1:=by omega
 rw[this,List.replicate_succ']
theorem Zl2 {t:Int} (k:Int) (l:List ITMT) (y z:ITMT) (e:stI z=stI y++[t]) (hp:∀t,pinI k z t=pinI k y t):expX k (l++[z])=expX k (l++[y])++[pinI k y t]:=by rw[ZhA,ZhA,e,YaQ,Yo];congr 1;have:pinI k z=pinI k y:=funext hp;rw[this];rfl
variable {k:Int} {it:List ITMT} {tr:List PINT}
theorem ZBP (hc:c.1.1=k) (ex:expX k it=tr) (gv:GV m it) (hm0:0<=m) (hm:m<=1000000) (kd t:Int) (hk:(kd=2/\t=8)\/(kd=3/\t=9)\/(kd=4/\t=10)) (x:TY) (X:TY) (d:Int)
  (hX:∀(q:TY) (D:Int),(t=9->q.2.1=X.2.1)->ZaZ k t q D (ZaA c) (sodC c)=ZaZ k t X d (ZaA c) (sodC c)) (hx:t=9->x.2.1=X.2.1)
  (hpc:∀l y,it=l++[y]->kd=3->y.1=3->y.2.1.2.1=X.2.1) (hcomp:∀l y,it=l++[y]->y.1=1->y.2.2.2.1<y.2.1.2.2.2->kd=4):
  ∃l z,Zgi it kd c (kd,x,0,1,ZaA c,sodC c)=l++[z]/\z.1=kd/\(t=9->z.2.1.2.1=X.2.1)/\expX k (l++[z])=tr++[ZaZ k t X d (ZaA c) (sodC c)]/\GV (m+1) (l++[z]):=by
 have hkd:kd=2\/kd=3\/kd=4:=by omega
 have ht:(bif kd==2 then (8:Int) else bif kd==3 then 9 else 10)=t:=by rcases hk with ⟨rfl,rfl⟩|⟨rfl,rfl⟩|⟨rfl,rfl⟩<;>rfl
 have e1:(kd==1)=false:=by rcases hkd with h|h|h<;>rw[h]<;>rfl
 have hnew:stI (kd,x,0,1,ZaA c,sodC c)=[t]:=by unfold stI;simp only[e1,Yc,ht];rfl
 have hfresh:expX k (it++[(kd,x,0,1,ZaA c,sodC c)])=tr++[ZaZ k t X d (ZaA c) (sodC c)]:=by rw[ZhA,ex,hnew];show tr++[ZaZ k t x x.2.2.1 (ZaA c) (sodC c)]=_;rw[hX x x.2.2.1 hx]
 have hz:okI (kd,x,0,1,ZaA c,sodC c):=.inr ⟨hkd,Int.le_refl _,rfl⟩;unfold Zgi;rcases Yag it with rfl|⟨l',y,rfl⟩
 ·exact⟨[],_,rfl,rfl,hx,hfresh,gv.snoc (by omega) hz ⟨by show (1:Int)<=m+1;omega,by show (0:Int)<=m+1;omega⟩ (λl' y e=>by simp at e)⟩
 ·rw[Yac] at*;simp only[List.getLast?_concat];cases hs:ZyM y kd c
  ·refine⟨_,_,rfl,rfl,hx,hfresh,gv.snoc (by omega) hz ⟨by show (1:Int)<=m+1;omega,by show (0:Int)<=m+1;omega⟩ (λl2 y2 e=> ?_)⟩;obtain⟨_,e2⟩:=Ya1 e rfl;simp only[YaJ,and_true] at e2;subst e2;refine⟨λa b=>hcomp _ _ rfl a b,λ_ a=> ?_⟩;obtain⟨a1,a2,a3⟩:=a;unfold ZyM at hs;simp only at a1 a2 a3;rw[a1,a2,a3] at hs;simp at hs
  ·simp only[ZyM,Yb,YaA] at hs;obtain⟨s1,s2,s3⟩:=hs;obtain⟨_,oy,_⟩:=gv.split;have by1:=gv.bd y (by simp);rcases oy with ⟨q,_⟩|⟨_,n1,w0⟩
   ·omega
   ·obtain⟨m1,m2⟩:=ZPR y (by rw[s1];exact hkd) n1 (by omega);rw[s1,ht] at m1;simp only[Ya,Z4];refine⟨l',Zw8 y,rfl,s1,λh9=>hpc l' y rfl (by omega) (by omega),?_,?_⟩
    ·rw[Zl2 k l' y (Zw8 y) m1 (λt=>rfl),ex];show tr++[ZaZ k t y.2.1 y.2.1.2.2.1 y.2.2.2.2.1 y.2.2.2.2.2]=_;rw[s2,s3,hX y.2.1 _ (λh9=>hpc l' y rfl (by omega) (by omega))]
    ·exact gv.redo (by omega) (.inr ⟨by rw[show (Zw8 y).1=y.1 from rfl,s1];exact hkd,by rw[m2];omega,w0⟩) ⟨by rw[m2];omega,by show y.2.2.1<=m+1;omega⟩ rfl rfl
theorem ZWR {s0:TC} {ev:List EVTT} {cp:List TC} (h:Sem s0 c ev cp it) (g:Gr k m c it tr) (hm0:6<=m) (hm:m<=100000) (l:LINT) (d:Int) (hr:l.2.2.1=false):
  Gr k (m+1) (Zl c l d) (ZbQ it c (Zp c (Zq c) d) (Zq c)) (tr++[ZbN c l d]):=by
 obtain⟨hcp,un,nx,rest,nine,cy,hit,ln,pt,ps⟩:=h;clear hit ln un hcp pt ps;obtain⟨chip,ex,gv,la1,la2,la3⟩:=g;obtain⟨p0,s,g,x,n,hd⟩:=c;simp only at nx rest nine cy chip la1 la2 la3;have hb0:(decide (n<1)||decide (n>9))=false:=by simp;omega
 have hst:Zq (p0,s,g,x,n,hd)=n:=by simp only[Zq,Zy0,RT.val,hb0,Yc]
 have hsx:Z2 n=n:=by simp only[Z2,hb0,Yc]
 obtain⟨v1,v2,v3,v4⟩:=ZNp p0 l;have hpin:ZbN (p0,s,g,x,n,hd) l d=ZaZ k n (ZpW (p0,s,g,x,n,hd) n) d (ZaA (p0,s,g,x,n,hd)) (sodC (p0,s,g,x,n,hd)):=by unfold ZbN;simp only[hsx,hr,Yc,chip];rfl
 have hhc:(n==9)=false->ZpW (p0,s,g,x,n,hd) n=x:=λe=>by unfold ZpW;rw[e];rfl
 rw[hst,hpin];have hi':ZaA (Ze p0 l,s,g,x,n,hd)=ZaA (p0,s,g,x,n,hd):=v1;have hcases:n=1\/n=2\/n=3\/(n=4\/n=5\/n=6)\/n=7\/n=8\/n=9:=by omega
 rcases hcases with e|e|e|hk|e|e|e
 ·--T1
  subst e;have hck:Zl (p0,s,g,x,1,hd) l d=(Ze p0 l,s,g,x,2,hd):=by unfold Zl;simp only[hr,hsx];rfl
  obtain⟨c1,c2⟩:=cy (by omega);have hs36:=Zub _ _ _ c2;rw[<-c1] at hs36;rw[hck,Zlh _ _ _ rfl,hhc rfl];have hi:ZbQ it (p0,s,g,x,1,hd) x 1=it++[(1,x,0,1,ZaA (p0,s,g,x,1,hd),sodC (p0,s,g,x,1,hd))]:=rfl;rw[hi];refine⟨by show (Ze p0 l).1=k;rw[v3];exact chip,?_,?_,?_⟩
  ·rw[ZhA,ex];show tr++[ZaZ k 1 x x.2.2.1 _ _]=_;rw[ZQB k 1 x x.2.2.1 d _ _ rfl]
  ·refine gv.snoc (by omega) (.inl ⟨rfl,hs36.1,hs36.2,Int.le_refl _,by show (1:Int)<=x.2.2.2;omega,Int.le_refl _,λe=>by simp at e⟩) ⟨by show (1:Int)<=m+1;omega,by show (0:Int)<=m+1;omega⟩ λl' y e=> ?_
   have:=(la3 (.inl rfl) l' y e).1;exact⟨λa b=>by have:=this a;omega,λa=>(a rfl).elim⟩
  ·refine⟨λ_=>⟨it,0,?_,λ_=>rfl,λe=>by simp at e⟩,λe=>by simp at e,λe=>by simp at e⟩;show _=it++[(1,x,0,1,(Ze p0 l).2.2.1,(Ze p0 l).2.2.2.2.2.2.2.2.2.2.2.2)];rw[v1,v2];rfl
 ·--T2
  subst e;obtain⟨l',w,rfl,w0,_⟩:=la1 (.inl rfl);have hw0:=w0 rfl;subst hw0;obtain⟨c1,c2⟩:=cy (by omega);have hs36:=Zub _ _ _ c2;rw[<-c1] at hs36;have hi:ZbQ (l'++[(1,x,0,(bif (2:Int)==2 then (1:Int) else 2),ZaA (p0,s,g,x,2,hd),sodC (p0,s,g,x,2,hd))]) (p0,s,g,x,2,hd) (Zp (p0,s,g,x,2,hd) 2 d) 2=l'++[(1,x,0,2,ZaA (p0,s,g,x,2,hd),sodC (p0,s,g,x,2,hd))]:=by rw[Zlh _ _ _ rfl];show Zbl (l'++[_]) _=_;rw[Z4];rfl
  have hck:Zl (p0,s,g,x,2,hd) l d=(Ze p0 l,s,g,x,bif l.1|| !Zg x.1 then 3 else 7,bif l.1|| !Zg x.1 then l.2.1 else hd):=by unfold Zl;simp only[hr,hsx];show (bif l.1|| !Zg x.1 then _ else _)=_;cases l.1|| !Zg x.1<;>rfl
  rw[hi,hck,hhc rfl];refine⟨by show (Ze p0 l).1=k;rw[v3];exact chip,?_,?_,?_⟩
  ·rw[Zl2 (t:=2) k l' (1,x,0,1,ZaA (p0,s,g,x,2,hd),sodC (p0,s,g,x,2,hd)) (1,x,0,2,ZaA (p0,s,g,x,2,hd),sodC (p0,s,g,x,2,hd)) rfl (λt=>rfl)];rw[show expX k (l'++[(1,x,0,1,ZaA (p0,s,g,x,2,hd),sodC (p0,s,g,x,2,hd))])=tr from ex];show tr++[ZaZ k 2 x x.2.2.1 _ _]=_;rw[ZQB k 2 x x.2.2.1 d _ _ rfl]
  ·exact gv.redo (by omega) (.inl ⟨rfl,hs36.1,hs36.2,(by show (1:Int)<=2;decide),(by show (2:Int)<=x.2.2.2;omega),Int.le_refl _,λe=>by simp at e⟩) ⟨by show (2:Int)<=m+1;omega,by show (0:Int)<=m+1;omega⟩ rfl rfl
  ·have hk:((bif l.1|| !Zg x.1 then (3:Int) else 7)=3)\/((bif l.1|| !Zg x.1 then (3:Int) else 7)=7/\Zg x.1=true):=by cases l.1<;>cases Zg x.1<;>simp
   generalize (bif l.1|| !Zg x.1 then (3:Int) else 7)=kk at hk;generalize (bif l.1|| !Zg x.1 then l.2.1 else hd)=hh;refine⟨λ_=>⟨l',0,?_,λ_=>rfl,λe=> ?_⟩,λe1 e2=> ?_,λe=> ?_⟩
   ·show _=l'++[(1,x,0,(bif kk==2 then (1:Int) else 2),(Ze p0 l).2.2.1,(Ze p0 l).2.2.2.2.2.2.2.2.2.2.2.2)];have:(kk==2)=false:=by rcases hk with e|⟨e,_⟩<;>rw[e]<;>rfl
    rw[v1,v2,this];rfl
   ·replace e:kk=7:=e;rcases hk with h3|⟨_,h7⟩
    ·omega
    ·exact h7
   ·replace e1:4<=kk:=e1;replace e2:kk<=6:=e2;omega
   ·replace e:kk=1\/kk=8\/kk=9:=e;omega
 ·--T3
  subst e;obtain⟨l',w,rfl,_,_⟩:=la1 (.inr (.inl rfl));obtain⟨c1,c2⟩:=cy (by omega);have hs36:=Zub _ _ _ c2;rw[<-c1] at hs36;generalize hx3:ZaE (Ze p0 l) x d=x3;have hx3':ZaE p0 x d=x3:=by rw[<-ZvQ v3];exact hx3
  have hcur:Zp (p0,s,g,x,3,hd) 3 d=x3:=by rw[ZZj _ _ (Ze p0 l) v3];exact hx3
  have h36:=ZUX p0 x d hs36;rw[hx3'] at h36;obtain⟨oI,oS,oA⟩:∃i o,ZaA (p0,s,g,x,3,hd)=i/\sodC (p0,s,g,x,3,hd)=o:=⟨_,_,rfl,rfl⟩;have hi:ZbQ (l'++[(1,x,w,(bif (3:Int)==2 then (1:Int) else 2),ZaA (p0,s,g,x,3,hd),sodC (p0,s,g,x,3,hd))]) (p0,s,g,x,3,hd) (Zp (p0,s,g,x,3,hd) 3 d) 3=l'++[(1,x3,w,3,ZaA (p0,s,g,x,3,hd),sodC (p0,s,g,x,3,hd))]:=by rw[hcur];show Zbl (l'++[_]) _=_;rw[Z4];rfl
  rw[hi,hhc rfl];have okw:=gv.split.2.1;have hbd:=gv.bd _ (List.mem_append_right l' (Y8.2 rfl));have hww:0<=w/\(0<w->Zg x.1=true)/\w<=m:=by
   rcases okw with ⟨_,_,_,_,_,a,b⟩|⟨a,_⟩
   ·exact⟨a,λe=>(b e).2,hbd.2⟩
   ·replace a:(1:Int)=2\/(1:Int)=3\/(1:Int)=4:=a;omega
  have hk3:x3.1=x.1:=by rw[<-hx3'];rfl
  have hgv:GV (m+1) (l'++[(1,x3,w,3,ZaA (p0,s,g,x,3,hd),sodC (p0,s,g,x,3,hd))]):=
   gv.redo (by omega) (.inl ⟨rfl,h36.1,h36.2,(by show (1:Int)<=3;decide),h36.1,hww.1,λe=>⟨(by show (2:Int)<=3;decide),by rw[hk3];exact hww.2.1 e⟩⟩) ⟨by show (3:Int)<=m+1;omega,by show w<=m+1;omega⟩ rfl rfl
  have hex:expX k (l'++[(1,x3,w,3,ZaA (p0,s,g,x,3,hd),sodC (p0,s,g,x,3,hd))])=tr++[ZaZ k 3 x d (ZaA (p0,s,g,x,3,hd)) (sodC (p0,s,g,x,3,hd))]:=by
   rw[<-ex,ZhA,ZhA,Yo];congr 1;have e2:stI (1,x3,w,3,ZaA (p0,s,g,x,3,hd),sodC (p0,s,g,x,3,hd))=stC w.toNat 2++[3]:=rfl;have e3:stI (1,x,w,(bif (3:Int)==2 then (1:Int) else 2),ZaA (p0,s,g,x,3,hd),sodC (p0,s,g,x,3,hd))=stC w.toNat 2:=rfl;rw[e2,e3,YaQ];congr 1
   ·refine List.map_congr_left λt ht=> ?_
    have ht3:(t==3)=false:=by
     simp only[stC,YV,Ys,List.not_mem_nil,or_false,List.mem_replicate] at ht;have:t≠3:=by omega
     simpa using this
    show ZaZ k t x3 x3.2.2.1 _ _=ZaZ k t x x.2.2.1 _ _;rw[<-hx3',ZQA k t p0 x d _ x.2.2.1 _ _ ht3]
   ·show [ZaZ k 3 x3 x3.2.2.1 _ _]=_;rw[<-hx3',pin_3]
  cases hle:le3 x3.2.2.2
  ·have hck:Zl (p0,s,g,x,3,hd) l d=(Ze p0 l,s,g++[x3.2.2.1],x3,4,hd):=by unfold Zl;simp only[hr,hsx,hx3,hle];rfl
   rw[hck];refine⟨by show (Ze p0 l).1=k;rw[v3];exact chip,hex,hgv,λe=>by simp at e,λ_ _=>⟨l',w,?_,?_⟩,λe=>by simp at e⟩
   ·show _=l'++[(1,x3,w,3,(Ze p0 l).2.2.1,(Ze p0 l).2.2.2.2.2.2.2.2.2.2.2.2)];rw[v1,v2];rfl
   ·show (4:Int)<=x3.2.2.2;simp[le3] at hle;omega
  ·have hck:Zl (p0,s,g,x,3,hd) l d=endX (Ze p0 l) s (g++[x3.2.2.1]) hd l:=by unfold Zl;simp only[hr,hsx,hx3,hle];rfl
   rw[hck];refine⟨by rw[ZxO,v3];exact chip,hex,hgv,ZES (ZxN _ _ _ _ _) rfl ?_⟩;show (3:Int)=x3.2.2.2;simp[le3] at hle;omega
 ·--T4,T5,T6
  obtain⟨l',w,rfl,hlo⟩:=la2 (by omega) (by omega);have b1:(n==1)=false:=by rcases hk with rfl|rfl|rfl<;>rfl
  have b2:(n==2)=false:=by rcases hk with rfl|rfl|rfl<;>rfl
  have b3:(n==3)=false:=by rcases hk with rfl|rfl|rfl<;>rfl
  have b7:(n==7)=false:=by rcases hk with rfl|rfl|rfl<;>rfl
  have b8:(n==8)=false:=by rcases hk with rfl|rfl|rfl<;>rfl
  have b9:(n==9)=false:=by rcases hk with rfl|rfl|rfl<;>rfl
  have b10:(n==10)=false:=by rcases hk with rfl|rfl|rfl<;>rfl
  have hclk:Zl (p0,s,g,x,n,hd) l d=bif decide (n<x.2.2.2)&& !(n==6) then (Ze p0 l,s,g,x,n+1,hd) else endX (Ze p0 l) s g hd l:=by unfold Zl;simp only[hr,hsx,b1,b2,b3,b7,b8,b9,YaS,Yc]
  clear hst hsx hpin hb0 la1 la2 la3 rest nine cy;have hi:ZbQ (l'++[(1,x,w,n-1,ZaA (p0,s,g,x,n,hd),sodC (p0,s,g,x,n,hd))]) (p0,s,g,x,n,hd) (Zp (p0,s,g,x,n,hd) n d) n=l'++[(1,x,w,n,ZaA (p0,s,g,x,n,hd),sodC (p0,s,g,x,n,hd))]:=by
   rw[Zlh _ _ _ b3];have hkn:Zo0 n=1:=by unfold Zo0;simp only[b8,b9,b10,Yc]
   have hcn:cycN (p0,s,g,x,n,hd) n x=x:=by unfold cycN;simp only[b8,b9,b10,Yc]
   unfold ZbQ;simp only[hkn,hcn,b1,b7];show Zbl (l'++[_]) _=_;rw[Z4];show l'++[(1,x,w,wrap .i64 (n-1+1),ZaA (p0,s,g,x,n,hd),sodC (p0,s,g,x,n,hd))]=_;rw[wrap_i64 _ (by omega) (by omega),show n-1+1=n by omega]
  rw[hi,hhc b9];obtain⟨_,okw,_⟩:=gv.split;have hbd:=gv.bd _ (List.mem_append_right l' (Y8.2 rfl));obtain⟨o1,o2,o3⟩:0<=w/\(0<w->Zg x.1=true)/\w<=m/\3<=x.2.2.2/\x.2.2.2<=6:=by
   rcases okw with ⟨_,q1,q2,_,_,a,b⟩|⟨a,_⟩
   ·exact⟨a,λe=>(b e).2,hbd.2,q1,q2⟩
   ·replace a:(1:Int)=2\/(1:Int)=3\/(1:Int)=4:=a;omega
  have hgv:GV (m+1) (l'++[(1,x,w,n,ZaA (p0,s,g,x,n,hd),sodC (p0,s,g,x,n,hd))]):=
   gv.redo (by omega) (.inl ⟨rfl,o3.2.1,o3.2.2,by show 1<=n;omega,hlo,o1,λe=>⟨by show 2<=n;omega,o2 e⟩⟩) ⟨by show n<=m+1;omega,by show w<=m+1;omega⟩ rfl rfl
  have hex:expX k (l'++[(1,x,w,n,ZaA (p0,s,g,x,n,hd),sodC (p0,s,g,x,n,hd))])=tr++[ZaZ k n x d (ZaA (p0,s,g,x,n,hd)) (sodC (p0,s,g,x,n,hd))]:=by
   have e2:stI (1,x,w,n,ZaA (p0,s,g,x,n,hd),sodC (p0,s,g,x,n,hd))=stI (1,x,w,n-1,ZaA (p0,s,g,x,n,hd),sodC (p0,s,g,x,n,hd))++[n]:=by rcases hk with rfl|rfl|rfl<;>rfl
   rw[Zl2 k l' _ _ e2 (λt=>rfl),ex];show tr++[ZaZ k n x x.2.2.1 _ _]=_;rw[ZQB k n x x.2.2.1 d _ _ b3]
  rw[hclk];cases hle:decide (n<x.2.2.2)&& !(n==6)
  ·simp only[Yc];refine⟨by rw[ZxO,v3];exact chip,hex,hgv,ZES (ZxN _ _ _ _ _) rfl ?_⟩;show n=x.2.2.2;simp at hle;by_cases q:n<x.2.2.2
   ·have:=hle q;omega
   ·omega
  ·simp only[Ya];simp at hle;refine⟨by show (Ze p0 l).1=k;rw[v3];exact chip,hex,hgv,λe=>by replace e:n+1=2\/n+1=3\/n+1=7:=e;omega,λ_ _=>⟨l',w,?_,by show n+1<=x.2.2.2;omega⟩,λe=>by replace e:n+1=1\/n+1=8\/n+1=9:=e;omega⟩;show _=l'++[(1,x,w,n+1-1,(Ze p0 l).2.2.1,(Ze p0 l).2.2.2.2.2.2.2.2.2.2.2.2)];rw[v1,v2,show n+1-1=n by omega];rfl
 ·--TWait
  subst e;obtain⟨l',w,rfl,_,w7⟩:=la1 (.inr (.inr rfl));have w7:=w7 rfl;obtain⟨c1,c2⟩:=cy (by omega);have hs36:=Zub _ _ _ c2;rw[<-c1] at hs36;obtain⟨_,okw,_⟩:=gv.split;have hbd:=gv.bd _ (List.mem_append_right l' (Y8.2 rfl));have o1:0<=w:=by
   rcases okw with ⟨_,q1,q2,_,_,a,b⟩|⟨a,_⟩
   ·exact a
   ·replace a:(1:Int)=2\/(1:Int)=3\/(1:Int)=4:=a;omega
  have o2:w<=m:=hbd.2;have hi:ZbQ (l'++[(1,x,w,(bif (7:Int)==2 then (1:Int) else 2),ZaA (p0,s,g,x,7,hd),sodC (p0,s,g,x,7,hd))]) (p0,s,g,x,7,hd) (Zp (p0,s,g,x,7,hd) 7 d) 7=l'++[(1,x,w+1,2,ZaA (p0,s,g,x,7,hd),sodC (p0,s,g,x,7,hd))]:=by rw[Zlh _ _ _ rfl];show Zbl (l'++[_]) _=_;rw[Z4];show l'++[(1,x,wrap .i64 (w+1),2,ZaA (p0,s,g,x,7,hd),sodC (p0,s,g,x,7,hd))]=_;rw[wrap_i64 _ (by omega) (by omega)]
  have hck:Zl (p0,s,g,x,7,hd) l d=(Ze p0 l,s,g,x,bif l.1|| !Zg x.1 then 3 else 7,bif l.1|| !Zg x.1 then l.2.1 else hd):=by unfold Zl;simp only[hr,hsx];show (bif l.1|| !Zg x.1 then _ else _)=_;cases l.1|| !Zg x.1<;>rfl
  rw[hi,hck,hhc rfl];refine⟨by show (Ze p0 l).1=k;rw[v3];exact chip,?_,?_,?_⟩
  ·have e2:stI (1,x,w+1,2,ZaA (p0,s,g,x,7,hd),sodC (p0,s,g,x,7,hd))=stI (1,x,w,2,ZaA (p0,s,g,x,7,hd),sodC (p0,s,g,x,7,hd))++[7]:=by
    show [1,2]++List.replicate (w+1).toNat 7=[1,2]++List.replicate w.toNat 7++[7];have:(w+1).toNat=w.toNat+1:=by omega
    rw[this,List.replicate_succ',Yo]
   rw[Zl2 k l' _ _ e2 (λt=>rfl)];rw[show expX k (l'++[(1,x,w,2,ZaA (p0,s,g,x,7,hd),sodC (p0,s,g,x,7,hd))])=tr from ex];show tr++[ZaZ k 7 x x.2.2.1 _ _]=_;rw[ZQB k 7 x x.2.2.1 d _ _ rfl]
  ·exact gv.redo (by omega) (.inl ⟨rfl,hs36.1,hs36.2,(by show (1:Int)<=2;decide),(by show (2:Int)<=x.2.2.2;omega),(by show 0<=w+1;omega),λ_=>⟨(by show (2:Int)<=2;decide),w7⟩⟩) ⟨by show (2:Int)<=m+1;omega,by show w+1<=m+1;omega⟩ rfl rfl
  ·have hk:((bif l.1|| !Zg x.1 then (3:Int) else 7)=3)\/((bif l.1|| !Zg x.1 then (3:Int) else 7)=7):=by cases l.1|| !Zg x.1<;>simp
   generalize (bif l.1|| !Zg x.1 then (3:Int) else 7)=kk at hk;generalize (bif l.1|| !Zg x.1 then l.2.1 else hd)=hh;refine⟨λ_=>⟨l',w+1,?_,λe=> ?_,λe=>w7⟩,λe1 e2=> ?_,λe=> ?_⟩
   ·show _=l'++[(1,x,w+1,(bif kk==2 then (1:Int) else 2),(Ze p0 l).2.2.1,(Ze p0 l).2.2.2.2.2.2.2.2.2.2.2.2)];have:(kk==2)=false:=by rcases hk with e|e<;>rw[e]<;>rfl
    rw[v1,v2,this];rfl
   ·replace e:kk=2:=e;omega
   ·replace e1:4<=kk:=e1;replace e2:kk<=6:=e2;omega
   ·replace e:kk=1\/kk=8\/kk=9:=e;omega
 ·--THold
  subst e;have hck:Zl (p0,s,g,x,8,hd) l d=(Ze p0 l,s,g,x,idlX (Ze p0 l) s l.2.1,hd):=by unfold Zl;simp only[hr,hsx];rfl
  obtain⟨L,z,j1,j2,j3,j4,j5⟩:=ZBP (c:=(p0,s,g,x,8,hd)) chip ex gv (by omega) (by omega) 2 8 (.inl ⟨rfl,rfl⟩) (0,0,0,0) (ZpW (p0,s,g,x,8,hd) 8) d (λq D _=>pin_8 k _ _ _ _ _ _) (λe=>by simp at e) (λ_ _ _ e=>by simp at e)
   (λl' y e a b=>by have:=(la3 (.inr (.inl rfl)) l' y e).1 a;omega)
  have hi:ZbQ it (p0,s,g,x,8,hd) (Zp (p0,s,g,x,8,hd) 8 d) 8=Zgi it 2 (p0,s,g,x,8,hd) (2,(0,0,0,0),0,1,ZaA (p0,s,g,x,8,hd),sodC (p0,s,g,x,8,hd)):=rfl;rw[hi,j1,hck];refine⟨by show (Ze p0 l).1=k;rw[v3];exact chip,j4,j5,Zjq (Zfu _ _ _).1 (by rw[j2];decide) (λ_ e=>by rw[j2] at e;simp at e)⟩
 ·--THalt
  subst e;obtain⟨L,z,j1,j2,j3,j4,j5⟩:=ZBP (c:=(p0,s,g,x,9,hd)) chip ex gv (by omega) (by omega) 3 9 (.inr (.inl ⟨rfl,rfl⟩)) (0,p0.2.1.2.2.2.2.2.2.2.2.2,0,0) (ZpW (p0,s,g,x,9,hd) 9) d (λq D e=>ZYk k _ _ _ _ _ _ (e rfl)) (λ_=>rfl)
   (λl' y e _ e3=>(la3 (.inr (.inr rfl)) l' y e).2 rfl e3) (λl' y e a b=>by have:=(la3 (.inr (.inr rfl)) l' y e).1 a;omega)
  have hi:ZbQ it (p0,s,g,x,9,hd) (Zp (p0,s,g,x,9,hd) 9 d) 9=Zgi it 3 (p0,s,g,x,9,hd) (3,(0,p0.2.1.2.2.2.2.2.2.2.2.2,0,0),0,1,ZaA (p0,s,g,x,9,hd),sodC (p0,s,g,x,9,hd)):=rfl;have hck:Zl (p0,s,g,x,9,hd) l d=bif ZbP (Ze p0 l) l==0 then (Ze p0 l,s,g,x,bif l.2.1 then 8 else 9,hd) else (ZA (Ze p0 l) (ZbP (Ze p0 l) l),ZbP (Ze p0 l) l,[],(Zm (ZA (Ze p0 l) (ZbP (Ze p0 l) l)) (ZbP (Ze p0 l) l) []).1,bif l.2.1 then 8 else 1,hd):=by unfold Zl;simp only[hr,hsx];rfl
  rw[hi,j1,hck];cases hk:ZbP (Ze p0 l) l==0
  ·simp only[Yc];refine⟨by show (ZA (Ze p0 l) _).1=k;rw[(Zu0 _ _).1,v3];exact chip,j4,j5,Zjq ?_ (by rw[j2];decide) (λe _=> ?_)⟩
   ·show (bif l.2.1 then (8:Int) else 1)=8\/(bif l.2.1 then (8:Int) else 1)=9\/(bif l.2.1 then (8:Int) else 1)=1;cases l.2.1<;>simp
   ·replace e:(bif l.2.1 then (8:Int) else 1)=9:=e;cases hq:l.2.1<;>rw[hq] at e<;>simp at e
  ·simp only[Ya];refine⟨by show (Ze p0 l).1=k;rw[v3];exact chip,j4,j5,Zjq ?_ (by rw[j2];decide) (λe _=> ?_)⟩
   ·show (bif l.2.1 then (8:Int) else 9)=8\/(bif l.2.1 then (8:Int) else 9)=9\/(bif l.2.1 then (8:Int) else 9)=1;cases l.2.1<;>simp
   ·show z.2.1.2.1=(Ze p0 l).2.1.2.2.2.2.2.2.2.2.2;rw[j3 rfl,v4];rfl
theorem ZRX (g:Gr k m c it tr) (hm0:6<=m) (hm:m<=100000) (l:LINT) (d:Int) (hr:l.2.2.1=true) (x:TY):
  Gr k (m+1) (Zl c l d) (ZbQ it c x 10) (tr++[ZbN c l d]):=by
 obtain⟨chip,ex,gv,la⟩:=g;have hck:Zl c l d=ZpB (ZY c.1) 0:=by unfold Zl;rw[hr];rfl
 have hpin:ZbN c l d=ZaZ k 10 (ZpW c (Z2 c.2.2.2.2.1)) 0 (ZaA c) (sodC c):=by unfold ZbN;simp only[hr,Ya,chip];rfl
 obtain⟨L,z,j1,j2,j3,j4,j5⟩:=ZBP (c:=c) chip ex gv (by omega) (by omega) 4 10 (.inr (.inr ⟨rfl,rfl⟩)) (0,0,0,0) (ZpW c (Z2 c.2.2.2.2.1)) 0 (λq D _=>ZYl k _ _ _ _ _ _) (λe=>by simp at e) (λ_ _ _ e=>by simp at e) (λ_ _ _ _ _=>rfl);have hi:ZbQ it c x 10=Zgi it 4 c (4,(0,0,0,0),0,1,ZaA c,sodC c):=rfl;rw[hi,j1,hck,hpin];exact⟨chip,j4,j5,Zjq (.inr (.inr rfl)) (by rw[j2];decide) (λe=>by replace e:(1:Int)=9:=e;simp at e)⟩
theorem ZRW (b:BRDT) (s0:TC) (k m:Int) (st:STT) (i:INPT) (h:Sem s0 st.1.1 st.2.2.2.1 st.2.2.2.2 st.2.2.1) (g:Gr k m st.1.1 st.2.2.1 st.2.1) (hm0:6<=m) (hm:m<=100000):
  Gr k (m+1) (ZcL b s0 st i).1.1 (ZcL b s0 st i).2.2.1 (ZcL b s0 st i).2.1:=by
 have hcore:(Zah b st.1 i).1.1=Zl st.1.1 (Zbr b (Zt b st.1 i) i) (busS b (Zt b st.1 i) i).2:=ZhF b st.1 i;have hpin:(Zah b st.1 i).2.1=ZbN st.1.1 (Zbr b (Zt b st.1 i) i) (busS b (Zt b st.1 i) i).2:=by show ZbN (busS b (Zt b st.1 i) i).1.1 _ _=_;rw[(ZhG b (Zt b st.1 i) i).1];rfl
 show Gr k (m+1) (Zah b st.1 i).1.1 (ZbQ st.2.2.1 st.1.1 (Zp st.1.1 (nowS st.1 i) (busS b (Zt b st.1 i) i).2) (nowS st.1 i)) (st.2.1++[(Zah b st.1 i).2.1]);rw[hcore,hpin];have hl2:(Zbr b (Zt b st.1 i) i).2.2.1=i.2.2.1:=rfl;generalize Zbr b (Zt b st.1 i) i=l at hl2|-;generalize (busS b (Zt b st.1 i) i).2=d;cases hr:i.2.2.1
 ·have hnow:nowS st.1 i=Zq st.1.1:=by unfold nowS;rw[hr];rfl
  rw[hnow];exact ZWR h g hm0 hm l d (by rw[hl2,hr])
 ·have hnow:nowS st.1 i=10:=by unfold nowS;rw[hr];rfl
  rw[hnow];exact ZRX g hm0 hm l d (by rw[hl2,hr]) _
theorem ZN5 (b:BRDT) (s0:TC) (k:Int):∀(l:List INPT) (m:Int) (st:STT),Sem s0 st.1.1 st.2.2.2.1 st.2.2.2.2 st.2.2.1->Gr k m st.1.1 st.2.2.1 st.2.1->6<=m->m+l.length<=100000->
  Gr k (m+l.length) (ZeK b s0 st l).1.1 (ZeK b s0 st l).2.2.1 (ZeK b s0 st l).2.1
 |[],m,st,h,g,_,_=>by
  have e:m+(([]:List INPT).length:Int)=m:=by simp
  rw[e];exact g
 |i::l,m,st,h,g,h1,h2=>by
  simp only[List.length_cons] at h2|-;have:=ZN5 b s0 k l (m+1) (ZcL b s0 st i) (ZJs b s0 st i h) (ZRW b s0 k m st i h g h1 (by omega)) (by omega) (by omega);have e:m+1+(l.length:Int)=m+((l.length+1:Nat):Int):=by omega
  rw[e] at this;exact this
theorem ZPZ (b:BRDT) (l:List INPT) (hg:smG b.2.1=true) (hm:b.2.2.2.2.2.2.length<=100000) (hl:l.length<=1000):
  expX b.1 (ZdH b l).1.2.1=(ZdH b l).1.1/\GV 2000 (ZdH b l).1.2.1:=by
 unfold ZdH;cases hx:(wNew b).2 !=0
 ·have hw:=ZMX b hg hm hx;obtain⟨hs,hi⟩:=ZRQ b hw;have hch:(Zck b).1.1.1.1=b.1:=by unfold Zck;rw[hw];rfl
  have hn:(Zck b).1.1.2.2.2.2.1=1:=by unfold Zck;rw[hw];rfl
  have g0:Gr b.1 6 (Zck b).1.1 (Zck b).2.2.1 (Zck b).2.1:=by refine⟨hch,rfl,⟨λy hy=>(by cases hy),λi hi=>(by simp[Zck] at hi),λy hy=>(by cases hy)⟩,⟨λe=>(by rw[hn] at e;simp at e),λe=>(by rw[hn] at e;simp at e),λ_ l y e=>(by simp[Zck] at e)⟩⟩
  have hf:=ZN5 b (ZaO b) b.1 l 6 (Zck b) hi g0 (by omega) (by omega);have e1:∀st,(endS (ZaO b) st).2.1=st.2.2.1:=λst=>by unfold endS;cases Zgg st.1.1<;>rfl
  have e2:∀st,(endS (ZaO b) st).1=st.2.1:=λst=>by unfold endS;cases Zgg st.1.1<;>rfl
  show expX b.1 (endS (ZaO b) (ZeK b (ZaO b) (Zck b) l)).2.1=(endS (ZaO b) (ZeK b (ZaO b) (Zck b) l)).1/\GV 2000 (endS (ZaO b) (ZeK b (ZaO b) (Zck b) l)).2.1;rw[e1,e2];exact⟨hf.ex,hf.gv.ok,hf.gv.adj,λy hy=>by have:=hf.gv.bd y hy;omega⟩
 ·exact⟨rfl,⟨λy hy=>(by cases hy),λi hi=>(by simp at hi),λy hy=>(by cases hy)⟩⟩
theorem ZCL (w:Nat):∀n,stsC w n=stC w n
 |0=>rfl
 |1=>rfl
 |2=>by rw[Zfc];rfl
 |n+3=>by
  rw[Zfc,ZCL w (n+2)];have:(n+2==1)=false:=by simp
  rw[this];rfl
theorem ZmC (w:Nat):∀m,(stsC w m).length=m+(if 2<=m then w else 0)
 |0=>by simp[stsC]
 |m+1=>by
  rw[Zfc,Yd,ZmC w m];by_cases h1:m=1
  ·subst h1;simp;omega
  ·have:(m==1)=false:=by simpa using h1
   rw[this];simp only[Yc,List.length_cons,List.length_nil];split<;>split<;>omega
theorem ZUI (y:ITMT) (h:okI y) (h1:y.2.2.2.1<=2000) (h2:y.2.2.1<=2000):stsL y=stI y/\(((stsL y).length:Nat):Int)=y.2.2.2.1+y.2.2.1/\0<=y.2.2.1/\1<=y.2.2.2.1:=by
 rcases h with ⟨e,s1,s2,n1,n2,w1,w2⟩|⟨e,n1,w1⟩
 ·have e1:(y.1 !=1)=false:=by simp[e]
  have e2:(y.1==1)=true:=by simp[e]
  have hg:gLim y.2.2.2.1 1 (gLim y.2.1.2.2.2 3 6)=y.2.2.2.1:=by simp only[gLim,ZBQ,RT.val];omega
  have hw:(min y.2.2.1 65536)=y.2.2.1:=by omega
  unfold stsL stI;rw[e1,e2,hg,hw];refine⟨ZCL _ _,?_,w1,n1⟩;simp only[Yc];rw[ZmC];by_cases h0:0<y.2.2.1
  ·have:=(w2 h0).1;rw[YX (by omega)];omega
  ·split<;>omega
 ·have e1:(y.1 !=1)=true:=by simp;omega
  have e2:(y.1==1)=false:=by simp;omega
  have hg:gLim y.2.2.2.1 0 65536=y.2.2.2.1:=by simp only[gLim,ZBQ,RT.val];omega
  unfold stsL stI;rw[e1,e2];have hr:gRep y=((bif y.1==2 then 8 else bif y.1==3 then 9 else 10),y.2.2.2.1):=by rcases e with e|e|e<;>simp[gRep,ZHL,RT.val,e,hg]
  rw[hr];simp only[Ya,Yc,List.length_replicate];exact⟨trivial,by omega,by omega,n1⟩
theorem ZUJ (x:ITMT):∀t∈stsL x,1<=t/\t<=10:=by
 intro t ht;unfold stsL at ht;cases h1:x.1 !=1
 ·rw[h1] at ht;have hg1:(gLim x.2.2.2.1 1 (gLim x.2.1.2.2.2 3 6)).toNat<=6:=by simp only[gLim,ZBQ,RT.val];omega
  simp only[Yc,stsC,List.mem_flatMap,Yaz] at ht;obtain⟨k,hk,ht⟩:=ht;rcases Ys.1 ht with h|h
  ·omega
  ·cases hk1:k==1
   ·rw[hk1] at h;cases h
   ·rw[hk1] at h;have:=(List.mem_replicate.1 h).2;omega
 ·rw[h1] at ht;simp only[Ya] at ht;obtain⟨h2,h3⟩:=List.mem_replicate.1 ht;revert h2 h3;unfold gRep ZHL;cases x.1==2<;>cases x.1==3<;>cases x.1==4<;>simp[RT.val]<;>omega
theorem ZKX (k:Int) (y:ITMT) (t:Int) (h1:1<=t) (h2:t<=10):pinP k y t=pinI k y t:=by
 unfold pinP pinI;rw[Zzx k t h1 h2 y.2.1 y.2.1.2.2.1 y.2.1.2.2.1 y.2.1.2.1 y.2.2.2.2.1 y.2.2.2.2.2 (λ_=>rfl)];by_cases h:t=9
 ·subst h;exact ZYk k _ _ _ _ _ _ rfl
 ·have:(t==9)=false:=by simpa using h
  rw[this];rfl
theorem ZR6 (h:GV 2000 l) (k:Int):expP k l=expX k l:=by
 unfold expP expX;have:∀y∈l,(stsL y).map (pinP k y)=(stI y).map (pinI k y):=λy hy=>by
  have hb:=h.bd y hy;rw[<-(ZUI y (h.ok y hy) hb.1 hb.2).1];exact List.map_congr_left λt ht=>by have:=ZUJ y t ht;exact ZKX k y t this.1 this.2
 have key:∀l':List ITMT,(∀y∈l',(stsL y).map (pinP k y)=(stI y).map (pinI k y))->(l'.flatMap λy=>(stsL y).map (pinP k y))=l'.flatMap λy=>(stI y).map (pinI k y):=by
  intro l'
  induction l' with
  |nil=>intro _;rfl
  |cons y l' ih=>intro hh;simp only[List.flatMap_cons];rw[hh y (by simp),ih (λz hz=>hh z (by simp[hz]))]
 exact key l this
theorem ZJk (w:Nat):∀n:Nat,n<=6->∀t∈stC w n,1<=t/\t<=10
 |0,_,t,h=>by cases h
 |1,_,t,h=>by rw[stC,Y8] at h;omega
 |2,_,t,h=>by
  rw[stC] at h;rcases YV.1 h with h|h
  ·simp only[Ys,List.not_mem_nil,or_false] at h;omega
  ·have:=(List.mem_replicate.1 h).2;omega
 |n+3,hn,t,h=>by
  rw[stC] at h
  ·rcases YV.1 h with h|h
   ·exact ZJk w (n+2) (by omega) t h
   ·rw[Y8] at h;omega
  all_goals (intro e;simp at e)
theorem ZUO (hy:okI y):∀t∈stI y,1<=t/\t<=10:=by
 intro t h;unfold stI at h;cases e:y.1==1
 ·rw[e] at h;simp only[Yc] at h;have:=(List.mem_replicate.1 h).2;rw[this];cases y.1==2
  ·cases y.1==3<;>simp
  ·simp
 ·rw[e] at h;simp only[Ya] at h;have e1:y.1=1:=by simpa using e
  rcases hy with hy|hy
  ·exact ZJk _ _ (by omega) t h
  ·omega
theorem ZVp (k t:Int) (x:TY) (d:Int) (i o:Bool):(ZaZ k t x d i o).1=t:=by
 unfold ZaZ ZhR;simp only[RT.val];cases t==8
 ·cases t==9
  ·cases t==10
   ·cases rOn k<;>rfl
   ·rfl
  ·rfl
 ·rfl
theorem ZWZ (h:GV m l) (k:Int):∀p∈expX k l,1<=p.1/\p.1<=10:=by intro p hp;unfold expX at hp;rw[List.mem_flatMap] at hp;obtain⟨y,hy,hp⟩:=hp;rw[List.mem_map] at hp;obtain⟨t,ht,rfl⟩:=hp;unfold pinI;rw[ZVp];exact ZUO (h.ok y hy) t ht
end
end Go.Proofs.YteaflmalcclnoaaGreatDoor
namespace Go.Proofs.Wd
def dg:List UInt8:=[48,49,50,51,52,53,54,55,56,57,97,98,99,100,101,102]
def hx (n:Nat):UInt8:=dg.getD n 48
def hex2 (v:Nat):List UInt8:=[hx (v/16),hx (v%16)]
theorem Zhg (n:Nat) (h:n<16):Zda (B dg) (n:Int)=((hx n).toNat:Int):=by
 have:∀n:Nat,n<16->Zda (B dg) (n:Int)=((hx n).toNat:Int):=by decide+kernel
 exact this n h
theorem ZY4 (n:Nat) (h:n<16):Lib.indexByte dg (hx n)=n:=by
 have:∀n:Nat,n<16->Lib.indexByte dg (hx n)=n:=by decide+kernel
 exact this n h
theorem ZY5 (n:Nat) (h:n<16):hx n≠32/\hx n≠10:=by
 have:∀n:Nat,n<16->hx n≠32/\hx n≠10:=by decide+kernel
 exact this n h
theorem ZN1 (v:Nat) (h:v<256):shrI .u8 (v:Int) 4=((v/16:Nat):Int):=by
 have:∀v:Nat,v<256->shrI .u8 (v:Int) 4=((v/16:Nat):Int):=by decide+kernel
 exact this v h
theorem ZNs (v:Nat) (h:v<256):andI .u8 (v:Int) 15=((v%16:Nat):Int):=by
 have:∀v:Nat,v<256->andI .u8 (v:Int) 15=((v%16:Nat):Int):=by decide+kernel
 exact this v h
theorem orN64 (a b:Nat) (ha:a<4294967296) (hb:b<4294967296):orI .i64 (a:Int) (b:Int)=((a|||b:Nat):Int):=by
 have e:(BitVec.ofInt 64 (a:Int)|||BitVec.ofInt 64 (b:Int)).toNat=a|||b:=by
  rw[BitVec.toNat_or];have h1:(BitVec.ofInt 64 (a:Int)).toNat=a:=by simp[YaV];omega
  have h2:(BitVec.ofInt 64 (b:Int)).toNat=b:=by simp[YaV];omega
  rw[h1,h2]
 have hlt:a|||b<2^32:=Nat.or_lt_two_pow (by omega) (by omega);show wrap .i64 ((BitVec.ofInt 64 (a:Int)|||BitVec.ofInt 64 (b:Int)).toNat:Int)=_;rw[e,wrap_i64 _ (by omega) (by omega)]
theorem ZUL (n d:Nat) (hn:n<65536) (hd:d<16):orI .i64 (shlI .i64 (n:Int) 4) (andI .i64 (d:Int) 15)=((n*16+d:Nat):Int):=by
 have e1:shlI .i64 (n:Int) 4=((n*16:Nat):Int):=by
  show wrap .i64 ((n:Int)*2^(min (4:Int).toNat 64))=_;have:(2:Int)^(min (4:Int).toNat 64)=16:=by decide
  rw[this,wrap_i64 _ (by omega) (by omega)];omega
 have e2:andI .i64 (d:Int) 15=(d:Int):=by
  have:∀d:Nat,d<16->andI .i64 (d:Int) 15=(d:Int):=by decide+kernel
  exact this d hd
 rw[e1,e2,orN64 _ _ (by omega) (by omega)];have h:=Nat.shiftLeft_add_eq_or_of_lt (b:=d) (i:=4) (by omega) n;rw[Nat.shiftLeft_eq] at h;have e3:n*2^4=n*16:=rfl;rw[e3] at h;rw[h]
def ZpO (n:Int) (c:UInt8):Int:=orI .i64 (shlI .i64 n 4) (andI .i64 (Lib.indexByte dg c) 15)
def numX (l:List UInt8):Int:=l.foldl ZpO 0
theorem Zhi (n d:Nat) (hn:n<65536) (hd:d<16):ZpO (n:Int) (hx d)=((n*16+d:Nat):Int):=by unfold ZpO;rw[ZY4 d hd,ZUL n d hn hd]
theorem ZRr (v:Nat) (h:v<256):numX (hex2 v)=(v:Int):=by show ZpO (ZpO ((0:Nat):Int) (hx (v/16))) (hx (v%16))=_;rw[Zhi _ _ (by omega) (by omega),Zhi _ _ (by omega) (by omega)];omega
theorem ZRq (a:Nat) (h:a<65536):numX (hex2 (a/256)++hex2 (a%256))=(a:Int):=by show ZpO (ZpO (ZpO (ZpO ((0:Nat):Int) (hx (a/256/16))) (hx (a/256%16))) (hx (a%256/16))) (hx (a%256%16))=_;rw[Zhi _ _ (by omega) (by omega),Zhi _ _ (by omega) (by omega),Zhi _ _ (by omega) (by omega),Zhi _ _ (by omega) (by omega)];omega
def stN:List (List UInt8):=[[116,49],[116,50],[116,51],[116,52],[116,53],[116,54],[116,119],[116,104],[116,104,97,108,116],[116,114,101,115,101,116]]
def pnN:List (List UInt8):=[[115,121,110,99],[100,98,105,110],[119,97,105,116],[105,110,116,101],[97,108,101],[105,111,109],[115,49],[115,48],[114,100],[105,110,116,97],[115,111,100],[119,114],[104,108,100,97],[102,108,111,97,116]]
def lvN:List Bool->List (List UInt8)->List (List UInt8)
 |b::bs,n::ns=>(bif b then [n] else [])++lvN bs ns
 |_,_=>[]
theorem ZBz:∀{bs:List Bool} {ns:List (List UInt8)} {w:List UInt8},w∈lvN bs ns->w∈ns
 |b::bs,n::ns,w,h=>by
  simp only[lvN,YV] at h;rcases h with h|h
  ·cases b<;>simp at h;exact h▸YaK ..
  ·exact YA _ (ZBz h)
 |[],_,_,h=>by simp[lvN] at h
 |_::_,[],_,h=>by simp[lvN] at h
theorem ZNq:∀{bs:List Bool} {ns:List (List UInt8)},ns.Nodup->bs.length=ns.length->∀(i:Nat) (b:Bool) (n:List UInt8),bs[i]? =some b->ns[i]? =some n->(lvN bs ns).contains n=b
 |b::bs,n::ns,hd,hl,0,b',n',h1,h2=>by
  simp only[List.getElem?_cons_zero,oinj] at h1 h2;subst h1;subst h2;have hn:n ∉ lvN bs ns:=λh=>(List.nodup_cons.1 hd).1 (ZBz h)
  cases b<;>simp[lvN,hn]
 |b::bs,n::ns,hd,hl,i+1,b',n',h1,h2=>by
  simp only[List.getElem?_cons_succ] at h1 h2;have ih:=ZNq (List.nodup_cons.1 hd).2 (by simpa using hl) i b' n' h1 h2;have hne:n≠n':=λe=>(List.nodup_cons.1 hd).1 (e▸List.mem_of_getElem? h2)
  have:(lvN (b::bs) (n::ns)).contains n'=(lvN bs ns).contains n':=by
   have hne':(n'==n)=false:=beq_eq_false_iff_ne.2 (YaO hne);cases b
   ·rfl
   ·simp only[lvN,Ya,List.singleton_append,List.contains_cons,hne',Yj]
  rw[this,ih]
 |[],_,_,_,_,_,_,h1,_=>by simp at h1
 |_::_,[],_,_,_,_,_,_,h2=>by simp at h2
theorem ZQt:pnN.Nodup:=by decide+kernel
def Zmd (s:Nat) (a d:Nat) (bs:List Bool):List (List UInt8):=stN.getD (s-1) []::(hex2 (a/256)++hex2 (a%256))::hex2 d::lvN bs pnN
def Zft (s a d:Nat) (bs:List Bool):List UInt8:=Zcu 32 (Zmd s a d bs)
theorem ZBM (v:Nat) (h:v<256):(32:UInt8) ∉ hex2 v/\(10:UInt8) ∉ hex2 v:=by
 have h1:=ZY5 (v/16) (by omega);have h2:=ZY5 (v%16) (by omega);refine⟨λh=> ?_,λh=> ?_⟩<;>simp only[hex2,Ys,List.not_mem_nil,or_false] at h<;>rcases h with h|h
 ·exact h1.1 h.symm
 ·exact h2.1 h.symm
 ·exact h1.2 h.symm
 ·exact h2.2 h.symm
theorem st_ok (s:Nat):(32:UInt8) ∉ stN.getD (s-1) []/\(10:UInt8) ∉ stN.getD (s-1) []:=by
 have h:∀w∈([]::stN),(32:UInt8) ∉ w/\(10:UInt8) ∉ w:=by decide+kernel
 refine h _ ?_;rw[Yl];cases e:stN[s-1]? with
 |none=>simp
 |some w=>exact YA _ (List.mem_of_getElem? e)
theorem pn_ok:∀w∈pnN,(32:UInt8) ∉ w/\(10:UInt8) ∉ w:=by decide+kernel
theorem ZCm (s a d:Nat) (bs:List Bool) (ha:a<65536) (hd:d<256):∀w∈Zmd s a d bs,(32:UInt8) ∉ w/\(10:UInt8) ∉ w:=by
 intro w hw;have h1:=ZBM (a/256) (by omega);have h2:=ZBM (a%256) (by omega);simp only[Zmd,Ys] at hw;rcases hw with rfl|rfl|rfl|hw
 ·exact st_ok s
 ·simp only[YV,not_or];exact⟨⟨h1.1,h2.1⟩,⟨h1.2,h2.2⟩⟩
 ·exact ZBM d hd
 ·exact pn_ok w (ZBz hw)
theorem ZNH (c e:UInt8) (hce:e≠c):∀ws:List (List UInt8),(∀w∈ws,e ∉ w)->e ∉ Zcu c ws
 |[],_=>by simp[Zcu]
 |[w],h=>h w (by simp)
 |w::v::r,h=>by have h1:=h w (by simp);have h2:=ZNH c e hce (v::r) (λx hx=>h x (YA _ hx));simp only[Zcu,YV,Ys,not_or];exact⟨h1,hce,h2⟩
theorem ZWG (s a d:Nat) (bs:List Bool) (ha:a<65536) (hd:d<256):(10:UInt8) ∉ Zft s a d bs:=
 ZNH 32 10 (by decide) _ λw hw=>(ZCm s a d bs ha hd w hw).2
theorem ZHB (s a d:Nat) (bs:List Bool) (ha:a<65536) (hd:d<256):Lib.splitB ⟨#[32]⟩ 0 (Lib.countB (B (Zft s a d bs)) ⟨#[32]⟩) (B (Zft s a d bs))=(Zmd s a d bs).map B:=
 ZyC 32 _ (by simp[Zmd]) λw hw=>(ZCm s a d bs ha hd w hw).1
theorem Zq6 (c:UInt8):∀(w:List UInt8) (r:List (List UInt8)),Zcu c (w::r)=w++r.flatMap (λx=>c::x)
 |w,[]=>by simp[Zcu]
 |w,v::r=>by rw[Zcu,Zq6 c v r];simp
theorem ZNt (s a d:Nat) (bs:List Bool):Zft s a d bs=stN.getD (s-1) []++32::(hex2 (a/256)++hex2 (a%256))++32::hex2 d++(lvN bs pnN).flatMap (λx=>32::x):=by unfold Zft Zmd;rw[Zq6];simp[Yo]
theorem ZUN (s k:Nat) (hs:1<=s) (h:s<=10) (hk:k<10):(stN.getD k []==stN.getD (s-1) [])=decide (k=s-1):=by
 have:∀s:Nat,s<10->∀k:Nat,k<10->(stN.getD k []==stN.getD s [])=decide (k=s):=by decide+kernel
 exact this (s-1) (by omega) k hk
theorem ZTE:∀(bs:List Bool) (ns:List (List UInt8)),(lvN bs ns).length<=ns.length
 |b::bs,n::ns=>by have:=ZTE bs ns;cases b<;>simp[lvN]<;>omega
 |[],_=>by simp[lvN]
 |_::_,[]=>by simp[lvN]
theorem ZvH {τ:Type} {fl:Bool} (T:τ->RT (Option (Go1 τ))) (mk:Int->τ) (idx:τ->Int) (n:Nat) (hi:∀i,idx (mk i)=i) (hT:∀i:Nat,i<n->(T (mk i)).val=some (.cont (mk ((i+1:Nat):Int)))) (hE:(T (mk n)).val=some (.brk (mk n))) (hn:n<=1000000000):
  runF fl T (λ_=>1000000000000) (mk 0)=some (false,mk n):=by
 obtain⟨r,hr,h1⟩:=ZK (fl:=fl) (t:=T) (fuel:=λ_=>1000000000000)
  (λa=>∃i:Nat,i<=n/\a=mk i) (λa=>n-(idx a).toNat) (λr=>r=(false,mk n))
  (by
   rintro a ⟨i,h,rfl⟩;by_cases hlt:i<n
   ·exact .inl ⟨_,hT i hlt,⟨i+1,hlt,rfl⟩,by simp only[hi];omega⟩
   ·have e:i=n:=by omega
    subst e
    exact .inr (.inl ⟨_,hE,rfl⟩))
  (mk 0) ⟨0,Yr _,rfl⟩ (by simp only[hi];omega)
 rw[h1] at hr;exact hr
theorem ZJI {n:Nat} {i:Nat} (h:i<n) (hn:n<=1000000000):decide ((i:Int)<iN n)=true/\Zh (i:Int) n=true/\wrap .i64 ((i:Int)+1)=((i+1:Nat):Int):=by refine⟨by simp only[iN,Le,Yf];omega,by simp only[Zh,Yb,Yf];omega,?_⟩;rw[wrap_i64 _ (by omega) (by omega)];omega
theorem ZyR (n:Nat):decide ((n:Int)<iN n)=false:=by simp[iN,Le]
end Go.Proofs.Wd
open Go Go.S3 Go.Proofs Go.Proofs.Wd
namespace Go.Proofs.YteaflmalcclnoaaGreatDoor
noncomputable section
theorem ZW7 (s:Nat) (h1:1<=s) (h2:s<=10):ZHS (s:Int)=true/\dpSt (s:Int)=B (stN.getD (s-1) []):=by
 have:s=1\/s=2\/s=3\/s=4\/s=5\/s=6\/s=7\/s=8\/s=9\/s=10:=by omega
 rcases this with rfl|rfl|rfl|rfl|rfl|rfl|rfl|rfl|rfl|rfl<;>exact⟨by kernel_rfl,by kernel_rfl⟩
theorem ZJj (s:Nat):(stN.getD s []).length<=6:=by
 have h:∀w∈([]::stN),w.length<=6:=by decide+kernel
 refine h _ ?_;rw[Yl];cases e:stN[s]? with
 |none=>simp
 |some w=>exact YA _ (List.mem_of_getElem? e)
theorem ZWm (l:List UInt8) (h:l.length<=1000):(ZxV (B l)).val=some (numX l):=by
 have hsz:ByteArray.size (B l)=l.length:=Zro l;have hb:Nat.ble (ByteArray.size (kD)) 4294967280=true:=rfl;have hr:=ZvH (fl:=false) ZjG (λi=>(B l,numX (l.take i.toNat),iN (ByteArray.size (B l)),i,())) (λa=>a.2.2.2.1) l.length (λ_=>rfl)
  (λi hi=>by
   obtain⟨k1,k2,k3⟩:=ZJI hi (by omega);have k2:(decide (0<=(i:Int))&&decide ((i:Int)<iN l.length))=true:=k2;have hs:Nat.toUInt8 (Int.toNat (Zda (B l) (i:Int)))=l[i]:=by
    have:Zda (B l) (i:Int)=((l[i]).toNat:Int):=by show ((l.getD (Int.toNat (i:Int)) 0).toNat:Int)=_;rw[Int.toNat_natCast,Yl,Yg hi];rfl
    rw[this];simp
   have hn:numX (l.take (i+1))=ZpO (numX (l.take i)) l[i]:=by unfold numX;rw[Yak,Yg hi,Option.toList_some,YaX];rfl
   unfold ZjG;simp only[RT.val,hsz,k1,k2,k3,hb,hs,Yh,Yj,Yk,Ya,Int.toNat_natCast,hn]
   rfl)
  (by
   unfold ZjG
   simp only[RT.val,hsz,ZyR,Yc]) (by omega)
 have hm:decide (iN l.length<=IntKind.max i64)=true:=by rw[Yf];show (l.length:Int)<=9223372036854775807;omega
 rw[Int.toNat_natCast,YaN] at hr;have h0:numX (l.take (Int.toNat 0))=0:=rfl;simp only[h0] at hr;unfold ZxV;simp only[RT.val,hsz,hm] at hr|-;rw[hr];rfl
theorem ZTz (l:List UInt8) (h:l.length<=1000):ZxW (B l)=true/\ZOD (B l)=numX l:=by have:=ZWm l h;exact⟨by unfold ZxW;rw[this];rfl,by unfold ZOD;rw[this];rfl⟩
def Bd (X:List Int) (n:Nat):Prop:=X.length+100*n<=1000000
theorem ZT2 {X:List Int} (h:Bd X 0):bm X=true:=by have:most=1073741824:=rfl;show Nat.ble X.length most=true;rw[Yy];unfold Bd at h;omega
variable {S:List Int}
theorem ZFq (hS:S.length<=100) (X:List Int) (n:Nat) (h:Bd X (n+1)):Bd (X++S) n:=by unfold Bd at*;rw[Yd];omega
theorem ZFl (b:Bool) (X S:List Int):(bif b then X++S else X)=X++(bif b then S else []):=by cases b<;>simp
theorem ZXk (hS:S.length<=100) (b:Bool) (X:List Int) (n:Nat) (h:Bd X (n+1)):Bd (X++(bif b then S else [])) n:=by unfold Bd at*;rw[Yd];cases b<;>simp<;>omega
def ZRE (l0:List Int) (s a d:Nat) (b1 b2 b3 b4 b5 b6 b7 b8 b9 b10 b11 b12 b13 b14:Bool):List Int:=l0++strL (B (stN.getD (s-1) [])++kS)++[((hx (a/256/16)).toNat:Int),((hx (a/256%16)).toNat:Int)]++[((hx (a%256/16)).toNat:Int),((hx (a%256%16)).toNat:Int)]++[32]++[((hx (d/16)).toNat:Int),((hx (d%16)).toNat:Int)]++(bif b1 then strL (kS++nA) else [])++(bif b2 then strL (kS++nB) else [])++(bif b3 then strL (kS++nC) else [])++(bif b4 then strL (kS++nD) else [])++(bif b5 then strL (kS++nE) else [])++(bif b6 then strL (kS++nF) else [])++(bif b7 then strL (kS++nG) else [])++(bif b8 then strL (kS++nH) else [])++(bif b9 then strL (kS++nI) else [])++(bif b10 then strL (kS++nJ) else [])++(bif b11 then strL (kS++nK) else [])++(bif b12 then strL (kS++nL) else [])++(bif b13 then strL (kS++nM) else [])++(bif b14 then strL (kS++nN) else [])
theorem kw_eq (b:Bool) (w:List UInt8):(bif b then strL (kS++B w) else [])=bI ((bif b then [w] else []).flatMap λx=>32::x):=by
 cases b
 ·rfl
 ·show strL (B [32]++B w)=_;rw[ZPl,ZJf];simp
theorem ZTH (l0:List Int) (s a d:Nat) (b1 b2 b3 b4 b5 b6 b7 b8 b9 b10 b11 b12 b13 b14:Bool):ZRE l0 s a d b1 b2 b3 b4 b5 b6 b7 b8 b9 b10 b11 b12 b13 b14=l0++bI (Zft s a d [b1,b2,b3,b4,b5,b6,b7,b8,b9,b10,b11,b12,b13,b14]):=by
 have hsp:strL (B (stN.getD (s-1) [])++kS)=bI (stN.getD (s-1) []++[32]):=by show strL (B _++B [32])=_;rw[ZPl,ZJf]
 rw[ZNt];unfold ZRE;rw[hsp];simp only[kw_eq];simp only[lvN,pnN,List.flatMap_append,List.flatMap_nil,ZPa,YG,Yo,List.cons_append,List.nil_append];simp only[bI,hex2,YaQ,YaZ,Ya5,Yo,List.cons_append,List.nil_append];rfl
theorem hiB (a:Nat) (h:a<65536):wrap .u8 (shrI .u16 (a:Int) 8)=((a/256:Nat):Int):=by
 have:shrI .u16 (a:Int) 8=((a/256:Nat):Int):=by
  show Int.fdiv (a:Int) (2^(min (8:Int).toNat 16))=_;have:(2:Int)^(min (8:Int).toNat 16)=256:=by decide
  rw[this,Int.fdiv_eq_ediv_of_nonneg _ (by omega)];omega
 rw[this,ZjS];omega
theorem ZFJ (n:Nat) (h:n<16):(decide (0<=(n:Int))&&decide ((n:Int)<iN (ByteArray.size (kD))))=true:=by rw[Yb,Yf,Yf];exact⟨by omega,by show (n:Int)<16;omega⟩
theorem Zxn (s a d:Nat) (b1 b2 b3 b4 b5 b6 b7 b8 b9 b10 b11 b12 b13 b14:Bool) (h1:1<=s) (h2:s<=10) (ha:a<65536) (hd:d<256):(ZxX ((s:Int),(a:Int),(d:Int),b1,b2,b3,b4,b5,b6,b7,b8,b9,b10,b11,b12,b13,b14)).val=some (bI (Zft s a d [b1,b2,b3,b4,b5,b6,b7,b8,b9,b10,b11,b12,b13,b14]))/\
  ∀(l:List PINT) (i:Nat) (b:List Int),b.length<=900000->i<l.length->l.length<=1000000->R.get ZcS l (i:Int)=((s:Int),(a:Int),(d:Int),b1,b2,b3,b4,b5,b6,b7,b8,b9,b10,b11,b12,b13,b14)->
  (ZhD (l,iN l.length,(i:Int),b,())).val=some (.cont (l,iN l.length,((i+1:Nat):Int),b++bI (Zft s a d [b1,b2,b3,b4,b5,b6,b7,b8,b9,b10,b11,b12,b13,b14]++[10]),())):=by
 have hA1:wrap .u8 (shrI .u16 (a:Int) 8)=((a/256:Nat):Int):=hiB a ha;have hA2:wrap .u8 (a:Int)=((a%256:Nat):Int):=by rw[ZjS];omega
 have n1:=ZN1 (a/256) (by omega);have n2:=ZNs (a/256) (by omega);have n3:=ZN1 (a%256) (by omega);have n4:=ZNs (a%256) (by omega);have n5:=ZN1 d hd;have n6:=ZNs d hd;have r1:=ZFJ (a/256/16) (by omega);have r2:=ZFJ (a/256%16) (by omega);have r3:=ZFJ (a%256/16) (by omega);have r4:=ZFJ (a%256%16) (by omega);have r5:=ZFJ (d/16) (by omega);have r6:=ZFJ (d%16) (by omega);have q1:Zda (kD) ((a/256/16:Nat):Int)=_:=Zhg (a/256/16) (by omega);have q2:Zda (kD) ((a/256%16:Nat):Int)=_:=Zhg (a/256%16) (by omega);have q3:Zda (kD) ((a%256/16:Nat):Int)=_:=Zhg (a%256/16) (by omega);have q4:Zda (kD) ((a%256%16:Nat):Int)=_:=Zhg (a%256%16) (by omega);have q5:Zda (kD) ((d/16:Nat):Int)=_:=Zhg (d/16) (by omega);have q6:Zda (kD) ((d%16:Nat):Int)=_:=Zhg (d%16) (by omega);obtain⟨t1,t2⟩:=ZW7 s h1 h2;have t3:mx (ByteArray.size (B (stN.getD (s-1) []))+ByteArray.size kS)=true:=by have:=ZJj (s-1);rw[Zro,Yf];show ((_+1:Nat):Int)<=9223372036854775807;omega
 have z0:=λX n h=>ZFq (S:=strL (B (stN.getD (s-1) [])++kS)) (by
  have:=ZJj (s-1);show (strL (B _++B [32])).length<=100
  rw[ZPl,ZJf,bI,List.length_map,Yd,List.length_singleton];omega) X n h
 have z1:=fun (u:Int) X n h=>ZFq (S:=[u]) (by simp) X n h
 have z2:=fun (u v:Int) X n h=>ZFq (S:=[u,v]) (by simp) X n h
 have y:=λx (hx:x∈[nA,nB,nC,nD,nE,nF,nG,nH,nI,nJ,nK,nL,nM,nN])=>ZFq (S:=strL (kS++x)) ((by decide+kernel:∀x∈[nA,nB,nC,nD,nE,nF,nG,nH,nI,nJ,nK,nL,nM,nN],(strL (kS++x)).length<=100) x hx)
 have c:=λx (hx:x∈[nA,nB,nC,nD,nE,nF,nG,nH,nI,nJ,nK,nL,nM,nN])=>ZXk (S:=strL (kS++x)) ((by decide+kernel:∀x∈[nA,nB,nC,nD,nE,nF,nG,nH,nI,nJ,nK,nL,nM,nN],(strL (kS++x)).length<=100) x hx)
 have m:∀x∈[nA,nB,nC,nD,nE,nF,nG,nH,nI,nJ,nK,nL,nM,nN],mx (ByteArray.size kS+ByteArray.size x)=true:=by decide+kernel
 refine⟨?_,λl i b hb hi hl hg=> ?_⟩
 ·have base:∀n,n<=100->Bd [] n:=λn h=>by unfold Bd;simp;omega
  have e:=ZTH [] s a d b1 b2 b3 b4 b5 b6 b7 b8 b9 b10 b11 b12 b13 b14;rw[List.nil_append] at e;rw[<-e];unfold ZxX ZRE;simp (config:={maxDischargeDepth:=60}) only[RT.val,hA1,hA2,n1,n2,n3,n4,n5,n6,r1,r2,r3,r4,r5,r6,q1,q2,q3,q4,q5,q6,t1,t2,t3,m,Ys,true_or,or_true,ZT2,z0,z1,z2,y,c,ZFl,base,ZbO,ZaW,Nat.reduceAdd,Nat.reduceLeDiff,Yk,Yw,Yh,Ym,Yx,Yj,Y1,Ya,Yc]
 ·have base:∀n,n<=100->Bd b n:=λn h=>by unfold Bd;omega
  obtain⟨g1,g2,g3⟩:=ZJI hi (by omega);rw[ZPa,<-List.append_assoc,<-ZTH b s a d b1 b2 b3 b4 b5 b6 b7 b8 b9 b10 b11 b12 b13 b14];unfold ZhD ZRE;simp (config:={maxDischargeDepth:=60}) only[RT.val,hg,g1,g2,g3,hA1,hA2,n1,n2,n3,n4,n5,n6,r1,r2,r3,r4,r5,r6,q1,q2,q3,q4,q5,q6,t1,t2,t3,m,Ys,true_or,or_true,ZT2,z0,z1,z2,y,c,ZFl,base,ZbO,ZaW,Nat.reduceAdd,Nat.reduceLeDiff,Yk,Yw,Yh,Ym,Yx,Yj,Y1,Ya,Yc];rfl
theorem ZYV (s a d:Nat) (b1 b2 b3 b4 b5 b6 b7 b8 b9 b10 b11 b12 b13 b14:Bool) (h1:1<=s) (h2:s<=10) (ha:a<65536) (hd:d<256):ZFg ((s:Int),(a:Int),(d:Int),b1,b2,b3,b4,b5,b6,b7,b8,b9,b10,b11,b12,b13,b14)=true/\ZOF ((s:Int),(a:Int),(d:Int),b1,b2,b3,b4,b5,b6,b7,b8,b9,b10,b11,b12,b13,b14)=bI (Zft s a d [b1,b2,b3,b4,b5,b6,b7,b8,b9,b10,b11,b12,b13,b14]):=by have:=(Zxn s a d b1 b2 b3 b4 b5 b6 b7 b8 b9 b10 b11 b12 b13 b14 h1 h2 ha hd).1;exact⟨by unfold ZFg;rw[this];rfl,by unfold ZOF;rw[this];rfl⟩
def okP (p:PINT):Prop:=(1<=p.1/\p.1<=10)/\inR .u16 p.2.1/\inR .u8 p.2.2.1
def ZXi (p:PINT):List Bool:=[p.2.2.2.1,p.2.2.2.2.1,p.2.2.2.2.2.1,p.2.2.2.2.2.2.1,p.2.2.2.2.2.2.2.1,p.2.2.2.2.2.2.2.2.1,p.2.2.2.2.2.2.2.2.2.1,p.2.2.2.2.2.2.2.2.2.2.1,p.2.2.2.2.2.2.2.2.2.2.2.1,p.2.2.2.2.2.2.2.2.2.2.2.2.1,p.2.2.2.2.2.2.2.2.2.2.2.2.2.1,p.2.2.2.2.2.2.2.2.2.2.2.2.2.2.1,p.2.2.2.2.2.2.2.2.2.2.2.2.2.2.2.1,p.2.2.2.2.2.2.2.2.2.2.2.2.2.2.2.2]
def ZoW (p:PINT):List UInt8:=Zft p.1.toNat p.2.1.toNat p.2.2.1.toNat (ZXi p)
theorem ZMR {p:PINT} (h:okP p):∃s a d:Nat,1<=s/\s<=10/\a<65536/\d<256/\p=((s:Int),(a:Int),(d:Int),p.2.2.2):=by obtain⟨⟨h1,h2⟩,h3,h4⟩:=h;rw[ZfV] at h3;rw[Zgc] at h4;refine⟨p.1.toNat,p.2.1.toNat,p.2.2.1.toNat,by omega,by omega,by omega,by omega,?_⟩;rw[Yab (by omega),Yab (by omega),Yab (by omega)]
theorem ZE4:∀(bs:List Bool) (ns:List (List UInt8)),((lvN bs ns).flatMap λx=>(32:UInt8)::x).length<=(ns.flatMap λx=>(32:UInt8)::x).length
 |b::bs,n::ns=>by have:=ZE4 bs ns;cases b<;>simp[lvN] at* <;>omega
 |[],_=>by simp[lvN]
 |_::_,[]=>by simp[lvN]
theorem ZEP (s a d:Nat) (bs:List Bool):(Zft s a d bs).length<=150:=by
 have h1:=ZJj (s-1);have h2:=ZE4 bs pnN;have h3:(pnN.flatMap λx=>(32:UInt8)::x).length<=100:=by decide+kernel
 rw[ZNt];simp only[Yd,List.length_cons,hex2,List.length_nil];omega
def Zfb (l:List PINT):List UInt8:=l.flatMap λp=>ZoW p++[10]
theorem ZrI:∀l:List PINT,(Zfb l).length<=151*l.length
 |[]=>by simp[Zfb]
 |p::l=>by have h1:=ZrI l;have h2:=ZEP p.1.toNat p.2.1.toNat p.2.2.1.toNat (ZXi p);unfold Zfb at*;simp only[List.flatMap_cons,Yd,List.length_cons,List.length_nil,ZoW] at*;omega
theorem ZY9 (l:List PINT) (h:∀p∈l,okP p) (hl:l.length<=5000):Zx0 l=true/\ZOH l=B (Zfb l):=by
 have hr:=ZvH (fl:=false) ZhD (λi=>(l,iN l.length,i,bI (Zfb (l.take i.toNat)),())) (λa=>a.2.2.1) l.length (λ_=>rfl)
  (λi hi=>by
   have hm:l[i]∈l:=Ya0 _;have hget:R.get ZcS l (i:Int)=l[i]:=by simp[R.get,Yg hi]
   obtain⟨s,a,d,h1,h2,h3,h4,hp⟩:=ZMR (h _ hm);have ht:Zfb (l.take (i+1))=Zfb (l.take i)++(ZoW l[i]++[10]):=by unfold Zfb;rw[Yak,Yg hi,Option.toList_some,List.flatMap_append,List.flatMap_singleton]
   have hlen:(bI (Zfb (l.take i))).length<=900000:=by have:=ZrI (l.take i);rw[YH] at this;rw[bI,List.length_map];omega
   have:=(Zxn s a d (l[i]).2.2.2.1 (l[i]).2.2.2.2.1 (l[i]).2.2.2.2.2.1 (l[i]).2.2.2.2.2.2.1 (l[i]).2.2.2.2.2.2.2.1 (l[i]).2.2.2.2.2.2.2.2.1 (l[i]).2.2.2.2.2.2.2.2.2.1 (l[i]).2.2.2.2.2.2.2.2.2.2.1 (l[i]).2.2.2.2.2.2.2.2.2.2.2.1 (l[i]).2.2.2.2.2.2.2.2.2.2.2.2.1 (l[i]).2.2.2.2.2.2.2.2.2.2.2.2.2.1 (l[i]).2.2.2.2.2.2.2.2.2.2.2.2.2.2.1 (l[i]).2.2.2.2.2.2.2.2.2.2.2.2.2.2.2.1 (l[i]).2.2.2.2.2.2.2.2.2.2.2.2.2.2.2.2 h1 h2 h3 h4).2 l i (bI (Zfb (l.take i))) hlen hi (by omega) (by rw[hget];exact hp);simp only[Int.toNat_natCast];rw[this,ht];have hs:l[i].1.toNat=s:=by rw[hp];rfl
   have ha:l[i].2.1.toNat=a:=by rw[hp];rfl
   have hd:l[i].2.2.1.toNat=d:=by rw[hp];rfl
   simp only[ZoW,hs,ha,hd,ZPa]
   rfl)
  (by
   unfold ZhD
   simp only[RT.val,ZyR,Yc]) (by omega)
 rw[Int.toNat_natCast,YaN] at hr;have hv:(ZxZ l).val=some (B (Zfb l)):=by have h0:bI (Zfb (l.take (Int.toNat 0)))=[]:=rfl;simp only[h0] at hr;unfold ZxZ;simp only[RT.val];rw[hr];simp only[okB,getO,Ya,ZCM]
 exact⟨by unfold Zx0;rw[hv];rfl,by unfold ZOH;rw[hv];rfl⟩
theorem ZPk (l:List UInt8):ByteArray.toList (B l)=l:=by simp[B]
theorem Zuw (W:List (List UInt8)) (i:Nat):R.get R.str (W.map B) (i:Int)=B (W.getD i []):=by have e:(R.Df R.str:ByteArray)=B []:=rfl;show (W.map B).getD (Int.toNat (i:Int)) (R.Df R.str)=_;rw[Int.toNat_natCast,Yl,Yl,Yas,e];cases W[i]? <;>rfl
def nmT:ByteArray×ByteArray×ByteArray×ByteArray×ByteArray×ByteArray×ByteArray×ByteArray×ByteArray×ByteArray:=(ByteArray.mk #[116,49],ByteArray.mk #[116,50],ByteArray.mk #[116,51],ByteArray.mk #[116,52],ByteArray.mk #[116,53],ByteArray.mk #[116,54],ByteArray.mk #[116,119],ByteArray.mk #[116,104],ByteArray.mk #[116,104,97,108,116],ByteArray.mk #[116,114,101,115,101,116])
theorem ZWt (i:Nat) (h:i<10):(bif (i:Int)==0 then nmT.1 else bif (i:Int)==iN (0+1) then nmT.2.1 else bif (i:Int)==iN (0+1+1) then nmT.2.2.1 else bif (i:Int)==iN (0+1+1+1) then nmT.2.2.2.1 else bif (i:Int)==iN (0+1+1+1+1) then nmT.2.2.2.2.1 else bif (i:Int)==iN (0+1+1+1+1+1) then nmT.2.2.2.2.2.1 else bif (i:Int)==iN (0+1+1+1+1+1+1) then nmT.2.2.2.2.2.2.1 else bif (i:Int)==iN (0+1+1+1+1+1+1+1) then nmT.2.2.2.2.2.2.2.1 else bif (i:Int)==iN (0+1+1+1+1+1+1+1+1) then nmT.2.2.2.2.2.2.2.2.1 else nmT.2.2.2.2.2.2.2.2.2)=B (stN.getD i []):=by
 have:i=0\/i=1\/i=2\/i=3\/i=4\/i=5\/i=6\/i=7\/i=8\/i=9:=by omega
 rcases this with rfl|rfl|rfl|rfl|rfl|rfl|rfl|rfl|rfl|rfl<;>rfl
theorem ZMY (S:ByteArray) (W:List (List UInt8)) (s:Nat) (h1:1<=s) (h2:s<=10) (hW:W.getD 0 []=stN.getD (s-1) []) (hl:0<W.length) (r:Int×Int×Bool×Bool×Bool×Bool×Bool×Bool×Bool×Bool×Bool×Bool×Bool×Bool×Bool×Bool):
  runF false ZeB (λ_=>1000000000000) (S,W.map B,nmT,0,(0,r),())=some (false,(S,W.map B,nmT,10,((s:Int),r),())):=by
 have h:=ZvH (fl:=false) ZeB (λi=>(S,W.map B,nmT,i,(bif decide ((s:Int)<=i) then (s:Int) else 0,r),())) (λa=>a.2.2.2.1) 10 (λ_=>rfl)
  (λi hi=>by
   have k1:decide ((i:Int)<10)=true:=by rw[Yf];omega
   have k2:decide (0<=(i:Int)/\(i:Int)<10)=true:=by rw[Yf];omega
   have k3:wrap .i64 ((i:Int)+1)=((i+1:Nat):Int):=by rw[wrap_i64 _ (by omega) (by omega)];omega
   have k4:=ZWt i hi;have k5:R.get R.str (W.map B) 0=B (stN.getD (s-1) []):=by rw[<-hW];exact Zuw W 0
   have k6:Zh 0 (List.length (W.map B))=true:=by rw[List.length_map];exact ZP.2 ⟨by omega,by omega⟩
   have k7:=ZUN s i h1 h2 hi;unfold ZeB;simp only[RT.val,k1,k2,k3,k4,k5,k6,k7,ZPk,Yk,Ya];have e:(bif decide (i=s-1) then ((i+1:Nat):Int) else bif decide ((s:Int)<=(i:Int)) then (s:Int) else 0)=bif decide ((s:Int)<=((i+1:Nat):Int)) then (s:Int) else 0:=by
    by_cases hq:i=s-1
    ·have:(s:Int)<=((i+1:Nat):Int):=by omega
     simp only[hq,decide_true,Ya] at this|-;rw[Yz this,Ya];omega
    ·by_cases hp:(s:Int)<=(i:Int)
     ·have:(s:Int)<=((i+1:Nat):Int):=by omega
      simp only[hq,hp,this,decide_true,Ya3,Ya,Yc]
     ·have:¬(s:Int)<=((i+1:Nat):Int):=by omega
      simp only[hq,hp,this,Ya3,Yc]
   rw[e])
  (by
   have k1:decide (((10:Nat):Int)<10)=false:=by decide
   unfold ZeB
   simp only[RT.val,k1,Yc]) (by omega)
 have e1:decide ((s:Int)<=0)=false:=by rw[Y5];omega
 have e2:decide ((s:Int)<=((10:Nat):Int))=true:=by rw[Yf];omega
 simp only[e1,e2,Ya,Yc] at h;exact h
def hasW (V:List (List UInt8)) (n:List UInt8):Bool:=V.contains n
theorem ZRV (V:List (List UInt8)) (i:Nat) (h:i<V.length) (n:List UInt8):(n==V[i]||hasW (V.take i) n)=hasW (V.take (i+1)) n:=by unfold hasW;rw[Yak,Yg h,Option.toList_some,List.contains_append,List.contains_cons,List.contains_nil,Yx,Bool.or_comm]
def pinW (s a d:Int) (V:List (List UInt8)):PINT:=(s,a,d,hasW V [115,121,110,99],hasW V [100,98,105,110],hasW V [119,97,105,116],hasW V [105,110,116,101],hasW V [97,108,101],hasW V [105,111,109],hasW V [115,49],hasW V [115,48],hasW V [114,100],hasW V [105,110,116,97],hasW V [115,111,100],hasW V [119,114],hasW V [104,108,100,97],hasW V [102,108,111,97,116])
theorem ZIf (S:ByteArray) (V:List (List UInt8)) (s a d:Int) (hl:V.length<=1000):
  runF false Zfz (λ_=>1000000000000) (S,V.map B,iN (V.map B).length,0,(s,a,d,false,false,false,false,false,false,false,false,false,false,false,false,false,false),())=some (false,(S,V.map B,iN (V.map B).length,((V.map B).length:Int),pinW s a d V,())):=by
 have hm:(V.map B).length=V.length:=List.length_map ..;have h:=ZvH (fl:=false) Zfz (λi=>(S,V.map B,iN (V.map B).length,i,pinW s a d (V.take i.toNat),())) (λa=>a.2.2.2.1) V.length (λ_=>rfl)
  (λi hi=>by
   obtain⟨k1,k2,k3⟩:=ZJI hi (by omega);have k4:R.get R.str (V.map B) (i:Int)=B V[i]:=by rw[Zuw,Yl,Yg hi];rfl
   have e:=λn=>ZRV V i hi n
   have L:∀w:List UInt8,ByteArray.toList (B w)=w:=ZPk;unfold Zfz;simp only[RT.val,hm,k1,k2,k3,k4,L,pinW,e,Int.toNat_natCast,Ya]
   )
  (by
   unfold Zfz
   simp only[RT.val,hm,ZyR,Yc]) (by omega)
 rw[Int.toNat_natCast,YaN] at h;rw[hm] at h|-;exact h
theorem ZXh (b1 b2 b3 b4 b5 b6 b7 b8 b9 b10 b11 b12 b13 b14:Bool) (s a d:Int):pinW s a d (lvN [b1,b2,b3,b4,b5,b6,b7,b8,b9,b10,b11,b12,b13,b14] pnN)=(s,a,d,b1,b2,b3,b4,b5,b6,b7,b8,b9,b10,b11,b12,b13,b14):=by
 have key:=fun (i:Nat) (b:Bool) (n:List UInt8) h1 h2=>ZNq (bs:=[b1,b2,b3,b4,b5,b6,b7,b8,b9,b10,b11,b12,b13,b14]) ZQt rfl i b n h1 h2
 unfold pinW hasW;rw[key 0 b1 [115,121,110,99] rfl rfl];rw[key 1 b2 [100,98,105,110] rfl rfl];rw[key 2 b3 [119,97,105,116] rfl rfl];rw[key 3 b4 [105,110,116,101] rfl rfl];rw[key 4 b5 [97,108,101] rfl rfl];rw[key 5 b6 [105,111,109] rfl rfl];rw[key 6 b7 [115,49] rfl rfl];rw[key 7 b8 [115,48] rfl rfl];rw[key 8 b9 [114,100] rfl rfl];rw[key 9 b10 [105,110,116,97] rfl rfl];rw[key 10 b11 [115,111,100] rfl rfl];rw[key 11 b12 [119,114] rfl rfl];rw[key 12 b13 [104,108,100,97] rfl rfl];rw[key 13 b14 [102,108,111,97,116] rfl rfl]
theorem ZP6 (s a d:Nat) (b1 b2 b3 b4 b5 b6 b7 b8 b9 b10 b11 b12 b13 b14:Bool) (h1:1<=s) (h2:s<=10) (ha:a<65536) (hd:d<256):
  (ZkK (B (Zft s a d [b1,b2,b3,b4,b5,b6,b7,b8,b9,b10,b11,b12,b13,b14]))).val=some (((s:Int),(a:Int),(d:Int),b1,b2,b3,b4,b5,b6,b7,b8,b9,b10,b11,b12,b13,b14),true):=by
 obtain⟨bl,hbl⟩:∃bl:List Bool,bl=[b1,b2,b3,b4,b5,b6,b7,b8,b9,b10,b11,b12,b13,b14]:=⟨_,rfl⟩;have hsp:Lib.splitB kS 0 (Lib.countB (B (Zft s a d bl)) kS) (B (Zft s a d bl))=_:=ZHB s a d bl ha hd;have hlen:=ZEP s a d bl;obtain⟨V,hV⟩:∃V,V=lvN bl pnN:=⟨_,rfl⟩;have hVl:V.length<=14:=by rw[hV];exact ZTE bl pnN
 have hW:Zmd s a d bl=stN.getD (s-1) []::(hex2 (a/256)++hex2 (a%256))::hex2 d::V:=by rw[hV];rfl
 have hrun2:=ZIf (B (Zft s a d bl)) V (s:Int) (a:Int) (d:Int) (by omega);have hbits:=ZXh b1 b2 b3 b4 b5 b6 b7 b8 b9 b10 b11 b12 b13 b14 (s:Int) (a:Int) (d:Int);rw[<-hbl,<-hV] at hbits;rw[hbits] at hrun2;rw[hW] at hsp;obtain⟨W,hWW⟩:∃W,W=stN.getD (s-1) []::(hex2 (a/256)++hex2 (a%256))::hex2 d::V:=⟨_,rfl⟩;have hrun1:=ZMY (B (Zft s a d bl)) W s h1 h2 (by rw[hWW];rfl) (by rw[hWW];simp) ((a:Int),(d:Int),false,false,false,false,false,false,false,false,false,false,false,false,false,false);have hWl:W.length=V.length+3:=by rw[hWW];simp
 rw[<-hWW] at hsp;have hml:List.length (W.map B)=V.length+3:=by rw[List.length_map,hWl]
 have g1:R.get R.str (W.map B) 1=B (hex2 (a/256)++hex2 (a%256)):=by have:=Zuw W 1;rw[hWW] at this|-;exact this
 have g2:R.get R.str (W.map B) 2=B (hex2 d):=by have:=Zuw W 2;rw[hWW] at this|-;exact this
 obtain⟨c1,v1⟩:=ZTz (hex2 (a/256)++hex2 (a%256)) (by simp[hex2]);obtain⟨c2,v2⟩:=ZTz (hex2 d) (by simp[hex2]);rw[ZRq a ha] at v1;rw[ZRr d hd] at v2;have w1:wrap .u16 (a:Int)=(a:Int):=by rw[Zls];omega
 have w2:wrap .u8 (d:Int)=(d:Int):=by rw[ZjS];omega
 have z1:ByteArray.size (B (hex2 (a/256)++hex2 (a%256)))=4:=Zro _;have z2:ByteArray.size (B (hex2 d))=2:=Zro _;have f1:Nat.ble (ByteArray.size (B (Zft s a d bl))) 1000000=true:=by rw[Zro,Yy];omega
 have f2:Nat.beq (ByteArray.size (kS)) 1=true:=rfl;have f3:decide ((0:Int)<=3)=true:=rfl;have f4:decide (3<=iN (V.length+3))=true:=by rw[Yf];show (3:Int)<=((V.length+3:Nat):Int);omega
 have f5:decide (iN (V.length+3)<=iN (V.length+3))=true:=by rw[Yf];exact Int.le_refl _
 have q1:decide (iN (V.length+3)<3)=false:=by rw[Y5];show ¬((V.length+3:Nat):Int)<3;omega
 have q2:Zh 1 (V.length+3)=true:=ZP.2 ⟨by omega,by omega⟩;have q3:Zh 2 (V.length+3)=true:=ZP.2 ⟨by omega,by omega⟩;have q4:decide (iN 4<=IntKind.max i64)=true:=by decide+kernel
 have q5:(iN 4 !=4)=false:=by decide+kernel
 have q6:decide (iN 2<=IntKind.max i64)=true:=by decide+kernel
 have q7:(iN 2 !=2)=false:=by decide+kernel
 have q9:((s:Int) !=0)=true:=by rw[bne_iff_ne];omega
 have hsub:subL (W.map B) 3 (iN (V.length+3))=V.map B:=by
  rw[hWW];show (((stN.getD (s-1) []::(hex2 (a/256)++hex2 (a%256))::hex2 d::V).map B).drop 3).take _=_;have:(V.length+3:Nat)-3=V.length:=by omega
  show (V.map B).take ((V.length+3:Nat)-3)=_;rw[this];exact YW (by rw[List.length_map];exact Ye _)
 obtain⟨x1,x2⟩:=ZYV s a d b1 b2 b3 b4 b5 b6 b7 b8 b9 b10 b11 b12 b13 b14 h1 h2 ha hd;rw[<-hbl] at x2;have hfin:(ByteArray.toList (Zyy (ZOF ((s:Int),(a:Int),(d:Int),b1,b2,b3,b4,b5,b6,b7,b8,b9,b10,b11,b12,b13,b14)))==ByteArray.toList (B (Zft s a d bl)))=true:=by rw[x2,ZCM];exact YaE _
 have hrun1':runF false ZeB (λ_=>1000000000000) (B (Zft s a d bl),W.map B,(ByteArray.mk #[116,49],ByteArray.mk #[116,50],ByteArray.mk #[116,51],ByteArray.mk #[116,52],ByteArray.mk #[116,53],ByteArray.mk #[116,54],ByteArray.mk #[116,119],ByteArray.mk #[116,104],ByteArray.mk #[116,104,97,108,116],ByteArray.mk #[116,114,101,115,101,116]),0,(0,(a:Int),(d:Int),false,false,false,false,false,false,false,false,false,false,false,false,false,false),())=_:=hrun1;rw[<-hbl];unfold ZkK;simp only[RT.val,hsp,hml,g1,g2,z1,z2,c1,c2,v1,v2,w1,w2,f1,f2,f3,f4,f5,decide_true,q1,q2,q3,q4,q5,q6,q7,hrun1',okB,getO,hsub,ZbO,ZaW,Yk,Yw,Yh,Ym,Yx,Yj,Y1,Ya,Yc];simp only[RT.val,hrun2,okB,getO,q9,x1,hfin,Yk,Yw,Yh,Ym,Yx,Yj,YQ,Y1,Ya,Yc];rfl
theorem ZUY (q:PINT) (h:okP q):ZuI (B (ZoW q))=true/\ZFc (B (ZoW q))=(q,true):=by
 obtain⟨s,a,d,h1,h2,h3,h4,hp⟩:=ZMR h;have hv:(ZkK (B (ZoW q))).val=some (q,true):=by
  have:=ZP6 s a d q.2.2.2.1 q.2.2.2.2.1 q.2.2.2.2.2.1 q.2.2.2.2.2.2.1 q.2.2.2.2.2.2.2.1 q.2.2.2.2.2.2.2.2.1 q.2.2.2.2.2.2.2.2.2.1 q.2.2.2.2.2.2.2.2.2.2.1 q.2.2.2.2.2.2.2.2.2.2.2.1 q.2.2.2.2.2.2.2.2.2.2.2.2.1 q.2.2.2.2.2.2.2.2.2.2.2.2.2.1 q.2.2.2.2.2.2.2.2.2.2.2.2.2.2.1 q.2.2.2.2.2.2.2.2.2.2.2.2.2.2.2.1 q.2.2.2.2.2.2.2.2.2.2.2.2.2.2.2.2 h1 h2 h3 h4;have e:ZoW q=Zft s a d (ZXi q):=by
   unfold ZoW;have e1:q.1.toNat=s:=by rw[hp];rfl
   have e2:q.2.1.toNat=a:=by rw[hp];rfl
   have e3:q.2.2.1.toNat=d:=by rw[hp];rfl
   rw[e1,e2,e3]
  rw[e];refine Eq.trans this ?_;exact congrArg (λx=>some (x,true)) hp.symm
 exact⟨by unfold ZuI;rw[hv];rfl,by unfold ZFc;rw[hv];rfl⟩
theorem ZWH (q:PINT) (h:okP q):(10:UInt8) ∉ ZoW q:=by obtain⟨⟨h1,h2⟩,h3,h4⟩:=h;rw[ZfV] at h3;rw[Zgc] at h4;exact ZWG _ _ _ _ (by omega) (by omega)
theorem ZYn (l:List PINT) (h:∀q∈l,okP q) (hl:l.length<=5000):ZFe (B (Zfb l))=true/\ZSj (B (Zfb l))=(l,0,0):=by
 have hms:most=1073741824:=rfl;have hr:=ZvH (fl:=false) ZjF (λi=>(B (Zfb (l.drop i.toNat)),i,0,l.take i.toNat,())) (λa=>a.2.1) l.length (λ_=>rfl)
  (λi hi=>by
   have hm:=h _ (Ya0 hi);obtain⟨r1,r2⟩:=ZUY _ hm;have hnl:=ZWH _ hm;obtain⟨w,hw⟩:∃w,w=ZoW l[i]:=⟨_,rfl⟩;obtain⟨r,hrr⟩:∃r,r=Zfb (l.drop (i+1)):=⟨_,rfl⟩;rw[<-hw] at r1 r2 hnl;have ht:Zfb (l.drop i)=w++10::r:=by rw[Yaa hi,hw,hrr];unfold Zfb;rw[List.flatMap_cons];simp
   have hlen:(w++10::r).length<=1000000:=by have:=ZrI (l.drop i);rw[ht,YO] at this;omega
   have hlw:w.length+1+r.length=(w++10::r).length:=by simp;omega
   have ht2:l.take i++[l[i]]=l.take (i+1):=by rw[Yak,Yg hi];rfl
   have hix:Lib.indexB (B (w++10::r)) kN=(w.length:Int):=ZHF 10 hnl;have hsz:ByteArray.size (B (w++10::r))=(w++10::r).length:=Zro _;have hnil:(ByteArray.toList (B (w++10::r))==ByteArray.toList (ByteArray.mk #[]))=false:=by
    rw[ZPk];have:ByteArray.toList (ByteArray.mk #[])=[]:=by simp
    rw[this];cases w<;>rfl
   have k0:Nat.beq (ByteArray.size kN) 1=true:=rfl;have k1:Nat.ble (w++10::r).length 4294967280=true:=by rw[Yy];omega
   have k2:decide (0<=(w.length:Int))=true:=by rw[Yf];omega
   have k2':decide ((w.length:Int)>=0)=true:=k2;have k3:decide ((w.length:Int)<=iN (w++10::r).length)=true:=by rw[Yf];show (w.length:Int)<=(((w++10::r).length:Nat):Int);omega
   have k4:wrap .i64 ((w.length:Int)+iN (ByteArray.size kN))=((w.length+1:Nat):Int):=by show wrap .i64 ((w.length:Int)+1)=_;rw[wrap_i64 _ (by omega) (by omega)];omega
   have k5:decide (iN (ByteArray.size kN)<=IntKind.max i64)=true:=by decide+kernel
   have k6:decide (0<=((w.length+1:Nat):Int))=true:=by rw[Yf];omega
   have k7:decide (((w.length+1:Nat):Int)<=iN (w++10::r).length)=true:=by rw[Yf];show ((w.length+1:Nat):Int)<=(((w++10::r).length:Nat):Int);omega
   have k8:decide (iN (w++10::r).length<=iN (w++10::r).length)=true:=by rw[Yf];exact Int.le_refl _
   have k9:decide ((0:Int)<=0)=true:=rfl;have x1:ByteArray.extract (B (w++10::r)) (Int.toNat 0) (Int.toNat (w.length:Int))=B w:=by rw[ZZt];show B ((w++10::r).take w.length)=_;rw[List.take_left]
   have x2:ByteArray.extract (B (w++10::r)) (Int.toNat ((w.length+1:Nat):Int)) (Int.toNat (iN (w++10::r).length))=B r:=by
    rw[ZZt];show B (((w++10::r).drop (w.length+1)).take ((w++10::r).length-(w.length+1)))=_;have e1:(w++10::r).drop (w.length+1)=r:=by rw[List.drop_append];simp
    rw[e1,YW (by omega)]
   have x3:Nat.ble (List.length (l.take i++[l[i]])) most=true:=by rw[ht2,Yy,YH];omega
   have x4:wrap .i64 ((i:Int)+1)=((i+1:Nat):Int):=by rw[wrap_i64 _ (by omega) (by omega)];omega
   have d1:decide (iN (ByteArray.size kN)<=IntKind.max i64)=true:=k5;simp only[Int.toNat_natCast];rw[ht,<-hrr];unfold ZjF;simp only[RT.val,hix,hsz,hnil,k0,k1,k2,k2',k3,k4,k5,k6,k7,k8,k9,x1,x2,r1,r2,x3,x4,ZbO,ZaW,Yk,Yw,Yh,Ym,Yx,Yj,Y1,YQ,Ya,Yc];rw[ht2]
   rfl)
  (by
   have e:Zfb (l.drop (Int.toNat ((l.length:Nat):Int)))=[]:=by rw[Int.toNat_natCast,List.drop_length];rfl
   have hnil:(ByteArray.toList (B [])==ByteArray.toList (ByteArray.mk #[]))=true:=YaE _;simp only[e];unfold ZjF
   simp only[RT.val,hnil,Yh,Yc]) (by omega)
 have e0:l.drop (Int.toNat 0)=l:=rfl;have e1:l.take (Int.toNat 0)=[]:=rfl;have e2:l.take (Int.toNat ((l.length:Nat):Int))=l:=by rw[Int.toNat_natCast,YaN]
 simp only[e0,e1,e2] at hr;have hv:(ZxU (B (Zfb l))).val=some (l,0,0):=by unfold ZxU;simp only[RT.val];rw[hr];rfl
 exact⟨by unfold ZFe;rw[hv];rfl,by unfold ZSj;rw[hv];rfl⟩
end
end Go.Proofs.YteaflmalcclnoaaGreatDoor
open Go Go.S3 Go.Proofs Go.Proofs.Cells Go.Proofs.Wd
namespace Go.Proofs.YteaflmalcclnoaaGreatDoor
noncomputable section
theorem ZNC:ZPH=true/\tpKn=true:=lval9 (t:=ZPG) (by kernel_rfl)
theorem ZWw (n:List Int) (k:Nat) (hk:k<=250):Zmz n (k:Int)=true/\smG (ZaH n (k:Int)).1.2.1=true/\(ZaH n (k:Int)).1.2.2.2.2.2.2.length<=200/\(ZaH n (k:Int)).2.length<=4*k/\wNew (ZaH n (k:Int)).1=(newS (ZaH n (k:Int)).1,0):=by
 obtain⟨c1,b1,⟨s1,bs1,hr⟩,hch,_,l,hl,hi⟩:=Zw5 (ZOa n) (by omega);obtain⟨c2,_,l2⟩:=ZBn bs1 (by omega);obtain⟨c3,b3,l3,_⟩:=ZHn b1 (by omega) k hk;have hv:(Zmy n (k:Int)).val=some ((Zcs (n,0)).1,(ZgO (Zcs (n,0)).2 (k:Int)).1):=by simp only[Zmy,RT.val,c1,c3,Ya]
 have e:ZaH n (k:Int)=((Zcs (n,0)).1,(ZgO (Zcs (n,0)).2 (k:Int)).1):=by simp only[ZaH,hv,getO]
 have hg:smG (Zcs (n,0)).1.2.1=true:=by rw[hr];exact smGb (by omega)
 have hil:(Zcs (n,0)).1.2.2.2.2.2.2.length<=200:=by rw[hi];exact YD (Zeo l) hl
 rw[e];refine⟨by simp only[Zmz,hv,okB],hg,hil,l3,ZMX _ hg (YD hil (by omega)) ?_⟩;rw[(Zyk _ hg (YD hil (by omega))).2.1,ZUR];rfl
theorem tdmp_law (n:List Int):ZNB n=true/\ZWJ n=true:=by
 have hms:=mst;have hv:(Zq4 n).val=some true:=by
  cases hx:decide (iN (List.length n)>250)
  ·obtain⟨s1,s2,s3,s4,s5⟩:=ZWw n 40 (by omega);have s1:Zmz n 40=true:=s1;have s2:smG (ZaH n 40).1.2.1=true:=s2;have s3:(ZaH n 40).1.2.2.2.2.2.2.length<=200:=s3;have s4:(ZaH n 40).2.length<=4*40:=s4;have s5:wNew (ZaH n 40).1=(newS (ZaH n 40).1,0):=s5;obtain⟨b,hb⟩:∃b,(ZaH n 40).1=b:=⟨_,rfl⟩;obtain⟨x,hx2⟩:∃x,(ZaH n 40).2=x:=⟨_,rfl⟩;rw[hb] at s2 s3 s5;rw[hx2] at s4;have hld:=dec_len x;have hroom:ZvJ b x=true:=by simp only[ZvJ,Yb,Yy];exact⟨s2,by omega,by omega⟩
   obtain⟨q,hq1,hq2⟩:∃q,runV b (decX x)=q/\(q.2=0/\(∀p∈q.1.1,okP p)/\q.1.1.length<=1000/\expP b.1 q.1.2.1=q.1.1):=by
    refine⟨_,rfl,?_⟩;rcases ZFH b (decX x) with ⟨h1,h2⟩|h1
    ·rw[h1];obtain⟨g1,g2⟩:=ZPZ b (decX x) s2 (by omega) (by omega);obtain⟨t,ht,htl⟩:=ZOd b (ZaO b) (decX x) (Zck b);have hrun:=ZP0 b (decX x) s5;have htr:(ZdH b (decX x)).1.1.length=(decX x).length:=by rw[hrun];show (endS _ _).1.length=_;rw[(ZZe _ _).1,ht];show ([]++t).length=_;rw[List.nil_append,htl]
     have e0:(ZdH b (decX x)).2=0:=by rw[hrun]
     have x1:=ZR6 g2 b.1;rw[g1] at x1;refine⟨e0,λp hp=>⟨?_,h2 p hp⟩,by omega,x1⟩;have:=ZWZ g2 b.1;rw[g1] at this;exact this p hp
    ·rw[h1];exact⟨rfl,λp hp=>absurd hp (List.not_mem_nil),Yr _,rfl⟩
   obtain⟨hq3,hq4,hq5,hq6⟩:=hq2;obtain⟨f1,f2⟩:=ZY9 q.1.1 hq4 (by omega);obtain⟨p1,p2⟩:=ZYn q.1.1 hq4 (by omega);obtain⟨m1,m2⟩:=ZUQ q.1.1 (by omega);have hble:Nat.ble (List.length q.1.1) most=true:=Zby (by omega);simp only[Zq4,RT.val,hx,hb,hx2,s1,hroom,hq1,hq3,hq6,f1,f2,p1,p2,m1,m2,hble,ZNC.1,ZNC.2,ZbO,ZaW,YaE,Yk,Yw,Yh,Ym,YaS,Yx,Yj,Y1,Ya,Yc]
  ·simp only[Zq4,RT.val,hx,ZNC.1,Yh,Yj,Ya]
 exact⟨by simp only[ZNB,hv];rfl,by simp only[ZWJ,hv,getO]⟩
