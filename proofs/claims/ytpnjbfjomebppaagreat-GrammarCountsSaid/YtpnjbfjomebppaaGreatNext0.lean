import Derived.Test.YtpnjbfjomebppaaGreatPinsEq
open Go.Proofs.Tryz (prog)
open Go.IntKind (u8 u16 i64)
set_option linter.unusedSimpArgs false
open Go Go.S3 Go.Proofs
set_option linter.unusedVariables false
set_option maxRecDepth 100000
namespace Go.Proofs.YtpnjbfjomebppaaGreat
noncomputable section
def Zm:En:=.tree (ZaH (envX prog [] [] 255 8) Tryz.f327)
theorem ZQ:Zd prog 327 Zm:=Zb3 (P:=prog) (n:=255) (k:=8) (l:=[]) (ol:=[]) trivial Tryz.func327 rfl (by kernel_rfl) Tryz.call327 trivial
def Zaa:En:=.tree (ZaH (envX prog [(327,Zm)] [] 15 8) Tryz.f247)
theorem Zbb:Zd prog 247 Zaa:=Zb3 (P:=prog) (n:=15) (k:=8) (l:=[(327,Zm)]) (ol:=[]) ⟨ZQ,Tv⟩ Tryz.func247 rfl (by kernel_rfl) Tryz.call247 trivial
def ZC:En:=.tree (ZaH (envX prog [(327,Zm)] [] 31 8) Tryz.f328)
theorem ZaT:Zd prog 328 ZC:=Zb3 (P:=prog) (n:=31) (k:=8) (l:=[(327,Zm)]) (ol:=[]) ⟨ZQ,Tv⟩ Tryz.func328 rfl (by kernel_rfl) Tryz.call328 trivial
def ZaG:En:=.tree (ZaH (envX prog [(327,Zm)] [] 31 8) Tryz.f329)
theorem ZcR:Zd prog 329 ZaG:=Zb3 (P:=prog) (n:=31) (k:=8) (l:=[(327,Zm)]) (ol:=[]) ⟨ZQ,Tv⟩ Tryz.func329 rfl (by kernel_rfl) Tryz.call329 trivial
def Zar:En:=.tree (ZaH (envX prog [(171,rOnE),(309,Zgv),(328,ZC)] [] 15 8) Tryz.f330)
theorem Zcr:Zd prog 330 Zar:=Zb3 (P:=prog) (n:=15) (k:=8) (l:=[(171,rOnE),(309,Zgv),(328,ZC)]) (ol:=[]) ⟨Zdq,ZlG,ZaT,Tv⟩ Tryz.func330 rfl (by kernel_rfl) Tryz.call330 trivial
def ZaO:En:=.tree (ZaH (envX prog [(327,Zm)] [] 3 8) Tryz.f331)
theorem Zc8:Zd prog 331 ZaO:=Zb3 (P:=prog) (n:=3) (k:=8) (l:=[(327,Zm)]) (ol:=[]) ⟨ZQ,Tv⟩ Tryz.func331 rfl (by kernel_rfl) Tryz.call331 trivial
def Zbr:En:=.tree (ZaH (envX prog [(171,rOnE),(239,mAtE),(243,ZfP),(244,Ze3),(247,Zaa),(309,Zgv),(310,ZlF),(311,Zk1),(316,Ze0),(325,ZkY),(327,Zm),(328,ZC),(329,ZaG),(330,Zar),(331,ZaO),(332,ZEv)] [] 546879438939764547011187383507185256060619065560359097919357232620146805215141852592455017411118079 8) Tryz.f248)
theorem ZcS:Zd prog 248 Zbr:=Zb3 (P:=prog) (n:=546879438939764547011187383507185256060619065560359097919357232620146805215141852592455017411118079) (k:=8) (l:=[(171,rOnE),(239,mAtE),(243,ZfP),(244,Ze3),(247,Zaa),(309,Zgv),(310,ZlF),(311,Zk1),(316,Ze0),(325,ZkY),(327,Zm),(328,ZC),(329,ZaG),(330,Zar),(331,ZaO),(332,ZEv)]) (ol:=[]) ⟨Zdq,Ztk,Zij,Zg5,Zbb,ZlG,Zqg,Zo1,Zj7,Zg7,ZQ,ZaT,ZcR,Zcr,Zc8,ZIu,Tv⟩ Tryz.func248 rfl (by kernel_rfl) Tryz.call248 trivial
abbrev Zr:List Sh:=[Sh.agg ZX,Sh.one (R.int i64),Sh.one (R.sl (R.int u8))]
abbrev ZvR:Rs:=Rs.tup [Sh.agg (RY),Sh.one R.bool]
def ZEH (k:Int):List (FuncId×En):=[(236,ZfD),(238,ZFh k),(247,Zaa),(248,Zbr)]
theorem ZEG (k:Int):ZeK prog (ZEH k):=⟨Ze6,(ZyV k),Zbb,ZcS,Tv⟩
abbrev EV1 (k:Int) (a:HL Zr):=Zfk (envX prog (ZEH k) [] 2047 8) Tryz.f166 Zr ZvR a
end
end Go.Proofs.YtpnjbfjomebppaaGreat
