import Derived.Test.YtghoimllhpjkjaaGreatPinsEq
open Go.Proofs.Tryz (prog)
open Go.IntKind (u8 u16 i64)
set_option linter.unusedSimpArgs false
open Go Go.S3 Go.Proofs
set_option linter.unusedVariables false
set_option maxRecDepth 100000
namespace Go.Proofs.YtghoimllhpjkjaaGreat
noncomputable section
def Zk:En:=.tree (ZaB (envX prog [] [] 255 8) Tryz.f162)
theorem ZQ:Zd prog 162 Zk:=Zb1 (P:=prog) (n:=255) (k:=8) (l:=[]) (ol:=[]) trivial Tryz.func162 rfl (by kernel_rfl) Tryz.call162 trivial
def Z7:En:=.tree (ZaB (envX prog [(162,Zk)] [] 15 8) Tryz.f105)
theorem Za3:Zd prog 105 Z7:=Zb1 (P:=prog) (n:=15) (k:=8) (l:=[(162,Zk)]) (ol:=[]) ⟨ZQ,Tv⟩ Tryz.func105 rfl (by kernel_rfl) Tryz.call105 trivial
def ZC:En:=.tree (ZaB (envX prog [(162,Zk)] [] 31 8) Tryz.f164)
theorem ZaJ:Zd prog 164 ZC:=Zb1 (P:=prog) (n:=31) (k:=8) (l:=[(162,Zk)]) (ol:=[]) ⟨ZQ,Tv⟩ Tryz.func164 rfl (by kernel_rfl) Tryz.call164 trivial
def Zay:En:=.tree (ZaB (envX prog [(162,Zk)] [] 31 8) Tryz.f167)
theorem ZcF:Zd prog 167 Zay:=Zb1 (P:=prog) (n:=31) (k:=8) (l:=[(162,Zk)]) (ol:=[]) ⟨ZQ,Tv⟩ Tryz.func167 rfl (by kernel_rfl) Tryz.call167 trivial
def Zam:En:=.tree (ZaB (envX prog [(146,rOnE),(164,ZC),(169,Zgh)] [] 15 8) Tryz.f168)
theorem Zci:Zd prog 168 Zam:=Zb1 (P:=prog) (n:=15) (k:=8) (l:=[(146,rOnE),(164,ZC),(169,Zgh)]) (ol:=[]) ⟨Zde,ZaJ,Zll,Tv⟩ Tryz.func168 rfl (by kernel_rfl) Tryz.call168 trivial
def ZaF:En:=.tree (ZaB (envX prog [(162,Zk)] [] 3 8) Tryz.f170)
theorem ZcW:Zd prog 170 ZaF:=Zb1 (P:=prog) (n:=3) (k:=8) (l:=[(162,Zk)]) (ol:=[]) ⟨ZQ,Tv⟩ Tryz.func170 rfl (by kernel_rfl) Tryz.call170 trivial
def Zbi:En:=.tree (ZaB (envX prog [(105,Z7),(146,rOnE),(153,mAtE),(157,ZfB),(158,ZeQ),(162,Zk),(163,ZkH),(164,ZC),(165,Zlk),(166,ZeO),(167,Zay),(168,Zam),(169,Zgh),(170,ZaF),(171,ZDO),(172,ZkE)] [] 546879438939764547011187383507185256060619065560359097919357232620146805215141852592455017411118079 8) Tryz.f106)
theorem ZcG:Zd prog 106 Zbi:=Zb1 (P:=prog) (n:=546879438939764547011187383507185256060619065560359097919357232620146805215141852592455017411118079) (k:=8) (l:=[(105,Z7),(146,rOnE),(153,mAtE),(157,ZfB),(158,ZeQ),(162,Zk),(163,ZkH),(164,ZC),(165,Zlk),(166,ZeO),(167,Zay),(168,Zam),(169,Zgh),(170,ZaF),(171,ZDO),(172,ZkE)]) (ol:=[]) ⟨Za3,Zde,ZsO,ZhV,ZgO,ZQ,ZoA,ZaJ,ZpN,ZjO,ZcF,Zci,Zll,ZcW,ZHI,ZgQ,Tv⟩ Tryz.func106 rfl (by kernel_rfl) Tryz.call106 trivial
abbrev Zp:List Sh:=[Sh.agg ZW,Sh.one (R.int i64),Sh.one (R.sl (R.int u8))]
abbrev Zvk:Rs:=Rs.tup [Sh.agg (RY),Sh.one R.bool]
def ZD0 (k:Int):List (FuncId×En):=[(104,Zfr),(105,Z7),(106,Zbi),(107,ZEA k)]
theorem ZDZ (k:Int):Zez prog (ZD0 k):=⟨ZeT,Za3,ZcG,(Zyk k),Tv⟩
abbrev EV1 (k:Int) (a:HL Zp):=Ze7 (envX prog (ZD0 k) [] 2047 8) Tryz.f42 Zp Zvk a
end
end Go.Proofs.YtghoimllhpjkjaaGreat
