import Derived.Test.YtghoimllhpjkjaaGreatPinsEq
open Go.Proofs.Tryz (prog)
open Go.IntKind (u8 u16 i64)
set_option linter.unusedSimpArgs false
open Go Go.S3 Go.Proofs
set_option linter.unusedVariables false
set_option maxRecDepth 100000
namespace Go.Proofs.YtghoimllhpjkjaaGreat
noncomputable section
def Za5:En:=.tree (ZaB (envX prog [(157,ZfB),(165,Zlk),(169,Zgh)] [] 4722654783631989407807 8) Tryz.f154)
theorem Zck:Zd prog 154 Za5:=Zb1 (P:=prog) (n:=4722654783631989407807) (k:=8) (l:=[(157,ZfB),(165,Zlk),(169,Zgh)]) (ol:=[]) ⟨ZhV,ZpN,Zll,Tv⟩ Tryz.func154 rfl (by kernel_rfl) Tryz.call154 trivial
def Za4:En:=.tree (ZaB (envX prog [(153,mAtE),(158,ZeQ),(163,ZkH),(165,Zlk),(205,Zz2),(206,ZeP),(207,Zn9)] [] 89290093085330224515083647028849395745489151 8) Tryz.f155)
theorem Zcj:Zd prog 155 Za4:=Zb1 (P:=prog) (n:=89290093085330224515083647028849395745489151) (k:=8) (l:=[(153,mAtE),(158,ZeQ),(163,ZkH),(165,Zlk),(205,Zz2),(206,ZeP),(207,Zn9)]) (ol:=[]) ⟨ZsO,ZgO,ZoA,ZpN,Zuo,ZjP,Zz1,Tv⟩ Tryz.func155 rfl (by kernel_rfl) Tryz.call155 trivial
def ZaT:En:=.tree (ZaB (envX prog [(153,mAtE),(158,ZeQ),(163,ZkH),(166,ZeO),(205,Zz2),(206,ZeP),(208,rDoE),(209,ZKZ),(210,ZK7),(211,ZLa),(212,ZLc),(213,ZDt),(214,ZEx),(215,ZEM),(216,Zuv)] [] 7068251030063838779883004342589958256918126813077978922614622863581249535 8) Tryz.f156)
theorem Zb3:Zd prog 156 ZaT:=Zb1 (P:=prog) (n:=7068251030063838779883004342589958256918126813077978922614622863581249535) (k:=8) (l:=[(153,mAtE),(158,ZeQ),(163,ZkH),(166,ZeO),(205,Zz2),(206,ZeP),(208,rDoE),(209,ZKZ),(210,ZK7),(211,ZLa),(212,ZLc),(213,ZDt),(214,ZEx),(215,ZEM),(216,Zuv)]) (ol:=[]) ⟨ZsO,ZgO,ZoA,ZjO,Zuo,ZjP,ZMH,ZKY,ZK6,ZK9,ZLb,ZHu,ZHT,ZHY,ZDB,Tv⟩ Tryz.func156 rfl (by kernel_rfl) Tryz.call156 trivial
abbrev ZJ:List Sh:=[Sh.agg ZW,Sh.one (R.int i64),Sh.one (R.sl (R.int u8)),Sh.agg (R.Pq R.bool (R.Pq R.bool rcF7))]
abbrev ZEr:Rs:=Rs.one (Sh.agg ZW)
def ZK2 (k:Int):List (FuncId×En):=[(104,Zfr),(107,ZEA k),(152,Zxu),(153,mAtE),(154,Za5),(155,Za4),(156,ZaT),(157,ZfB),(158,ZeQ),(159,ZJg),(160,ZMp)]
theorem ZHS (k:Int):Zez prog (ZK2 k):=⟨ZeT,(Zyk k),ZzW,ZsO,Zck,Zcj,Zb3,ZhV,ZgO,ZHv,ZKO,Tv⟩
abbrev EV0 (k:Int) (a:HL ZJ):=Ze7 (envX prog (ZK2 k) [] 79250227772808467515411824639 8) Tryz.f98 ZJ ZEr a
end
end Go.Proofs.YtghoimllhpjkjaaGreat
