import Derived.Test.YtghoimllhpjkjaaGreatS3D
import Derived.Test.YtghoimllhpjkjaaGreatProg
import Derived.Test.YtghoimllhpjkjaaGreatPinsEq
open Go.Proofs.Tryz (prog)
open Go.IntKind (u8 u16 i64)
set_option linter.unusedSimpArgs false
open Go Go.S3 Go.Proofs
set_option linter.unusedVariables false
set_option maxRecDepth 100000
namespace Go.Proofs.YtghoimllhpjkjaaGreat
noncomputable section
def Zdn (k:Int):Entry:=.tree (ZS (envX prog [(182,Zyp k),(222,qAtE)] [] 255 8) Tryz.f178)
theorem Zfz (k:Int):Za prog 178 (Zdn k):=Zaq (P:=prog) (n:=255) (k:=8) (l:=[(182,Zyp k),(222,qAtE)]) (ol:=[]) ⟨(ZGU k),ZiW,Tv⟩ Tryz.func178 rfl (by kernel_rfl) Tryz.call178 trivial
def Zq:Entry:=.tree (ZS (envX prog [] [] 255 8) Tryz.f230)
theorem ZX:Za prog 230 Zq:=Zaq (P:=prog) (n:=255) (k:=8) (l:=[]) (ol:=[]) trivial Tryz.func230 rfl (by kernel_rfl) Tryz.call230 trivial
def Zbm:Entry:=.tree (ZS (envX prog [(230,Zq)] [] 15 8) Tryz.f180)
theorem ZcU:Za prog 180 Zbm:=Zaq (P:=prog) (n:=15) (k:=8) (l:=[(230,Zq)]) (ol:=[]) ⟨ZX,Tv⟩ Tryz.func180 rfl (by kernel_rfl) Tryz.call180 trivial
def ZD:Entry:=.tree (ZS (envX prog [(230,Zq)] [] 31 8) Tryz.f233)
theorem Zat:Za prog 233 ZD:=Zaq (P:=prog) (n:=31) (k:=8) (l:=[(230,Zq)]) (ol:=[]) ⟨ZX,Tv⟩ Tryz.func233 rfl (by kernel_rfl) Tryz.call233 trivial
def Zay:Entry:=.tree (ZS (envX prog [(230,Zq)] [] 63 8) Tryz.f237)
theorem ZcH:Za prog 237 Zay:=Zaq (P:=prog) (n:=63) (k:=8) (l:=[(230,Zq)]) (ol:=[]) ⟨ZX,Tv⟩ Tryz.func237 rfl (by kernel_rfl) Tryz.call237 trivial
def Za7:Entry:=.tree (ZS (envX prog [(230,Zq),(233,ZD),(237,Zay),(270,ZnL)] [] 268570631 8) Tryz.f235)
theorem ZdL:Za prog 235 Za7:=Zaq (P:=prog) (n:=268570631) (k:=8) (l:=[(230,Zq),(233,ZD),(237,Zay),(270,ZnL)]) (ol:=[]) ⟨ZX,Zat,ZcH,Zue,Tv⟩ Tryz.func235 rfl (by kernel_rfl) Tryz.call235 trivial
def Zca:Entry:=.tree (ZS (envX prog [(233,ZD),(280,ZhU)] [] 15 8) Tryz.f288)
theorem ZfY:Za prog 288 Zca:=Zaq (P:=prog) (n:=15) (k:=8) (l:=[(233,ZD),(280,ZhU)]) (ol:=[]) ⟨Zat,ZnJ,Tv⟩ Tryz.func288 rfl (by kernel_rfl) Tryz.call288 trivial
def Zco:Entry:=.tree (ZS (envX prog [(230,Zq)] [] 3 8) Tryz.f289)
theorem ZgG:Za prog 289 Zco:=Zaq (P:=prog) (n:=3) (k:=8) (l:=[(230,Zq)]) (ol:=[]) ⟨ZX,Tv⟩ Tryz.func289 rfl (by kernel_rfl) Tryz.call289 trivial
def Zcb:Entry:=.tree (ZS (envX prog [(230,Zq)] [] 15 8) Tryz.f291)
theorem ZfZ:Za prog 291 Zcb:=Zaq (P:=prog) (n:=15) (k:=8) (l:=[(230,Zq)]) (ol:=[]) ⟨ZX,Tv⟩ Tryz.func291 rfl (by kernel_rfl) Tryz.call291 trivial
def ZaX:Entry:=.tree (ZS (envX prog [(180,Zbm),(223,ZiV),(230,Zq),(231,Zgo),(233,ZD),(280,ZhU),(288,Zca),(289,Zco),(290,ZPK),(291,Zcb)] [] 1517844491342638470129438826421819271357141255 8) Tryz.f238)
theorem Zdu:Za prog 238 ZaX:=Zaq (P:=prog) (n:=1517844491342638470129438826421819271357141255) (k:=8) (l:=[(180,Zbm),(223,ZiV),(230,Zq),(231,Zgo),(233,ZD),(280,ZhU),(288,Zca),(289,Zco),(290,ZPK),(291,Zcb)]) (ol:=[]) ⟨ZcU,Zrn,ZX,ZiQ,Zat,ZnJ,ZfY,ZgG,ZUc,ZfZ,Tv⟩ Tryz.func238 rfl (by kernel_rfl) Tryz.call238 trivial
def ZdD:Entry:=.tree (ZS (envX prog [(222,qAtE),(230,Zq),(231,Zgo),(232,Zx2),(233,ZD),(234,ZnM),(235,Za7),(236,ZuP),(237,Zay),(238,ZaX)] [] 2854495396045824897803138545268610783927869455 8) Tryz.f181)
theorem Zf0:Za prog 181 ZdD:=Zaq (P:=prog) (n:=2854495396045824897803138545268610783927869455) (k:=8) (l:=[(222,qAtE),(230,Zq),(231,Zgo),(232,Zx2),(233,ZD),(234,ZnM),(235,Za7),(236,ZuP),(237,Zay),(238,ZaX)]) (ol:=[]) ⟨ZiW,ZX,ZiQ,Zud,Zat,ZBW,ZdL,Zyl,ZcH,Zdu,Tv⟩ Tryz.func181 rfl (by kernel_rfl) Tryz.call181 trivial
abbrev Zk:List Sh:=[Sh.agg Zx,Sh.one (R.int i64),Sh.one (R.sl (R.int u8))]
abbrev ZG:Rs:=Rs.tup [Sh.agg (RY),Sh.one R.bool]
def Z3 (k:Int):List (FuncId×Entry):=[(176,Zj8),(178,Zdn k),(180,Zbm),(181,ZdD)]
theorem ZPS (k:Int):Zde prog (Z3 k):=⟨ZkN,(Zfz k),ZcU,Zf0,Tv⟩
def Zs:Entry:=.tree (ZS (envX prog [] [] 255 8) Tryz.f162)
theorem Z5:Za prog 162 Zs:=Zaq (P:=prog) (n:=255) (k:=8) (l:=[]) (ol:=[]) trivial Tryz.func162 rfl (by kernel_rfl) Tryz.call162 trivial
def Zao:Entry:=.tree (ZS (envX prog [(162,Zs)] [] 15 8) Tryz.f105)
theorem ZbC:Za prog 105 Zao:=Zaq (P:=prog) (n:=15) (k:=8) (l:=[(162,Zs)]) (ol:=[]) ⟨Z5,Tv⟩ Tryz.func105 rfl (by kernel_rfl) Tryz.call105 trivial
def ZT:Entry:=.tree (ZS (envX prog [(162,Zs)] [] 31 8) Tryz.f164)
theorem Zbf:Za prog 164 ZT:=Zaq (P:=prog) (n:=31) (k:=8) (l:=[(162,Zs)]) (ol:=[]) ⟨Z5,Tv⟩ Tryz.func164 rfl (by kernel_rfl) Tryz.call164 trivial
def ZaW:Entry:=.tree (ZS (envX prog [(162,Zs)] [] 31 8) Tryz.f167)
theorem Zds:Za prog 167 ZaW:=Zaq (P:=prog) (n:=31) (k:=8) (l:=[(162,Zs)]) (ol:=[]) ⟨Z5,Tv⟩ Tryz.func167 rfl (by kernel_rfl) Tryz.call167 trivial
def ZaI:Entry:=.tree (ZS (envX prog [(146,rOnE),(164,ZT),(169,Zh0)] [] 15 8) Tryz.f168)
theorem Zc6:Za prog 168 ZaI:=Zaq (P:=prog) (n:=15) (k:=8) (l:=[(146,rOnE),(164,ZT),(169,Zh0)]) (ol:=[]) ⟨Zd9,Zbf,Zpd,Tv⟩ Tryz.func168 rfl (by kernel_rfl) Tryz.call168 trivial
def Za6:Entry:=.tree (ZS (envX prog [(162,Zs)] [] 3 8) Tryz.f170)
theorem ZdK:Za prog 170 Za6:=Zaq (P:=prog) (n:=3) (k:=8) (l:=[(162,Zs)]) (ol:=[]) ⟨Z5,Tv⟩ Tryz.func170 rfl (by kernel_rfl) Tryz.call170 trivial
def ZbV:Entry:=.tree (ZS (envX prog [(105,Zao),(146,rOnE),(153,mAtE),(157,Zhd),(158,Zgj),(162,Zs),(163,ZnD),(164,ZT),(165,Zpb),(166,Zgf),(167,ZaW),(168,ZaI),(169,Zh0),(170,Za6),(171,ZN3),(172,ZnA)] [] 546879438939764547011187383507185256060619065560359097919357232620146805215141852592455017411118079 8) Tryz.f106)
theorem Zdt:Za prog 106 ZbV:=Zaq (P:=prog) (n:=546879438939764547011187383507185256060619065560359097919357232620146805215141852592455017411118079) (k:=8) (l:=[(105,Zao),(146,rOnE),(153,mAtE),(157,Zhd),(158,Zgj),(162,Zs),(163,ZnD),(164,ZT),(165,Zpb),(166,Zgf),(167,ZaW),(168,ZaI),(169,Zh0),(170,Za6),(171,ZN3),(172,ZnA)]) (ol:=[]) ⟨ZbC,Zd9,ZyU,Zki,ZiL,Z5,Ztt,Zbf,ZvL,ZmJ,Zds,Zc6,Zpd,ZdK,ZTB,ZiN,Tv⟩ Tryz.func106 rfl (by kernel_rfl) Tryz.call106 trivial
abbrev Zj:List Sh:=[Sh.agg Zx,Sh.one (R.int i64),Sh.one (R.sl (R.int u8))]
abbrev ZF:Rs:=Rs.tup [Sh.agg (RY),Sh.one R.bool]
def Z1 (k:Int):List (FuncId×Entry):=[(104,Zg3),(105,Zao),(106,ZbV),(107,ZOM k)]
theorem ZOd (k:Int):Zde prog (Z1 k):=⟨Zgm,ZbC,Zdt,(ZGb k),Tv⟩
end
end Go.Proofs.YtghoimllhpjkjaaGreat
