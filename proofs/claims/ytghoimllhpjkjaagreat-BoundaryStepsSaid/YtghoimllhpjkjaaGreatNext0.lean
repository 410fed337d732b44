import Derived.Test.YtghoimllhpjkjaaGreatPinsEq
open Go.Proofs.Tryz (prog)
open Go.IntKind (u8 u16 i64)
set_option linter.unusedSimpArgs false
open Go Go.S3 Go.Proofs
set_option linter.unusedVariables false
set_option maxRecDepth 100000
namespace Go.Proofs.YtghoimllhpjkjaaGreat
noncomputable section
def Zdr (k:Int):En:=.tree (ZO (envX prog [(182,ZyN k),(222,qAtE)] [] 255 8) Tryz.f178)
theorem ZfH (k:Int):Za prog 178 (Zdr k):=Zaf (P:=prog) (n:=255) (k:=8) (l:=[(182,ZyN k),(222,qAtE)]) (ol:=[]) ⟨(ZHF k),ZiU,Tv⟩ Tryz.func178 rfl (by kernel_rfl) Tryz.call178 trivial
def Zm:En:=.tree (ZO (envX prog [] [] 255 8) Tryz.f230)
theorem ZZ:Za prog 230 Zm:=Zaf (P:=prog) (n:=255) (k:=8) (l:=[]) (ol:=[]) trivial Tryz.func230 rfl (by kernel_rfl) Tryz.call230 trivial
def Zbm:En:=.tree (ZO (envX prog [(230,Zm)] [] 15 8) Tryz.f180)
theorem ZcU:Za prog 180 Zbm:=Zaf (P:=prog) (n:=15) (k:=8) (l:=[(230,Zm)]) (ol:=[]) ⟨ZZ,Tv⟩ Tryz.func180 rfl (by kernel_rfl) Tryz.call180 trivial
def ZF:En:=.tree (ZO (envX prog [(230,Zm)] [] 31 8) Tryz.f233)
theorem Zat:Za prog 233 ZF:=Zaf (P:=prog) (n:=31) (k:=8) (l:=[(230,Zm)]) (ol:=[]) ⟨ZZ,Tv⟩ Tryz.func233 rfl (by kernel_rfl) Tryz.call233 trivial
def Zay:En:=.tree (ZO (envX prog [(230,Zm)] [] 63 8) Tryz.f237)
theorem ZcK:Za prog 237 Zay:=Zaf (P:=prog) (n:=63) (k:=8) (l:=[(230,Zm)]) (ol:=[]) ⟨ZZ,Tv⟩ Tryz.func237 rfl (by kernel_rfl) Tryz.call237 trivial
def Za4:En:=.tree (ZO (envX prog [(230,Zm),(233,ZF),(237,Zay),(270,ZnV)] [] 268570631 8) Tryz.f235)
theorem ZdQ:Za prog 235 Za4:=Zaf (P:=prog) (n:=268570631) (k:=8) (l:=[(230,Zm),(233,ZF),(237,Zay),(270,ZnV)]) (ol:=[]) ⟨ZZ,Zat,ZcK,Zum,Tv⟩ Tryz.func235 rfl (by kernel_rfl) Tryz.call235 trivial
def Zci:En:=.tree (ZO (envX prog [(233,ZF),(280,Zh0)] [] 15 8) Tryz.f288)
theorem Zf1:Za prog 288 Zci:=Zaf (P:=prog) (n:=15) (k:=8) (l:=[(233,ZF),(280,Zh0)]) (ol:=[]) ⟨Zat,ZnS,Tv⟩ Tryz.func288 rfl (by kernel_rfl) Tryz.call288 trivial
def Zcv:En:=.tree (ZO (envX prog [(230,Zm)] [] 3 8) Tryz.f289)
theorem ZgN:Za prog 289 Zcv:=Zaf (P:=prog) (n:=3) (k:=8) (l:=[(230,Zm)]) (ol:=[]) ⟨ZZ,Tv⟩ Tryz.func289 rfl (by kernel_rfl) Tryz.call289 trivial
def Zcj:En:=.tree (ZO (envX prog [(230,Zm)] [] 15 8) Tryz.f291)
theorem Zf2:Za prog 291 Zcj:=Zaf (P:=prog) (n:=15) (k:=8) (l:=[(230,Zm)]) (ol:=[]) ⟨ZZ,Tv⟩ Tryz.func291 rfl (by kernel_rfl) Tryz.call291 trivial
def ZaV:En:=.tree (ZO (envX prog [(180,Zbm),(223,ZiT),(230,Zm),(231,Zgw),(233,ZF),(280,Zh0),(288,Zci),(289,Zcv),(290,ZQK),(291,Zcj)] [] 1517844491342638470129438826421819271357141255 8) Tryz.f238)
theorem Zdx:Za prog 238 ZaV:=Zaf (P:=prog) (n:=1517844491342638470129438826421819271357141255) (k:=8) (l:=[(180,Zbm),(223,ZiT),(230,Zm),(231,Zgw),(233,ZF),(280,Zh0),(288,Zci),(289,Zcv),(290,ZQK),(291,Zcj)]) (ol:=[]) ⟨ZcU,Zrw,ZZ,ZiO,Zat,ZnS,Zf1,ZgN,ZVn,Zf2,Tv⟩ Tryz.func238 rfl (by kernel_rfl) Tryz.call238 trivial
def ZdI:En:=.tree (ZO (envX prog [(222,qAtE),(230,Zm),(231,Zgw),(232,Zyo),(233,ZF),(234,ZnW),(235,Za4),(236,Zu1),(237,Zay),(238,ZaV)] [] 2854495396045824897803138545268610783927869455 8) Tryz.f181)
theorem Zf3:Za prog 181 ZdI:=Zaf (P:=prog) (n:=2854495396045824897803138545268610783927869455) (k:=8) (l:=[(222,qAtE),(230,Zm),(231,Zgw),(232,Zyo),(233,ZF),(234,ZnW),(235,Za4),(236,Zu1),(237,Zay),(238,ZaV)]) (ol:=[]) ⟨ZiU,ZZ,ZiO,Zul,Zat,ZCt,ZdQ,ZyJ,ZcK,Zdx,Tv⟩ Tryz.func181 rfl (by kernel_rfl) Tryz.call181 trivial
abbrev ZB:List Sh:=[Sh.agg Zt,Sh.one (R.int i64),Sh.one (R.sl (R.int u8))]
abbrev ZDv:Rs:=Rs.tup [Sh.agg (RY),Sh.one R.bool]
def ZQT (k:Int):List (FuncId×En):=[(176,Zka),(178,Zdr k),(180,Zbm),(181,ZdI)]
theorem ZQS (k:Int):Zdg prog (ZQT k):=⟨ZkQ,(ZfH k),ZcU,Zf3,Tv⟩
abbrev EV1 (k:Int) (a:HL ZB):=ZeW (envX prog (ZQT k) [] 1125900980585471 8) Tryz.f113 ZB ZDv a
def Zo:En:=.tree (ZO (envX prog [] [] 255 8) Tryz.f162)
theorem Z6:Za prog 162 Zo:=Zaf (P:=prog) (n:=255) (k:=8) (l:=[]) (ol:=[]) trivial Tryz.func162 rfl (by kernel_rfl) Tryz.call162 trivial
def Zam:En:=.tree (ZO (envX prog [(162,Zo)] [] 15 8) Tryz.f105)
theorem ZbE:Za prog 105 Zam:=Zaf (P:=prog) (n:=15) (k:=8) (l:=[(162,Zo)]) (ol:=[]) ⟨Z6,Tv⟩ Tryz.func105 rfl (by kernel_rfl) Tryz.call105 trivial
def ZT:En:=.tree (ZO (envX prog [(162,Zo)] [] 31 8) Tryz.f164)
theorem Zbf:Za prog 164 ZT:=Zaf (P:=prog) (n:=31) (k:=8) (l:=[(162,Zo)]) (ol:=[]) ⟨Z6,Tv⟩ Tryz.func164 rfl (by kernel_rfl) Tryz.call164 trivial
def ZaU:En:=.tree (ZO (envX prog [(162,Zo)] [] 31 8) Tryz.f167)
theorem Zdv:Za prog 167 ZaU:=Zaf (P:=prog) (n:=31) (k:=8) (l:=[(162,Zo)]) (ol:=[]) ⟨Z6,Tv⟩ Tryz.func167 rfl (by kernel_rfl) Tryz.call167 trivial
def ZaG:En:=.tree (ZO (envX prog [(146,rOnE),(164,ZT),(169,Zh6)] [] 15 8) Tryz.f168)
theorem Zc8:Za prog 168 ZaG:=Zaf (P:=prog) (n:=15) (k:=8) (l:=[(146,rOnE),(164,ZT),(169,Zh6)]) (ol:=[]) ⟨Zei,Zbf,Zpm,Tv⟩ Tryz.func168 rfl (by kernel_rfl) Tryz.call168 trivial
def Za3:En:=.tree (ZO (envX prog [(162,Zo)] [] 3 8) Tryz.f170)
theorem ZdP:Za prog 170 Za3:=Zaf (P:=prog) (n:=3) (k:=8) (l:=[(162,Zo)]) (ol:=[]) ⟨Z6,Tv⟩ Tryz.func170 rfl (by kernel_rfl) Tryz.call170 trivial
def ZbZ:En:=.tree (ZO (envX prog [(105,Zam),(146,rOnE),(153,mAtE),(157,Zhk),(158,Zgq),(162,Zo),(163,ZnM),(164,ZT),(165,Zpk),(166,Zgm),(167,ZaU),(168,ZaG),(169,Zh6),(170,Za3),(171,ZOX),(172,ZnJ)] [] 546879438939764547011187383507185256060619065560359097919357232620146805215141852592455017411118079 8) Tryz.f106)
theorem Zdw:Za prog 106 ZbZ:=Zaf (P:=prog) (n:=546879438939764547011187383507185256060619065560359097919357232620146805215141852592455017411118079) (k:=8) (l:=[(105,Zam),(146,rOnE),(153,mAtE),(157,Zhk),(158,Zgq),(162,Zo),(163,ZnM),(164,ZT),(165,Zpk),(166,Zgm),(167,ZaU),(168,ZaG),(169,Zh6),(170,Za3),(171,ZOX),(172,ZnJ)]) (ol:=[]) ⟨ZbE,Zei,Zzk,Zkj,ZiH,Z6,ZtB,Zbf,ZvY,ZmS,Zdv,Zc8,Zpm,ZdP,ZUK,ZiK,Tv⟩ Tryz.func106 rfl (by kernel_rfl) Tryz.call106 trivial
abbrev ZA:List Sh:=[Sh.agg Zt,Sh.one (R.int i64),Sh.one (R.sl (R.int u8))]
abbrev ZB3:Rs:=Rs.tup [Sh.agg (RY),Sh.one R.bool]
def ZO8 (k:Int):List (FuncId×En):=[(104,Zhb),(105,Zam),(106,ZbZ),(107,ZPI k)]
theorem ZO7 (k:Int):Zdg prog (ZO8 k):=⟨Zgt,ZbE,Zdw,(ZGW k),Tv⟩
abbrev EV3 (k:Int) (a:HL ZA):=ZeW (envX prog (ZO8 k) [] 2047 8) Tryz.f42 ZA ZB3 a
end
end Go.Proofs.YtghoimllhpjkjaaGreat
