import Derived.Test.YtpnjbfjomebppaaGreatPinsEq
open Go.Proofs.Tryz (prog)
open Go.IntKind (u8 u16 i64)
set_option linter.unusedSimpArgs false
open Go Go.S3 Go.Proofs
set_option linter.unusedVariables false
set_option maxRecDepth 100000
namespace Go.Proofs.YtpnjbfjomebppaaGreat
noncomputable section
def Zdj (k:Int):En:=.tree (Zn (envX prog [(154,Zwc k),(213,qAtE)] [] 255 8) Tryz.f150)
theorem Zfx (k:Int):Za prog 150 (Zdj k):=ZI (P:=prog) (n:=255) (k:=8) (l:=[(154,Zwc k),(213,qAtE)]) (ol:=[]) ⟨(ZD6 k),Zh3,Tv⟩ Tryz.func150 rfl (by kernel_rfl) Tryz.call150 trivial
def ZbX:En:=.tree (Zn (envX prog [(213,qAtE),(216,Zvw),(284,Zmo),(290,ZvW),(291,ZbR)] [] 2597417327555236063515274458956831 8) Tryz.f228)
theorem Zfy:Za prog 228 ZbX:=ZI (P:=prog) (n:=2597417327555236063515274458956831) (k:=8) (l:=[(213,qAtE),(216,Zvw),(284,Zmo),(290,ZvW),(291,ZbR)]) (ol:=[]) ⟨Zh3,ZrM,ZrN,ZDB,Zeh,Tv⟩ Tryz.func228 rfl (by kernel_rfl) Tryz.call228 trivial
def Zbl:En:=.tree (Zn (envX prog [(213,qAtE),(215,ZfS),(216,Zvw),(282,ZDV),(283,ZD9),(290,ZvW),(291,ZbR),(292,ZUL),(293,Zmn),(294,ZLN),(295,ZMg),(296,ZMk),(297,ZMm),(298,ZK5)] [] 7069140681974987581262622498806463579024171163532525608263727578473562367 8) Tryz.f229)
theorem Zer:Za prog 229 Zbl:=ZI (P:=prog) (n:=7069140681974987581262622498806463579024171163532525608263727578473562367) (k:=8) (l:=[(213,qAtE),(215,ZfS),(216,Zvw),(282,ZDV),(283,ZD9),(290,ZvW),(291,ZbR),(292,ZUL),(293,Zmn),(294,ZLN),(295,ZMg),(296,ZMk),(297,ZMm),(298,ZK5)]) (ol:=[]) ⟨Zh3,ZhX,ZrM,ZDU,ZD8,ZDB,Zeh,ZUK,Zy4,ZQb,ZQj,ZQl,ZQn,ZPX,Tv⟩ Tryz.func229 rfl (by kernel_rfl) Tryz.call229 trivial
def Zbk:En:=.tree (Zn (envX prog [(215,ZfS),(284,Zmo),(286,Zhj),(291,ZbR),(299,ZmV)] [] 1300629477622019213679053869679119 8) Tryz.f230)
theorem Zeq:Za prog 230 Zbk:=ZI (P:=prog) (n:=1300629477622019213679053869679119) (k:=8) (l:=[(215,ZfS),(284,Zmo),(286,Zhj),(291,ZbR),(299,ZmV)]) (ol:=[]) ⟨ZhX,ZrN,Zmm,Zeh,ZzD,Tv⟩ Tryz.func230 rfl (by kernel_rfl) Tryz.call230 trivial
def ZbI:En:=.tree (Zn (envX prog [(213,qAtE),(215,ZfS),(291,ZbR),(301,ZAR),(302,ZAV),(303,ZzL)] [] 19808249554387950831669350527 8) Tryz.f233)
theorem Zfc:Za prog 233 ZbI:=ZI (P:=prog) (n:=19808249554387950831669350527) (k:=8) (l:=[(213,qAtE),(215,ZfS),(291,ZbR),(301,ZAR),(302,ZAV),(303,ZzL)]) (ol:=[]) ⟨Zh3,ZhX,Zeh,ZMa,ZMt,ZLf,Tv⟩ Tryz.func233 rfl (by kernel_rfl) Tryz.call233 trivial
def ZcD:En:=.tree (Zn (envX prog [(227,Zh2),(228,ZbX),(229,Zbl),(230,Zbk),(231,ZK7),(232,ZKX),(233,ZbI)] [] 1299342484808491477133836286951679 8) Tryz.f156)
theorem ZeO:Za prog 156 ZcD:=ZI (P:=prog) (n:=1299342484808491477133836286951679) (k:=8) (l:=[(227,Zh2),(228,ZbX),(229,Zbl),(230,Zbk),(231,ZK7),(232,ZKX),(233,ZbI)]) (ol:=[]) ⟨Zp2,Zfy,Zer,Zeq,ZPZ,ZPT,Zfc,Tv⟩ Tryz.func156 rfl (by kernel_rfl) Tryz.call156 trivial
abbrev ZH:List Sh:=[Sh.agg Z5,Sh.one (R.int i64),Sh.one (R.sl (R.int u8)),Sh.agg (R.Pq R.bool (R.Pq R.bool rcF7))]
abbrev ZL8:Rs:=Rs.one (Sh.agg Z5)
def ZUG (k:Int):List (FuncId×En):=[(150,Zdj k),(151,Zjc),(155,ZvP),(156,ZcD)]
theorem ZQf (k:Int):Zc7 prog (ZUG k):=⟨(Zfx k),ZjU,Zzw,ZeO,Tv⟩
abbrev EV0 (k:Int) (a:HL ZH):=Zfi (envX prog (ZUG k) [] 1023 8) Tryz.f85 ZH ZL8 a
end
end Go.Proofs.YtpnjbfjomebppaaGreat
