import Derived.Test.YtpnjbfjomebppaaGreatPinsEq
open Go.Proofs.Tryz (prog)
open Go.IntKind (u8 u16 i64)
set_option linter.unusedSimpArgs false
open Go Go.S3 Go.Proofs
set_option linter.unusedVariables false
set_option maxRecDepth 100000
namespace Go.Proofs.YtpnjbfjomebppaaGreat
noncomputable section
def ZdO (k:Int):En:=.tree (Zr (envX prog [(154,ZxA k),(213,qAtE)] [] 255 8) Tryz.f150)
theorem Zge (k:Int):Zb prog 150 (ZdO k):=ZL (P:=prog) (n:=255) (k:=8) (l:=[(154,ZxA k),(213,qAtE)]) (ol:=[]) ⟨(ZEN k),Zi1,Tv⟩ Tryz.func150 rfl (by kernel_rfl) Tryz.call150 trivial
def Zcs:En:=.tree (Zr (envX prog [(213,qAtE),(216,ZwS),(284,Zm7),(290,Zxk),(291,Zcj)] [] 2597417327555236063515274458956831 8) Tryz.f228)
theorem Zgf:Zb prog 228 Zcs:=ZL (P:=prog) (n:=2597417327555236063515274458956831) (k:=8) (l:=[(213,qAtE),(216,ZwS),(284,Zm7),(290,Zxk),(291,Zcj)]) (ol:=[]) ⟨Zi1,Zsz,ZsA,ZEi,ZeU,Tv⟩ Tryz.func228 rfl (by kernel_rfl) Tryz.call228 trivial
def ZbK:En:=.tree (Zr (envX prog [(213,qAtE),(215,ZgD),(216,ZwS),(282,ZEC),(283,ZEQ),(290,Zxk),(291,Zcj),(292,ZU9),(293,Zm6),(294,ZMg),(295,ZMJ),(296,ZMN),(297,ZMP),(298,ZLy)] [] 7069140681974987581262622498806463579024171163532525608263727578473562367 8) Tryz.f229)
theorem Ze5:Zb prog 229 ZbK:=ZL (P:=prog) (n:=7069140681974987581262622498806463579024171163532525608263727578473562367) (k:=8) (l:=[(213,qAtE),(215,ZgD),(216,ZwS),(282,ZEC),(283,ZEQ),(290,Zxk),(291,Zcj),(292,ZU9),(293,Zm6),(294,ZMg),(295,ZMJ),(296,ZMN),(297,ZMP),(298,ZLy)]) (ol:=[]) ⟨Zi1,ZiV,Zsz,ZEB,ZEP,ZEi,ZeU,ZU8,ZzT,ZQM,ZQU,ZQW,ZQY,ZQy,Tv⟩ Tryz.func229 rfl (by kernel_rfl) Tryz.call229 trivial
def ZbJ:En:=.tree (Zr (envX prog [(215,ZgD),(284,Zm7),(286,Zic),(291,Zcj),(299,ZnE)] [] 1300629477622019213679053869679119 8) Tryz.f230)
theorem Ze4:Zb prog 230 ZbJ:=ZL (P:=prog) (n:=1300629477622019213679053869679119) (k:=8) (l:=[(215,ZgD),(284,Zm7),(286,Zic),(291,Zcj),(299,ZnE)]) (ol:=[]) ⟨ZiV,ZsA,Zm5,ZeU,ZAn,Tv⟩ Tryz.func230 rfl (by kernel_rfl) Tryz.call230 trivial
def Zb9:En:=.tree (Zr (envX prog [(213,qAtE),(215,ZgD),(291,Zcj),(301,ZBB),(302,ZBF),(303,ZAv)] [] 19808249554387950831669350527 8) Tryz.f233)
theorem ZfQ:Zb prog 233 Zb9:=ZL (P:=prog) (n:=19808249554387950831669350527) (k:=8) (l:=[(213,qAtE),(215,ZgD),(291,Zcj),(301,ZBB),(302,ZBF),(303,ZAv)]) (ol:=[]) ⟨Zi1,ZiV,ZeU,ZMD,ZMW,ZLI,Tv⟩ Tryz.func233 rfl (by kernel_rfl) Tryz.call233 trivial
def Zdc:En:=.tree (Zr (envX prog [(227,Zi0),(228,Zcs),(229,ZbK),(230,ZbJ),(231,ZLA),(232,ZLq),(233,Zb9)] [] 1299342484808491477133836286951679 8) Tryz.f156)
theorem Zfq:Zb prog 156 Zdc:=ZL (P:=prog) (n:=1299342484808491477133836286951679) (k:=8) (l:=[(227,Zi0),(228,Zcs),(229,ZbK),(230,ZbJ),(231,ZLA),(232,ZLq),(233,Zb9)]) (ol:=[]) ⟨ZqG,Zgf,Ze5,Ze4,ZQA,ZQu,ZfQ,Tv⟩ Tryz.func156 rfl (by kernel_rfl) Tryz.call156 trivial
abbrev ZK:List Sh:=[Sh.agg ZY,Sh.one (R.int i64),Sh.one (R.sl (R.int u8)),Sh.agg (R.Pq R.bool (R.Pq R.bool rcF7))]
abbrev ZMB:Rs:=Rs.one (Sh.agg ZY)
def ZU4 (k:Int):List (FuncId×En):=[(150,ZdO k),(151,Zkp),(155,Zxd),(156,Zdc)]
theorem ZQQ (k:Int):Zd1 prog (ZU4 k):=⟨(Zge k),Zk6,ZAg,Zfq,Tv⟩
abbrev EV0 (k:Int) (a:HL ZK):=Zg1 (envX prog (ZU4 k) [] 1023 8) Tryz.f85 ZK ZMB a
end
end Go.Proofs.YtpnjbfjomebppaaGreat
