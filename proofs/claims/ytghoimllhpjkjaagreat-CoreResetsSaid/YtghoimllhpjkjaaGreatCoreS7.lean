/-
  CoreClocks and CoreResets: both cores answer alike, and RESET leads to the beginning. Conditions: none.
-/
import Derived.Test.YtghoimllhpjkjaaGreatIsaP
import Derived.Test.YtghoimllhpjkjaaGreatS3D
import Derived.Test.YtghoimllhpjkjaaGreatProg
open Go Go.S3 Go.Proofs Go.Proofs.Cells
set_option linter.unusedVariables false
set_option linter.unusedSimpArgs false
set_option maxRecDepth 100000
namespace Go.Proofs.YtghoimllhpjkjaaGreat
noncomputable section
theorem Zt4 (l : List Zah) (m : List Cell) (t v : Int) : (Zeb l m t v).length ≤ m.length + 1 := by
 have h := ZdJ m
 unfold Zeb
 cases decide (ZbW l t ≥ 0) && (R.get GR l (ZbW l t)).2.2.1
 ·exact Nat.le_trans h (Nat.le_succ _)
 ·exact Nat.le_trans (ZrL _ _) (by omega)
def pre (o : List (Int × Int)) (m : MacT) : MacT := (m.1, m.2.1, m.2.2.1, o ++ m.2.2.2)
end
end Go.Proofs.YtghoimllhpjkjaaGreat
open Go.IntKind (u8 u16 i64)
namespace Go.Proofs.YtghoimllhpjkjaaGreat
noncomputable section
theorem smCb {l : List Cell} (h : l.length ≤ 1000000) : smC l = true := Za4 (by have := mst; omega)
theorem smGb {l : List Zah} (h : l.length ≤ 1000000) : smG l = true := Za4 (by have := mst; omega)
def Zap (b : BRDT) (s : SYST) (i : INPT) : SYST := (s.1, s.2.1, (bif !b.2.2.2.2.2.1 then ZBY s.2.2.1 i.2.2.2.2.2.2.2.2.1 else s.2.2.1), s.2.2.2)
def ZfT (b : BRDT) (s : SYST) (i : INPT) : LINT :=
 (i.1 && decide (ZgO s ≥ ZOn b s.1.2.2.2.1), i.2.1 || ZbZ s.2.2.2.1, i.2.2.1, i.2.2.2.1, i.2.2.2.2.1, i.2.2.2.2.2.1, i.2.2.2.2.2.2.1, i.2.2.2.2.2.2.2.1,
  bif b.2.2.2.2.2.1 then andI .u8 i.2.2.2.2.2.2.2.2.1 1 == 1 else vInt s.2.2.1)
def busS (b : BRDT) (s : SYST) (i : INPT) : SYST × Int :=
 let x := s.1.2.2.2.1
 let q := Zc6 b (IntKind.wrap .u8 x.2.1)
 let d := Zfn b (IntKind.wrap .u8 x.2.1)
 bif i.2.2.1 || (Zay s.1 != 3 || !Zb4 x.1) then (s, 0) else
 bif decide (x.1 ≥ 1) && decide (x.1 ≤ 5) then (s, ZoJ b.2.1 s.2.1 x.2.1) else
 bif x.1 != 6 && b.2.2.2.2.2.1 then (s, i.2.2.2.2.2.2.2.2.2) else
 bif x.1 != 6 then ((s.1, s.2.1, (vAck s.2.2.1).1, s.2.2.2), (vAck s.2.2.1).2) else
 bif q.2 then ((s.1, s.2.1, (ZOu s.2.2.1 q.1).1, s.2.2.2), (ZOu s.2.2.1 q.1).2) else
 bif d.2 then (s, ZIw s.2.2.2.1 d.1) else (s, i.2.2.2.2.2.2.2.2.2)
def ZgG (b : BRDT) (s : SYST) (x : TY) : SYST :=
 let q := Zc6 b (IntKind.wrap .u8 x.2.1)
 let d := Zfn b (IntKind.wrap .u8 x.2.1)
 bif x.1 != 7 then (s.1, Zeb b.2.1 s.2.1 x.2.1 x.2.2.1, s.2.2) else
 (s.1, s.2.1, (bif q.2 then ZIo s.2.2.1 q.1 x.2.2.1 else s.2.2.1), (bif q.2 then s.2.2.2.1 else bif d.2 then Zxi s.2.2.2.1 d.1 x.2.2.1 else s.2.2.2.1), s.2.2.2.2.1,
  s.2.2.2.2.2 ++ [(IntKind.wrap .u8 x.2.1, x.2.2.1)])
def stepP (p : PICT) (n : Int) : PICT :=
 (p.1, p.2.1, p.2.2.1, p.2.2.2.1, p.2.2.2.2.1, p.2.2.2.2.2.1, p.2.2.2.2.2.2.1, p.2.2.2.2.2.2.2.1, p.2.2.2.2.2.2.2.2.1, p.2.2.2.2.2.2.2.2.2.1, p.2.2.2.2.2.2.2.2.2.2.1, p.2.2.2.2.2.2.2.2.2.2.2.1,
  p.2.2.2.2.2.2.2.2.2.2.2.2.1, p.2.2.2.2.2.2.2.2.2.2.2.2.2.1, p.2.2.2.2.2.2.2.2.2.2.2.2.2.2.1, p.2.2.2.2.2.2.2.2.2.2.2.2.2.2.2.1, p.2.2.2.2.2.2.2.2.2.2.2.2.2.2.2.2.1, n, p.2.2.2.2.2.2.2.2.2.2.2.2.2.2.2.2.2.2)
def ZVM (p : PINT) : Bool := p.2.2.2.2.2.2.2.2.2.2.2.2.2.2.2.1
def Zxa (s : SYST) (i : INPT) : Bool := !i.2.2.1 && (Zay s.1 == 3 && Zcy s.1.2.2.2.1.1)
def Zhe (b : BRDT) (s : SYST) (i : INPT) : SYST :=
 let t := Zap b s i
 let u := busS b t i
 ((Zbt u.1.1 (ZfT b t i) u.2), u.1.2.1, u.1.2.2.1, u.1.2.2.2.1, ZgO t, u.1.2.2.2.2.2)
def Zfa (b : BRDT) (s : SYST) (i : INPT) : SYST := bif Zxa s i then ZgG b (Zhe b s i) s.1.2.2.2.1 else Zhe b s i
def pinS (b : BRDT) (s : SYST) (i : INPT) : PINT := Zg2 (busS b (Zap b s i) i).1.1 (ZfT b (Zap b s i) i) (busS b (Zap b s i) i).2
def Zwn (b : BRDT) (s : SYST) (i : INPT) : Bool := ZVM (pinS b s i) && ZbZ (Zfa b s i).2.2.2.1
def ZNg (b : BRDT) (s : SYST) (i : INPT) : SYST :=
 let w := Zfa b s i
 bif Zwn b s i then (w.1, Zeb b.2.1 w.2.1 w.2.2.2.1.1 w.2.2.2.1.2.1, w.2.2.1, (IntKind.wrap .u16 (w.2.2.2.1.1 + 1), w.2.2.2.1.2.1, IntKind.wrap .i64 (w.2.2.2.1.2.2 - 1)), w.2.2.2.2) else w
def ZJh (s : SYST) (r : Bool) : SYST := bif r then (s.1, s.2.1, stepP s.2.2.1 0, (s.2.2.2.1.1, s.2.2.2.1.2.1, 0), s.2.2.2.2) else s
def Zdd (b : BRDT) (s : SYST) (i : INPT) : SYST × PINT × LINT × Int × Cell × Bool :=
 (ZJh (ZNg b s i) i.2.2.1, pinS b s i, ZfT b (Zap b s i) i, (busS b (Zap b s i) i).2,
  (bif Zwn b s i then ((Zfa b s i).2.2.2.1.1, (Zfa b s i).2.2.2.1.2.1) else (0, 0)), Zwn b s i)
theorem ZOm (b : BRDT) (x : TY) (hg : smG b.2.1 = true) : ZBy b x = true := by
 unfold ZBy ZBx
 simp only [RT.val, hg, Bool.or_true, cond_true]
 cases decide (x.1 ≥ 1) && decide (x.1 ≤ 5)
 ·cases x.1 == 6 || x.1 == 7 <;> rfl
 ·rfl
theorem ZEF (b : BRDT) (s : SYST) (i : INPT) (hg : smG b.2.1 = true) : ZjY b s i = true ∧ ZpU b s i = ZfT b s i := by
 have hv : (Zhh b s i).val = some (ZfT b s i) := by
  unfold Zhh ZfT
  simp only [RT.val, ZSD, ZOm b _ hg, Bool.or_true, cond_true, Bool.cond_self]
 exact ⟨by simp only [ZjY, hv]; rfl, by simp only [ZpU, hv, getO]⟩
theorem ZSu (b : BRDT) (s : SYST) (i : INPT) (hg : smG b.2.1 = true) (hc : smC s.2.1 = true) : ZOp b s i = true ∧ wBus b s i = busS b s i := by
 have hv : (ZIh b s i).val = some (busS b s i) := by
  unfold ZIh busS
  simp only [RT.val, ZSG, ZOt, ZIu, hg, hc, ZdH, Zcf, R.sel_eq, Bool.and_self, Bool.or_true, Bool.not_true, Bool.false_or, cond_true]
  cases i.2.2.1 || (Zay s.1 != 3 || !Zb4 s.1.2.2.2.1.1)
  ·cases decide (s.1.2.2.2.1.1 ≥ 1) && decide (s.1.2.2.2.1.1 ≤ 5)
   ·cases s.1.2.2.2.1.1 != 6
    ·cases (Zc6 b (IntKind.wrap .u8 s.1.2.2.2.1.2.1)).2
     ·cases (Zfn b (IntKind.wrap .u8 s.1.2.2.2.1.2.1)).2 <;> rfl
     ·rfl
    ·cases b.2.2.2.2.2.1 <;> rfl
   ·rfl
  ·rfl
 exact ⟨by simp only [ZOp, hv]; rfl, by simp only [wBus, hv, getO]⟩
theorem ZHV (b : BRDT) (s : SYST) (x : TY) (hg : smG b.2.1 = true) (hc : smC s.2.1 = true) (ho : s.2.2.2.2.2.length ≤ 1000000) : ZpT b s x = true ∧ ZBw b s x = ZgG b s x := by
 have hms := mst
 have h1 : Nat.ble (List.length s.2.2.2.2.2) most = true := Za4 (by omega)
 have h2 : ∀ y : Int × Int, Nat.ble (List.length (s.2.2.2.2.2 ++ [y])) most = true := fun y => Za4 (by simp; omega)
 have hv : (Zkq b s x).val = some (ZgG b s x) := by
  unfold Zkq ZgG
  simp only [RT.val, ZIm, h1, h2, hg, hc, R.sel_eq, Bool.and_self, Bool.or_true, Bool.not_true, Bool.false_or, cond_true, List.nil_append]
  cases x.1 != 7
  ·rfl
  ·rfl
 exact ⟨by simp only [ZpT, hv]; rfl, by simp only [ZBw, hv, getO]⟩
theorem ZtY (b : BRDT) (s : SYST) (i : INPT) : (busS b s i).1.1 = s.1 ∧ (busS b s i).1.2.1 = s.2.1 ∧ (busS b s i).1.2.2.2 = s.2.2.2 := by
 unfold busS
 dsimp only
 cases i.2.2.1 || (Zay s.1 != 3 || !Zb4 s.1.2.2.2.1.1)
 ·cases decide (s.1.2.2.2.1.1 ≥ 1) && decide (s.1.2.2.2.1.1 ≤ 5)
  ·cases s.1.2.2.2.1.1 != 6
   ·cases (Zc6 b (IntKind.wrap .u8 s.1.2.2.2.1.2.1)).2
    ·cases (Zfn b (IntKind.wrap .u8 s.1.2.2.2.1.2.1)).2 <;> exact ⟨rfl, rfl, rfl⟩
    ·exact ⟨rfl, rfl, rfl⟩
   ·cases b.2.2.2.2.2.1 <;> exact ⟨rfl, rfl, rfl⟩
  ·exact ⟨rfl, rfl, rfl⟩
 ·exact ⟨rfl, rfl, rfl⟩
theorem Zuz (b : BRDT) (s : SYST) (x : TY) : (ZgG b s x).1 = s.1 ∧ (ZgG b s x).2.1.length ≤ s.2.1.length + 1 ∧ (ZgG b s x).2.2.2.2.2.length ≤ s.2.2.2.2.2.length + 1 := by
 have := Zt4 b.2.1 s.2.1 x.2.1 x.2.2.1
 unfold ZgG
 dsimp only
 cases x.1 != 7
 ·exact ⟨rfl, by simp only [cond_false]; omega, by simp only [cond_false]; simp⟩
 ·exact ⟨rfl, by simp only [cond_true]; omega, by simp only [cond_true]; omega⟩
theorem ZEy (b : BRDT) (s : SYST) (i : INPT) : (Zhe b s i).2.1 = s.2.1 ∧ (Zhe b s i).2.2.2.2.2 = s.2.2.2.2.2 := by
 have h := ZtY b (Zap b s i) i
 unfold Zhe
 simp only [h.1, h.2.1, h.2.2]
 exact ⟨rfl, rfl⟩
theorem Zt3 (b : BRDT) (s : SYST) (i : INPT) : (Zfa b s i).1 = (Zhe b s i).1 ∧ (Zfa b s i).2.1.length ≤ s.2.1.length + 1 ∧ (Zfa b s i).2.2.2.2.2.length ≤ s.2.2.2.2.2.length + 1 := by
 have h1 := ZEy b s i
 have h2 := Zuz b (Zhe b s i) s.1.2.2.2.1
 rw [h1.1, h1.2] at h2
 unfold Zfa
 cases Zxa s i
 ·exact ⟨rfl, by simp only [cond_false, h1.1]; omega, by simp only [cond_false, h1.2]; omega⟩
 ·exact h2
theorem Zw2 (b : BRDT) (s : SYST) (i : INPT) : (Zdd b s i).1.1 = (Zhe b s i).1 ∧ (Zdd b s i).1.2.1.length ≤ s.2.1.length + 2 ∧ (Zdd b s i).1.2.2.2.2.2.length ≤ s.2.2.2.2.2.length + 1 := by
 have h1 := Zt3 b s i
 have h2 := Zt4 b.2.1 (Zfa b s i).2.1 (Zfa b s i).2.2.2.1.1 (Zfa b s i).2.2.2.1.2.1
 unfold Zdd ZJh ZNg
 dsimp only
 cases Zwn b s i <;> cases i.2.2.1 <;> simp only [cond_true, cond_false] <;> exact ⟨h1.1, by omega, h1.2.2⟩
theorem ZId (b : BRDT) (s : SYST) (i : INPT) (hg : smG b.2.1 = true) (hc : s.2.1.length ≤ 900000) (ho : s.2.2.2.2.2.length ≤ 900000) (hk : s.1.2.2.1.length ≤ 900000) :
  ZpY b s i = true ∧ ZBG b s i = Zdd b s i := by
 have hms := mst
 have hv : (Zkv b s i).val = some (Zdd b s i) := by
  have hr : (s.1, s.2.1, (bif !b.2.2.2.2.2.1 then ZBY s.2.2.1 i.2.2.2.2.2.2.2.2.1 else s.2.2.1), s.2.2.2) = Zap b s i := rfl
  have h1 := ZEF b (Zap b s i) i hg
  have h2 := ZSu b (Zap b s i) i hg (smCb (by show s.2.1.length ≤ _; omega))
  have h3 := ZtY b (Zap b s i) i
  have h4 : ZcV (busS b (Zap b s i) i).1.1 = true := by rw [h3.1]; exact Zeu.2 (by show s.1.2.2.1.length + 1 ≤ _; omega)
  have h5 := ZEy b s i
  have h6 := ZHV b (Zhe b s i) s.1.2.2.2.1 hg (smCb (by rw [h5.1]; omega)) (by rw [h5.2]; omega)
  have h7 := Zt3 b s i
  have hcs : (Zbt (busS b (Zap b s i) i).1.1 (ZfT b (Zap b s i) i) (busS b (Zap b s i) i).2, (busS b (Zap b s i) i).1.2.1, (busS b (Zap b s i) i).1.2.2.1, (busS b (Zap b s i) i).1.2.2.2.1, ZgO (Zap b s i),
   (busS b (Zap b s i) i).1.2.2.2.2.2) = Zhe b s i := rfl
  have ht : ∀ d : QT6, Zhn d = bif ZbZ d then ((IntKind.wrap .u16 (d.1 + 1), d.2.1, IntKind.wrap .i64 (d.2.2 - 1)), (d.1, d.2.1), true) else ((0, 0, 0), (0, 0), false) := fun d => by
   unfold Zhn Zir
   simp only [RT.val]
   cases ZbZ d <;> rfl
  have h8 : smC (ZgG b (Zhe b s i) s.1.2.2.2.1).2.1 = true := smCb (by have := (Zuz b (Zhe b s i) s.1.2.2.2.1).2.1; rw [h5.1] at this; omega)
  have h9 : smC (busS b (Zap b s i) i).1.2.1 = true := smCb (by rw [h3.2.1]; show s.2.1.length ≤ _; omega)
  unfold Zkv
  simp only [hr, RT.val, h1.1, h1.2, h2.1, h2.2, h4, clkX, hcs, h6.1, h6.2, ht, R.sel_eq, Bool.or_true, cond_true]
  unfold Zdd ZJh ZNg Zwn Zfa Zxa pinS ZVM
  dsimp only
  cases !i.2.2.1 && (Zay s.1 == 3 && Zcy s.1.2.2.2.1.1)
  ·simp only [cond_false, h9, hg, Bool.and_self, Bool.or_true, cond_true]
   cases (Zg2 (busS b (Zap b s i) i).1.1 (ZfT b (Zap b s i) i) (busS b (Zap b s i) i).2).2.2.2.2.2.2.2.2.2.2.2.2.2.2.2.1
   ·cases i.2.2.1 <;> rfl
   ·have e : ZbZ ((busS b (Zap b s i) i).1.2.2.2.1.1, (busS b (Zap b s i) i).1.2.2.2.1.2.1, (busS b (Zap b s i) i).1.2.2.2.1.2.2) = ZbZ (Zhe b s i).2.2.2.1 := rfl
    rw [e]
    cases ZbZ (Zhe b s i).2.2.2.1 <;> cases i.2.2.1 <;> rfl
  ·simp only [cond_true, h8, hg, Bool.and_self, Bool.or_true]
   cases (Zg2 (busS b (Zap b s i) i).1.1 (ZfT b (Zap b s i) i) (busS b (Zap b s i) i).2).2.2.2.2.2.2.2.2.2.2.2.2.2.2.2.1
   ·cases i.2.2.1 <;> rfl
   ·cases ZbZ (ZgG b (Zhe b s i) s.1.2.2.2.1).2.2.2.1 <;> cases i.2.2.1 <;> rfl
 exact ⟨by simp only [ZpY, hv]; rfl, by simp only [ZBG, hv, getO]⟩
def Zh0 {α : Type} (l : List α) (f : α → α) : List α := match l.getLast? with
 | some y => l.dropLast ++ [f y]
 | none => []
theorem ZiR {α : Type} (l : List α) (y : α) (f : α → α) : Zh0 (l ++ [y]) f = l ++ [f y] := by simp [Zh0]
def ZNo (Z8 : TC) (l : List TC) : TC := l.getLastD Z8
theorem Zt5 {α : Type} (l : List α) (y : α) (h : l.length ≤ 1000000) : IntKind.wrap .i64 (iN (l ++ [y]).length - 1) = (l.length : Int) := by
 simp only [iN, List.length_append, List.length_cons, List.length_nil]
 rw [ZH _ (by omega) (by omega)]; omega
theorem ZEn {r : R} (l : List r.den) (y : r.den) : R.get r (l ++ [y]) (l.length : Int) = y := by simp [R.get]
theorem ZCe {α : Type} (l : List α) (y z : α) : setI (l ++ [y]) (l.length : Int) z = l ++ [z] := by
 simp [setI]
theorem ZCg {α : Type} (l : List α) (y : α) : Zg (l.length : Int) (l ++ [y]).length = true := Zac.2 ⟨by omega, by simp; omega⟩
def Zof (t : Int) : Int := bif t == 8 then 2 else bif t == 9 then 3 else bif t == 10 then 4 else 1
def cycN (c : CORT) (t : Int) (x : TY) : TY := bif t == 8 then (0, 0, 0, 0) else bif t == 9 then (0, c.1.2.1.2.2.2.2.2.2.2.2.2, 0, 0) else bif t == 10 then (0, 0, 0, 0) else x
def ZQq (c : CORT) : Bool := c.1.2.2.1
def sodC (c : CORT) : Bool := c.1.2.2.2.2.2.2.2.2.2.2.2.2
def ZSH (y : ITMT) (k : Int) (c : CORT) : Bool := y.1 == k && (y.2.2.2.2.1 == ZQq c && y.2.2.2.2.2 == sodC c)
def ZVE (y : ITMT) : ITMT := (y.1, y.2.1, y.2.2.1, IntKind.wrap .i64 (y.2.2.2.1 + 1), y.2.2.2.2)
def ZHv (l : List ITMT) (k : Int) (c : CORT) (n : ITMT) : List ITMT := match l.getLast? with
 | some y => bif ZSH y k c then Zh0 l ZVE else l ++ [n]
 | none => l ++ [n]
def ZBc (l : List ITMT) (c : CORT) (x : TY) (t : Int) : List ITMT :=
 bif Zof t != 1 then ZHv l (Zof t) c (Zof t, cycN c t x, 0, 1, ZQq c, sodC c)
 else bif t == 1 then l ++ [(1, cycN c t x, 0, 1, ZQq c, sodC c)]
 else bif t == 7 then Zh0 l (fun y => (y.1, cycN c t x, IntKind.wrap .i64 (y.2.2.1 + 1), y.2.2.2))
 else Zh0 l (fun y => (y.1, cycN c t x, y.2.2.1, IntKind.wrap .i64 (y.2.2.2.1 + 1), y.2.2.2.2))
def ZOg : TC := (0, (0, 0, 0, 0, 0, 0, 0, (false, false, false, false, false, false, false), 0, 0), false, false, false, 0, false, false, false, false, false, false, false)
def ZHM : LINT := (false, false, false, false, false, false, false, false, false)
def rdS (c : CORT) (t d : Int) : TY × List Int := bif t != 3 then (c.2.2.2.1, c.2.2.1) else (Zfe c.1 c.2.2.2.1 d, c.2.2.1 ++ [(Zfe c.1 c.2.2.2.1 d).2.2.1])
def finS (c : CORT) (l : LINT) (d : Int) : TC × Bool :=
 bif l.2.2.1 then (ZOg, false) else
 bif !ZrB c.2.2.2.2.1 (rdS c c.2.2.2.2.1 d).1 then (ZOg, false) else
 bif (Zl (Zn c.1 l) c.2.1 (rdS c c.2.2.2.2.1 d).2).2 then (ZOg, false) else (finX (Zn c.1 l) c.2.1 (rdS c c.2.2.2.2.1 d).2 l, true)
def ZEA (c : CORT) (t d : Int) : List Int := bif t == 3 then c.2.2.1 ++ [(Zf8 c t d).2.2.1] else c.2.2.1
def evE (ev : List EVTT) (c : CORT) (l : LINT) (d : Int) (cell : Cell) (moved : Bool) : List EVTT :=
 let e1 := bif (finS c l d).2 then ev ++ [Zxd (ZSr c.2.1, c.2.1, ZEA c (Zay c) d, ZHM, false, false, false, false, 0, 0) (Zn c.1 l) l] else ev
 bif l.2.2.1 then (bif ZgD c then ev ++ [Zxd (6, c.2.1, c.2.2.1, ZHM, false, false, false, false, 0, 0) c.1 l] else ev) ++ [Zxd (4, 0, [], ZHM, false, false, false, false, 0, 0) c.1 l]
 else bif moved then e1 ++ [(5, 0, [], ZHM, false, false, false, false, cell)] else e1
def evC (cp : List TC) (Z8 : TC) (c : CORT) (after : CORT) (l : LINT) (d : Int) (moved : Bool) : List TC :=
 let c1 := bif (finS c l d).2 then cp ++ [(finS c l d).1] else cp
 bif l.2.2.1 then (bif ZgD c then cp ++ [ZNo Z8 cp] else cp) ++ [after.1]
 else bif moved then c1 ++ [ZNo Z8 cp] else c1
abbrev STT := SYST × List PINT × List ITMT × List EVTT × List TC
def nowS (s : SYST) (i : INPT) : Int := bif i.2.2.1 then 10 else Zay s.1
def Zfb (b : BRDT) (Z8 : TC) (st : STT) (i : INPT) : STT :=
 let k := Zdd b st.1 i
 (k.1, st.2.1 ++ [k.2.1], ZBc st.2.2.1 st.1.1 (Zf8 st.1.1 (nowS st.1 i) k.2.2.2.1) (nowS st.1 i),
  evE st.2.2.2.1 st.1.1 k.2.2.1 k.2.2.2.1 k.2.2.2.2.1 k.2.2.2.2.2, evC st.2.2.2.2 Z8 st.1.1 k.1.1 k.2.2.1 k.2.2.2.1 k.2.2.2.2.2)
structure RunOk (b : BRDT) (st : STT) (n : Nat) : Prop where
 g : smG b.2.1 = true
 m : st.1.2.1.length ≤ 100000 + 2 * n
 o : st.1.2.2.2.2.2.length ≤ n
 k : st.1.1.2.2.1.length ≤ n
 t : st.2.1.length ≤ n
 it : st.2.2.1.length ≤ n
 ev : st.2.2.2.1.length ≤ 2 * n
 cp : st.2.2.2.2.length ≤ 2 * n
 ne : st.2.2.1 = [] → Zay st.1.1 = 1
theorem ZO1 (c : CORT) (t d : Int) (h : c.2.2.1.length ≤ 1000000) : Zew c t d = true ∧ ZgZ c t d = rdS c t d := by
 have hms := mst
 have h1 : Nat.ble (List.length c.2.2.1) most = true := Za4 (by omega)
 have h2 : ∀ y : Int, Nat.ble (List.length (c.2.2.1 ++ [y])) most = true := fun y => Za4 (by simp; omega)
 have hv : (ZhE c t d).val = some (rdS c t d) := by
  unfold ZhE rdS Zfe
  simp only [RT.val, h1, h2, List.nil_append, Bool.or_true, cond_true]
  cases t != 3 <;> rfl
 exact ⟨by simp only [Zew, hv]; rfl, by simp only [ZgZ, hv, getO]⟩
theorem ZSs (c : CORT) (l : LINT) (d : Int) (h : c.2.2.1.length ≤ 1000000) : Zf7 c l d = true ∧ Zhi c l d = finS c l d := by
 have h1 := ZO1 c c.2.2.2.2.1 d h
 have hv : (Zen c l d).val = some (finS c l d) := by
  unfold Zen finS
  simp only [RT.val, h1.1, h1.2, cond_true]
  cases l.2.2.1
  ·cases ZrB c.2.2.2.2.1 (rdS c c.2.2.2.2.1 d).1
   ·rfl
   ·cases (Zl (Zn c.1 l) c.2.1 (rdS c c.2.2.2.2.1 d).2).2 <;> rfl
  ·rfl
 exact ⟨by simp only [Zf7, hv]; rfl, by simp only [Zhi, hv, getO]⟩
theorem ZIg (c : CORT) (t d : Int) (h : c.2.2.1.length ≤ 1000000) : Zp0 c t d = true ∧ ZBL c t d = ZEA c t d := by
 have hms := mst
 have h1 : Nat.ble (List.length c.2.2.1) most = true := Za4 (by omega)
 have h2 : ∀ y : Int, Nat.ble (List.length (c.2.2.1 ++ [y])) most = true := fun y => Za4 (by simp; omega)
 have hv : (Zkw c t d).val = some (ZEA c t d) := by
  unfold Zkw ZEA
  simp only [RT.val, h1, h2, List.nil_append, Bool.or_true, cond_true]
 exact ⟨by simp only [Zp0, hv]; rfl, by simp only [ZBL, hv, getO]⟩
theorem ZEi (Z8 : TC) (l : List TC) (h : l.length ≤ 1000000) :
  (!decide (iN l.length > 0) || Zg (IntKind.wrap .i64 (iN l.length - 1)) l.length) = true ∧ R.sel Zx (decide (iN l.length > 0)) (R.get Zx l (IntKind.wrap .i64 (iN l.length - 1))) Z8 = ZNo Z8 l := by
 rcases List.eq_nil_or_concat l with rfl | ⟨l', y, rfl⟩
 ·exact ⟨rfl, by rw [R.sel_eq]; rfl⟩
 ·simp only [List.concat_eq_append, List.length_append, List.length_singleton] at h ⊢
  have w := Zt5 l' y (by omega)
  have d : decide (iN (l'.length + 1) > 0) = true := decide_eq_true (by simp only [iN]; omega)
  simp only [List.length_append, List.length_singleton] at w
  rw [w, d, R.sel_eq]
  have := ZCg l' y
  simp only [List.length_append, List.length_singleton] at this
  rw [this]
  exact ⟨rfl, by simp only [cond_true, ZNo]; rw [show R.get Zx (l' ++ [y]) (l'.length : Int) = y from ZEn (r := Zx) l' y]; simp⟩
theorem ZJg (b : BRDT) (l : List INPT) (i : Nat) (r0 : RUNT) (s0 : SYST) (Z8 : TC) (st : STT) (n : Nat) (h : RunOk b st n) (hi : i < l.length) (hl : l.length ≤ 100000) (hn : n ≤ 200000) :
  (ZeM (l, (l.length : Int), (i : Int), b, r0, st.1, s0, Z8, st.2.1, st.2.2.1, st.2.2.2.1, st.2.2.2.2, ())).val =
   some (Go1.cont (l, (l.length : Int), ((i + 1 : Nat) : Int), b, r0, (Zfb b Z8 st (R.get Zdi l (i : Int))).1, s0, Z8, (Zfb b Z8 st (R.get Zdi l (i : Int))).2.1, (Zfb b Z8 st (R.get Zdi l (i : Int))).2.2.1,
    (Zfb b Z8 st (R.get Zdi l (i : Int))).2.2.2.1, (Zfb b Z8 st (R.get Zdi l (i : Int))).2.2.2.2, ())) := by
 have hms := mst
 obtain ⟨s, tr, it, ev, cp⟩ := st
 obtain ⟨g, m, o, k, t, hit, hev, hcp, ne⟩ := h
 simp only at g m o k t hit hev hcp ne
 have d : decide ((i : Int) < (l.length : Int)) = true := decide_eq_true (by omega)
 have hin : Zg (i : Int) l.length = true := Zac.2 ⟨by omega, by omega⟩
 have w : IntKind.wrap .i64 ((i : Int) + 1) = ((i + 1 : Nat) : Int) := by rw [ZH _ (by omega) (by omega)]; omega
 obtain ⟨q, hq⟩ : ∃ q, R.get Zdi l (i : Int) = q := ⟨_, rfl⟩
 rw [hq]
 have hc := ZId b s q g (by omega) (by omega) (by omega)
 have hf := ZSs s.1 (Zdd b s q).2.2.1 (Zdd b s q).2.2.2.1 (by omega)
 have hb := ZIg s.1 (Zay s.1) (Zdd b s q).2.2.2.1 (by omega)
 have hlc := ZEi Z8 cp (by omega)
 have htr : ∀ x : PINT, Nat.ble (tr ++ [x]).length most = true := fun x => Za4 (by simp; omega)
 have he1 : ∀ x : EVTT, Nat.ble (ev ++ [x]).length most = true := fun x => Za4 (by simp; omega)
 have he2 : ∀ (c : Bool) (x y : EVTT), Nat.ble ((bif c then ev ++ [x] else ev) ++ [y]).length most = true := fun c x y => Za4 (by cases c <;> simp <;> omega)
 have hc1 : ∀ x : TC, Nat.ble (cp ++ [x]).length most = true := fun x => Za4 (by simp; omega)
 have hc2 : ∀ (c : Bool) (x y : TC), Nat.ble ((bif c then cp ++ [x] else cp) ++ [y]).length most = true := fun c x y => Za4 (by cases c <;> simp <;> omega)
 have hg : Nat.ble (List.length s.1.2.2.1) most = true := Za4 (by omega)
 obtain ⟨T, hT⟩ : ∃ T, (bif q.2.2.1 then (10 : Int) else Zay s.1) = T := ⟨_, rfl⟩
 have hT' : nowS s q = T := hT
 rcases List.eq_nil_or_concat it with rfl | ⟨it', y, rfl⟩
 ·have hTT : T = 1 ∨ T = 10 := by
   rw [← hT, ne rfl]
   cases q.2.2.1
   ·exact .inl rfl
   ·exact .inr rfl
  have w0 : IntKind.wrap .i64 (iN ([] : List ITMT).length - 1) = -1 := by decide
  have w1 : decide ((-1 : Int) ≥ 0) = false := by decide
  have w2 : Zg (-1) ([] : List ITMT).length = false := by decide
  have hi1 : ∀ x : ITMT, Nat.ble [x].length most = true := fun x => Za4 (by simp; omega)
  unfold ZeM
  rcases hTT with rfl | rfl
  ·have e1 : ((1 : Int) == 1) = true := rfl
   have e8 : ((1 : Int) == 8) = false := rfl
   have e9 : ((1 : Int) == 9) = false := rfl
   have e10 : ((1 : Int) == 10) = false := rfl
   have e7 : ((1 : Int) == 7) = false := rfl
   have n1 : ((1 : Int) != 1) = false := rfl
   simp only [RT.val, d, hin, w, hq, hT, hc.1, hc.2, hf.1, hf.2, hb.1, hb.2, hlc.1, hlc.2, htr, hi1, he1, he2, hc1, hc2, hg, w0, w1, w2, e1, e8, e9, e10, e7, n1, List.nil_append, ZdH, Zcf, Bool.or_true, Bool.true_or, Bool.not_true, Bool.false_or, Bool.or_false, Bool.not_false, Bool.or_self, Bool.false_and, Bool.true_and, Bool.and_false, cond_true, cond_false]
   unfold Zfb
   rw [hT']
   simp only [ZBc, Zof, cycN, e1, e8, e9, e10, e7, n1, cond_true, cond_false, List.nil_append]
   rfl
  ·have e1 : ((10 : Int) == 1) = false := rfl
   have e8 : ((10 : Int) == 8) = false := rfl
   have e9 : ((10 : Int) == 9) = false := rfl
   have e10 : ((10 : Int) == 10) = true := rfl
   have e7 : ((10 : Int) == 7) = false := rfl
   have n1 : ((4 : Int) != 1) = true := rfl
   simp only [RT.val, d, hin, w, hq, hT, hc.1, hc.2, hf.1, hf.2, hb.1, hb.2, hlc.1, hlc.2, htr, hi1, he1, he2, hc1, hc2, hg, w0, w1, w2, e1, e8, e9, e10, e7, n1, List.nil_append, ZdH, Zcf, Bool.or_true, Bool.true_or, Bool.not_true, Bool.false_or, Bool.or_false, Bool.not_false, Bool.or_self, Bool.false_and, Bool.true_and, Bool.and_false, cond_true, cond_false]
   unfold Zfb
   rw [hT']
   simp only [ZBc, Zof, cycN, ZHv, List.getLast?_nil, e1, e8, e9, e10, e7, n1, cond_true, cond_false, List.nil_append]
   rfl
 ·simp only [List.concat_eq_append] at hit ⊢
  have hlen : it'.length ≤ 1000000 := by simp at hit; omega
  have w0 := Zt5 it' y hlen
  have w1 : decide ((it'.length : Int) ≥ 0) = true := decide_eq_true (by omega)
  have w2 := fun z : ITMT => ZCg it' z
  have w3 := fun z : ITMT => ZEn (r := ZJk) it' z
  have w4 := fun z : ITMT => ZCe it' y z
  have w5 := fun z z2 : ITMT => ZCe it' z z2
  have hi1 : ∀ x : ITMT, Nat.ble (it' ++ [y] ++ [x]).length most = true := fun x => Za4 (by simp at hit ⊢; omega)
  have hj : ∀ f : ITMT → ITMT, Zh0 (it' ++ [y]) f = it' ++ [f y] := ZiR it' y
  unfold ZeM
  simp only [RT.val, d, hin, w, hq, hT, hc.1, hc.2, hf.1, hf.2, hb.1, hb.2, hlc.1, hlc.2, htr, hi1, he1, he2, hc1, hc2, hg, w0, w1, w2, w3, w4, w5, List.nil_append, ZdH, Zcf, Bool.or_true, Bool.true_or, Bool.not_true, Bool.false_or, Bool.or_false, Bool.not_false, Bool.or_self, Bool.false_and, Bool.true_and, Bool.and_false, cond_true, cond_false]
  unfold Zfb
  rw [hT']
  simp only [ZBc, Zof, cycN, ZHv, List.getLast?_concat, hj, ZSH, ZVE]
  cases T == 8 <;> cases T == 9 <;> cases T == 10 <;> rfl
theorem ZHG (c : CORT) (l : LINT) (d : Int) : (Zbt c l d).2.2.1.length ≤ c.2.2.1.length + 1 := by
 have he : ∀ (c : TC) (s : Int) (g : List Int) (h : Bool) (l : LINT), (endX c s g h l).2.2.1.length ≤ g.length := by
  intro c s g h l
  unfold endX
  cases (Zl c s g).2
  ·exact Nat.zero_le _
  ·exact Nat.le_refl _
 unfold Zbt
 dsimp only
 cases l.2.2.1
 ·cases Zaf c.2.2.2.2.1 == 1
  ·cases Zaf c.2.2.2.2.1 == 2 || Zaf c.2.2.2.2.1 == 7
   ·cases Zaf c.2.2.2.2.1 == 8
    ·cases Zaf c.2.2.2.2.1 == 9
     ·cases Zaf c.2.2.2.2.1 == 3
      ·cases decide (Zaf c.2.2.2.2.1 < c.2.2.2.1.2.2.2) && !(Zaf c.2.2.2.2.1 == 6)
       ·exact Nat.le_trans (he _ _ _ _ _) (Nat.le_succ _)
       ·exact Nat.le_succ _
      ·cases le3 (Zfe (Zn c.1 l) c.2.2.2.1 d).2.2.2
       ·simp only [cond_true, cond_false, List.length_append, List.length_singleton]; omega
       ·exact Nat.le_trans (he _ _ _ _ _) (by simp)
     ·cases ZdE (Zn c.1 l) l == 0
      ·exact Nat.zero_le _
      ·exact Nat.le_succ _
    ·exact Nat.le_succ _
   ·cases l.1 || !Zbr c.2.2.2.1.1 <;> exact Nat.le_succ _
  ·exact Nat.le_succ _
 ·exact Nat.zero_le _
theorem ZHF (b : BRDT) (s : SYST) (i : INPT) : (Zdd b s i).1.1 = Zbt s.1 (ZfT b (Zap b s i) i) (busS b (Zap b s i) i).2 := by
 rw [(Zw2 b s i).1]
 show Zbt (busS b (Zap b s i) i).1.1 _ _ = _
 rw [(ZtY b (Zap b s i) i).1]
 rfl
theorem ZHd {α : Type} (l : List α) (f : α → α) : (Zh0 l f).length = l.length := by
 rcases List.eq_nil_or_concat l with rfl | ⟨l', y, rfl⟩
 ·rfl
 ·rw [List.concat_eq_append, ZiR]; simp
theorem ZNq (l : List ITMT) (k : Int) (c : CORT) (n : ITMT) : (ZHv l k c n).length ≤ l.length + 1 ∧ ZHv l k c n ≠ [] := by
 unfold ZHv
 rcases List.eq_nil_or_concat l with rfl | ⟨l', y, rfl⟩
 ·exact ⟨by simp, by simp⟩
 ·rw [List.concat_eq_append, List.getLast?_concat]
  dsimp only
  cases ZSH y k c
  ·exact ⟨by simp, by simp⟩
  ·simp only [cond_true]; rw [ZiR]; exact ⟨by simp, by simp⟩
theorem ZNr (l : List ITMT) (c : CORT) (x : TY) (t : Int) (h : l = [] → t = 1 ∨ t = 10) : (ZBc l c x t).length ≤ l.length + 1 ∧ ZBc l c x t ≠ [] := by
 have hj := ZNq l (Zof t) c (Zof t, cycN c t x, 0, 1, ZQq c, sodC c)
 have ho : ∀ f : ITMT → ITMT, l ≠ [] → (Zh0 l f).length ≤ l.length + 1 ∧ Zh0 l f ≠ [] := fun f hl => by
  have := ZHd l f
  refine ⟨by omega, fun e => hl ?_⟩
  rw [e] at this
  exact List.length_eq_zero_iff.1 this.symm
 unfold ZBc
 cases hk : Zof t != 1
 ·cases h1 : t == 1
  ·have hl : l ≠ [] := fun e => by
    rcases h e with rfl | rfl
    ·simp at h1
    ·simp [Zof] at hk
   cases t == 7
   ·exact ho _ hl
   ·exact ho _ hl
  ·exact ⟨by simp, by simp⟩
 ·exact hj
theorem ZUh (s : SYST) (i : INPT) (h : Zay s.1 = 1) : nowS s i = 1 ∨ nowS s i = 10 := by
 unfold nowS
 rw [h]
 cases i.2.2.1
 ·exact .inl rfl
 ·exact .inr rfl
theorem ZUG (ev : List EVTT) (c : CORT) (l : LINT) (d : Int) (cell : Cell) (moved : Bool) : (evE ev c l d cell moved).length ≤ ev.length + 2 := by
 unfold evE
 dsimp only
 cases l.2.2.1
 ·cases (finS c l d).2 <;> cases moved <;> simp
 ·cases ZgD c <;> simp
theorem ZUH (cp : List TC) (Z8 : TC) (c after : CORT) (l : LINT) (d : Int) (moved : Bool) : (evC cp Z8 c after l d moved).length ≤ cp.length + 2 := by
 unfold evC
 dsimp only
 cases l.2.2.1
 ·cases (finS c l d).2 <;> cases moved <;> simp
 ·cases ZgD c <;> simp
theorem ZOP (b : BRDT) (Z8 : TC) (st : STT) (i : INPT) (n : Nat) (h : RunOk b st n) : RunOk b (Zfb b Z8 st i) (n + 1) := by
 have hc := Zw2 b st.1 i
 have hi := ZNr st.2.2.1 st.1.1 (Zf8 st.1.1 (nowS st.1 i) (Zdd b st.1 i).2.2.2.1) (nowS st.1 i) (fun e => ZUh st.1 i (h.ne e))
 refine ⟨h.g, ?_, ?_, ?_, ?_, ?_, ?_, ?_, ?_⟩
 ·have := h.m; show (Zdd b st.1 i).1.2.1.length ≤ _; omega
 ·have := h.o; show (Zdd b st.1 i).1.2.2.2.2.2.length ≤ _; omega
 ·have := h.k; show (Zdd b st.1 i).1.1.2.2.1.length ≤ _
  rw [ZHF]
  have := ZHG st.1.1 (ZfT b (Zap b st.1 i) i) (busS b (Zap b st.1 i) i).2
  omega
 ·have := h.t; show (st.2.1 ++ [_]).length ≤ _; simp; omega
 ·have := h.it; exact Nat.le_trans hi.1 (by omega)
 ·have := h.ev; exact Nat.le_trans (ZUG _ _ _ _ _ _) (by omega)
 ·have := h.cp; exact Nat.le_trans (ZUH _ _ _ _ _ _ _) (by omega)
 ·intro e; exact absurd e hi.2
def ZcM (b : BRDT) (Z8 : TC) (st : STT) (l : List INPT) : STT := l.foldl (Zfb b Z8) st
theorem ZtP (b : BRDT) (Z8 : TC) : ∀ (l : List INPT) (st : STT) (n : Nat), RunOk b st n → RunOk b (ZcM b Z8 st l) (n + l.length)
 | [], st, n, h => h
 | i :: l, st, n, h => by
  have := ZtP b Z8 l (Zfb b Z8 st i) (n + 1) (ZOP b Z8 st i n h)
  rw [show n + (i :: l).length = n + 1 + l.length by simp; omega]
  exact this
theorem ZIW {α : Type} (l : List α) (d : α) (i : Nat) (h : i < l.length) : l.take (i + 1) = l.take i ++ [l.getD i d] := by
 rw [List.take_add_one, List.getD_eq_getElem?_getD, List.getElem?_eq_getElem h]; rfl
theorem ZOJ (b : BRDT) (l : List INPT) (r0 : RUNT) (s0 : SYST) (Z8 : TC) (st : STT) (h : RunOk b st 0) (hl : l.length ≤ 70000) :
  runF false ZeM (fun _ => 1000000000000) (l, (l.length : Int), 0, b, r0, st.1, s0, Z8, st.2.1, st.2.2.1, st.2.2.2.1, st.2.2.2.2, ()) =
   some (false, (l, (l.length : Int), (l.length : Int), b, r0, (ZcM b Z8 st l).1, s0, Z8, (ZcM b Z8 st l).2.1, (ZcM b Z8 st l).2.2.1, (ZcM b Z8 st l).2.2.2.1, (ZcM b Z8 st l).2.2.2.2, ())) := by
 obtain ⟨r, hr, h1⟩ := Zax (fl := false) (t := ZeM) (fuel := fun _ => 1000000000000)
  (fun a => ∃ i : Nat, i ≤ l.length ∧ a = (l, (l.length : Int), (i : Int), b, r0, (ZcM b Z8 st (l.take i)).1, s0, Z8, (ZcM b Z8 st (l.take i)).2.1, (ZcM b Z8 st (l.take i)).2.2.1, (ZcM b Z8 st (l.take i)).2.2.2.1, (ZcM b Z8 st (l.take i)).2.2.2.2, ()))
  (fun a => Int.toNat (a.2.1 - a.2.2.1)) (fun r => r = (false, (l, (l.length : Int), (l.length : Int), b, r0, (ZcM b Z8 st l).1, s0, Z8, (ZcM b Z8 st l).2.1, (ZcM b Z8 st l).2.2.1, (ZcM b Z8 st l).2.2.2.1, (ZcM b Z8 st l).2.2.2.2, ())))
  (by
   rintro a ⟨i, hi, rfl⟩
   by_cases hlt : i < l.length
   ·left
    have hk := ZtP b Z8 (l.take i) st 0 h
    have hv := ZJg b l i r0 s0 Z8 (ZcM b Z8 st (l.take i)) _ hk hlt (by omega) (by simp; omega)
    refine ⟨_, hv, ⟨i + 1, hlt, ?_⟩, by simp only; omega⟩
    have e : ZcM b Z8 st (l.take (i + 1)) = Zfb b Z8 (ZcM b Z8 st (l.take i)) (R.get Zdi l (i : Int)) := by
     rw [ZIW l Zdi.dflt i hlt]
     simp only [ZcM, List.foldl_append, List.foldl_cons, List.foldl_nil]
     rfl
    rw [e]
   ·right; left
    have e : i = l.length := by omega
    subst e
    have d : decide ((l.length : Int) < (l.length : Int)) = false := decide_eq_false (by omega)
    rw [List.take_length]
    exact ⟨_, by simp only [ZeM, RT.val, d, cond_false], rfl⟩)
  (l, (l.length : Int), 0, b, r0, st.1, s0, Z8, st.2.1, st.2.2.1, st.2.2.2.1, st.2.2.2.2, ()) ⟨0, Nat.zero_le _, rfl⟩ (by simp only; omega)
 rw [h1] at hr
 exact hr
def ZjS (b : BRDT) : STT := ((wNew b).1, [], [], [], [])
def Zep (b : BRDT) : TC := (wNew b).1.1.1
def ZED : SYST := ((ZOg, 0, [], (0, 0, 0, 0), 0, false), [], (0, false, false, false, false, 0, 0, false, false, false, false, false, 0, 0, 0, 0, 0, 0, 0, false), (0, 0, 0), 0, [])
theorem ZHS (b : BRDT) (hg : smG b.2.1 = true) (hm : smC b.2.2.2.2.2.2 = true) : ZpR b = true := by
 unfold ZpR ZpP
 simp only [RT.val, hg, hm, Bool.or_true, cond_true]
 cases b.1 != 1 && b.1 != 2
 ·cases ZeO b.2.1 != 0
  ·cases decide (b.2.2.1 < 0) || (decide (b.2.2.1 > 100) || !vldB b.2.2.2.2.2.2) <;> rfl
  ·rfl
 ·rfl
def newS (b : BRDT) : SYST := ((((newX b.1).1.1, (0, 0, 0, 0, 0, 0, 0, (false, false, false, false, false, false, false), 0, 0), false, false, false, (newX b.1).1.2.2.2.2.2.1, false, false, false, false, false, false, false), 0, [], (1, 0, 0, 4), 1, false),
 normX b.2.2.2.2.2.2, (0, false, false, false, false, 0, 0, false, false, false, false, false, 0, 0, 0, 0, 7, 0, 0, false), (0, 0, 0), 0, [])
theorem ZH2 (b : BRDT) (hg : smG b.2.1 = true) (hm : b.2.2.2.2.2.2.length ≤ 100000) : ZOk b = true ∧ (wNew b).2 = ZgF b ∧ ((wNew b).2 = 0 → RunOk b (ZjS b) 0 ∧ (wNew b).1.2.1 = normX b.2.2.2.2.2.2) := by
 have hc := smCb (l := b.2.2.2.2.2.2) (by omega)
 have hv : (ZH3 b).val = some (bif ZgF b != 0 then (ZED, ZgF b) else ((newS b), 0)) := by
  unfold ZH3
  simp only [RT.val, ZHS b hg hc, hc, cond_true]
  cases ZgF b != 0 <;> rfl
 refine ⟨by simp only [ZOk, hv]; rfl, ?_, ?_⟩
 ·simp only [wNew, hv, getO]
  cases hx : ZgF b != 0
  ·simp at hx; exact hx.symm
  ·rfl
 ·intro h0
  have hx : (ZgF b != 0) = false := by
   cases hx : ZgF b != 0
   ·rfl
   ·simp only [wNew, hv, getO, hx, cond_true] at h0
    rw [h0] at hx; simp at hx
  have e : wNew b = ((newS b), 0) := by
   simp only [wNew, hv, getO, hx, cond_false]
  have hn := ZdJ b.2.2.2.2.2.2
  unfold ZjS
  rw [e]
  exact ⟨⟨hg, by show (normX b.2.2.2.2.2.2).length ≤ _; omega, Nat.le_refl _, Nat.le_refl _, Nat.le_refl _, Nat.le_refl _, Nat.le_refl _, Nat.le_refl _, fun _ => rfl⟩, rfl⟩
def endS (Z8 : TC) (st : STT) : RUNT :=
 (st.2.1, st.2.2.1, bif ZgD st.1.1 then st.2.2.2.1 ++ [(7, st.1.1.2.1, st.1.1.2.2.1, ZHM, false, false, false, false, 0, 0)] else st.2.2.2.1, bif ZgD st.1.1 then st.2.2.2.2 ++ [ZNo Z8 st.2.2.2.2] else st.2.2.2.2, st.1)
def ZJa (b : BRDT) (l : List INPT) : RUNT × Int := bif (wNew b).2 != 0 then (([], [], [], [], ZED), (wNew b).2) else (endS (Zep b) (ZcM b (Zep b) (ZjS b) l), 0)
theorem ZSp (b : BRDT) (l : List Int) (hg : smG b.2.1 = true) (hm : b.2.2.2.2.2.2.length ≤ 100000) (hl : l.length ≤ 4000) : ZOi b l = true ∧ wRun b l = ZJa b (Za1 l) := by
 have hms := mst
 have hd := Zon l hl
 have hn := ZH2 b hg hm
 have hv : (ZHX b l).val = some (ZJa b (Za1 l)) := by
  unfold ZHX ZJa
  cases hx : (wNew b).2 != 0
  ·have h0 : (wNew b).2 = 0 := by simpa using hx
   have hi := (hn.2.2 h0).1
   have hf := ZtP b (Zep b) (Za1 l) (ZjS b) 0 hi
   have hr := ZOJ b (Za1 l) ([], [], [], [], ZED) ZED (Zep b) (ZjS b) hi (by omega)
   have hr' : runF false ZeM (fun _ => 1000000000000) (Za1 l, iN (Za1 l).length, 0, b, ([], [], [], [], ((0, (0, 0, 0, 0, 0, 0, 0, (false, false, false, false, false, false, false), 0, 0), false, false, false, 0, false, false, false, false, false, false, false), 0, [], (0, 0, 0, 0), 0, false), [], (0, false, false, false, false, 0, 0, false, false, false, false, false, 0, 0, 0, 0, 0, 0, 0, false), (0, 0, 0), 0, []), (wNew b).1, (((0, (0, 0, 0, 0, 0, 0, 0, (false, false, false, false, false, false, false), 0, 0), false, false, false, 0, false, false, false, false, false, false, false), 0, [], (0, 0, 0, 0), 0, false), [], (0, false, false, false, false, 0, 0, false, false, false, false, false, 0, 0, 0, 0, 0, 0, 0, false), (0, 0, 0), 0, []), (wNew b).1.1.1, [], [], [], [], ()) = some (false, (Za1 l, ((Za1 l).length : Int), ((Za1 l).length : Int), b, ([], [], [], [], ZED), (ZcM b (Zep b) (ZjS b) (Za1 l)).1, ZED, Zep b, (ZcM b (Zep b) (ZjS b) (Za1 l)).2.1, (ZcM b (Zep b) (ZjS b) (Za1 l)).2.2.1, (ZcM b (Zep b) (ZjS b) (Za1 l)).2.2.2.1, (ZcM b (Zep b) (ZjS b) (Za1 l)).2.2.2.2, ())) := hr
   simp only [RT.val, hn.1, hd.1, hr', hx, okB, getO, cond_true, cond_false]
   obtain ⟨st, hst⟩ : ∃ st, ZcM b (Zep b) (ZjS b) (Za1 l) = st := ⟨_, rfl⟩
   rw [hst] at hf ⊢
   have hk := hf.k
   have he := hf.ev
   have hc := hf.cp
   have hdl := hd.2
   have hlc := ZEi (Zep b) st.2.2.2.2 (by omega)
   have b1 : Nat.ble (List.length st.1.1.2.2.1) most = true := Za4 (by omega)
   have b2 : ∀ x : EVTT, Nat.ble (List.length (st.2.2.2.1 ++ [x])) most = true := fun x => Za4 (by simp; omega)
   have b3 : ∀ x : TC, Nat.ble (List.length (st.2.2.2.2 ++ [x])) most = true := fun x => Za4 (by simp; omega)
   simp only [hlc.1, hlc.2, b1, b2, b3, List.nil_append, Bool.or_true, Bool.not_true, Bool.false_or, cond_true]
   unfold endS
   cases ZgD st.1.1 <;> rfl
  ·simp only [RT.val, hn.1, hx, cond_true]
   rfl
 exact ⟨by simp only [ZOi, hv]; rfl, by simp only [wRun, hv, getO]⟩
end
end Go.Proofs.YtghoimllhpjkjaaGreat
open Go Go.S3 Go.Proofs
namespace Go.Proofs.YtghoimllhpjkjaaGreat
noncomputable section
abbrev ZVL : List Sh := []
abbrev ZUr : Rs := Rs.one (Sh.one R.bool)
def kKcT : RT (Option (Bool)) :=
 let x1 : LINT := (true, false, false, false, false, false, false, false, false)
 let x2 : CORT := (clkX (newX 1) x1 0).1
 let x3 := ZcV x2
 let x4 := !x3
 let x5 : CORT := (clkX x2 x1 0).1
 let x6 := ZcV x5
 let x7 := !x6
 let x8 : CORT := (clkX x5 x1 0).1
 let x9 := ZcV x8
 let p1 := (!x9) :: x7 :: x4 :: (!ZcV (newX 1)) :: []
 .br (orR p1 (ZcV (clkX x8 x1 0).1)) (.br (!ZcV (newX 1) || (x4 || (x7 || x9))) (.br (!ZcV (newX 1) || (x4 || x6)) (.br (!ZcV (newX 1) || x3) (.br (ZcV (newX 1)) (.leaf (some (true))) (.leaf none)) (.leaf none)) (.leaf none)) (.leaf none)) (.leaf none)
def kKc : Bool := getO ZUr.dflt (kKcT ).val
def kKcC : Bool := okB (kKcT ).val
def kKcE : Entry := Zf ZVL ZUr (fun a => some (kKcC )) (fun a => kKc )
theorem ZwG : Zc Tryz.prog 20 kKcE :=
 pureP 63 [(26, ZcT), (69, ZRX)] [] ZVL ZUr ⟨Zds, ZPU, trivial⟩ Tryz.func20 Tryz.call20 trivial (t := fun a => kKcT ) (fun a => by kernel_rfl)
def Z4 : Entry := .tree (ZP (envX Tryz.prog [] [] 7 8) Tryz.f21)
theorem ZaE : Zc Tryz.prog 21 Z4 := Zab (P := Tryz.prog) (n := 7) (k := 8) (l := []) (ol := []) trivial Tryz.func21 rfl (by kernel_rfl) Tryz.call21 trivial
abbrev ZwE : List Sh := [Sh.agg (R.pair Zx (R.pair (R.int i64) (R.pair (R.sl (R.int u8)) (R.pair (RY) (R.pair (R.int i64) R.bool))))), Sh.agg ZgC, Sh.one (R.int u8), Sh.one (R.sl (R.int i64)), Sh.one (R.int i64)]
abbrev ZnG : Rs := Rs.one (Sh.one R.bool)
def ZHu : LS := { n := 92, slots := [(2, .code (Sh.one (R.int u8))), (6, .fix (A.loc 1 0)), (10, .code (Sh.one R.bool)), (14, .fix (A.loc 5 0)), (16, .fix (A.loc 6 0)), (49, .code (Sh.agg (R.pair (R.pair Zx (R.pair (R.int i64) (R.pair (R.sl (R.int u8)) (R.pair (RY) (R.pair (R.int i64) R.bool))))) (R.pair (R.pair Zx (R.pair (R.int i64) (R.pair (R.sl (R.int u8)) (R.pair (RY) (R.pair (R.int i64) R.bool))))) (R.pair Zx (R.pair (R.int i64) (R.pair (R.sl (R.int u8)) (R.pair (RY) (R.pair (R.int i64) R.bool))))))))), (50, .code (Sh.one (R.int i64))), (55, .code (Sh.agg (R.pair ZgC ZgC))), (56, .code (Sh.one (R.int i64)))], boxes := [[.many (R.pair Zx (R.pair (R.int i64) (R.pair (R.sl (R.int u8)) (R.pair (RY) (R.pair (R.int i64) R.bool)))))], [.many ZgC], [.code (.sl (R.int i64)), .code (.int i64)], [.many (R.pair Zx (R.pair (R.int i64) (R.pair (R.sl (R.int u8)) (R.pair (RY) (R.pair (R.int i64) R.bool)))))], [.many (R.pair Zx (R.pair (R.int i64) (R.pair (R.sl (R.int u8)) (R.pair (RY) (R.pair (R.int i64) R.bool)))))], [.many ZgC], [.many (R.pair Zx (R.pair (R.int i64) (R.pair (R.sl (R.int u8)) (R.pair (RY) (R.pair (R.int i64) R.bool)))))]], stgs := [] }
def Zdv (a : QT10) : RT (Option (Go1 (QT10))) :=
 let x1 := decide (0 ≤ a.2.2.2.2.2.1 ∧ a.2.2.2.2.2.1 < 2)
 let x2 := !x1
 let x3 := a.2.2.2.2.2.2.2.2.2.2.2.2.2.1
 let x4 := ZcV x3
 let x7 := clkX x3 (R.sel ZgC (a.2.2.2.2.2.1 == 0) a.2.2.2.2.1.1 a.2.2.2.2.1.2) a.1
 let x8 := x7.1
 let x9 := x7.2
 let x42 : CORT × LINT × List Int × Int × CORT × CORT × LINT × CORT × PUnit := (a.2.2.2.2.2.2.1, a.2.2.2.2.2.2.2.1, a.2.2.2.2.2.2.2.2.1, a.2.2.2.2.2.2.2.2.2.1, a.2.2.2.2.2.2.2.2.2.2.1, a.2.2.2.2.2.2.2.2.2.2.2.1, a.2.2.2.2.2.2.2.2.2.2.2.2.1, x3, PUnit.unit)
 let x43 : (CORT × CORT × CORT) × Int × (LINT × LINT) × Int × CORT × LINT × List Int × Int × CORT × CORT × LINT × CORT × PUnit := (a.2.2.1, a.2.2.2.1, a.2.2.2.2.1, a.2.2.2.2.2.1, x42)
 .br (decide (a.2.2.2.2.2.1 < 2)) (.br (x2 || (!x4 || x4)) (.br (x2 || x4) (.br (x1) (.br (!ZJu x8 x8 || (!(R.eqf ZOT x9 x9 true) || !ZMC x3 == ZgD x3)) (.leaf (some (Go1.ret (a.1, false, x43)))) (.leaf (some (Go1.cont (a.1, a.2.1, a.2.2.1, a.2.2.2.1, a.2.2.2.2.1, i64.wrap (a.2.2.2.2.2.1 + 1), x42))))) (.leaf none)) (.leaf none)) (.leaf none)) (.leaf (some (Go1.brk (a.1, a.2.1, x43))))
def Zgt : Ora := ZdV true ZHu Zdv (fun a => 5)
theorem ZjA : ZcS (envX Tryz.prog [(20, kKcE), (21, Z4), (22, Zh8), (23, ZHm), (24, Zg9), (25, ZeY), (26, ZcT), (27, ZeT), (28, ZhA), (29, ZhZ), (30, ZfE)] [] 8388607 8) (.block 2 (.loop (Zbc Tryz.f4.body 2))) Zgt :=
 Zaa (Zag (l := [(20, kKcE), (21, Z4), (22, Zh8), (23, ZHm), (24, Zg9), (25, ZeY), (26, ZcT), (27, ZeT), (28, ZhA), (29, ZhZ), (30, ZfE)]) ⟨ZwG, ZaE, Zh7, ZA1, Zia, ZfR, Zds, Zgk, Zhz, ZhY, Zgl, trivial⟩ [] 8388607 8) (ZO (by kernel_rfl)) (fun a => by kernel_rfl)
def ZHt : LS := { n := 92, slots := [(2, .code (Sh.one (R.int u8))), (6, .fix (A.loc 1 0)), (10, .code (Sh.one R.bool)), (14, .fix (A.loc 5 0)), (49, .code (Sh.agg (R.pair (R.pair Zx (R.pair (R.int i64) (R.pair (R.sl (R.int u8)) (R.pair (RY) (R.pair (R.int i64) R.bool))))) (R.pair (R.pair Zx (R.pair (R.int i64) (R.pair (R.sl (R.int u8)) (R.pair (RY) (R.pair (R.int i64) R.bool))))) (R.pair Zx (R.pair (R.int i64) (R.pair (R.sl (R.int u8)) (R.pair (RY) (R.pair (R.int i64) R.bool))))))))), (50, .code (Sh.one (R.int i64)))], boxes := [[.many (R.pair Zx (R.pair (R.int i64) (R.pair (R.sl (R.int u8)) (R.pair (RY) (R.pair (R.int i64) R.bool)))))], [.many ZgC], [.code (.sl (R.int i64)), .code (.int i64)], [.many (R.pair Zx (R.pair (R.int i64) (R.pair (R.sl (R.int u8)) (R.pair (RY) (R.pair (R.int i64) R.bool)))))], [.many (R.pair Zx (R.pair (R.int i64) (R.pair (R.sl (R.int u8)) (R.pair (RY) (R.pair (R.int i64) R.bool)))))], [.many ZgC]], stgs := [] }
def Zb8 (a : QT12) : RT (Option (Go1 (QT12))) :=
 let x1 := decide (0 ≤ a.2.2.2.1 ∧ a.2.2.2.1 < 3)
 let x45 : QT10 := (a.1, a.2.1, a.2.2.1, a.2.2.2.1, (a.2.2.2.2.2.1, a.2.2.2.2.2.2.2.2.2.2.1), 0, a.2.2.2.2.1, a.2.2.2.2.2.1, a.2.2.2.2.2.2.1, a.2.2.2.2.2.2.2.1, a.2.2.2.2.2.2.2.2.1, a.2.2.2.2.2.2.2.2.2.1, a.2.2.2.2.2.2.2.2.2.2.1, ((R.sel Zx (a.2.2.2.1 == 0) a.2.2.1.1.1 (R.sel Zx (a.2.2.2.1 == iN (0 + 1)) a.2.2.1.2.1.1 a.2.2.1.2.2.1)), bif a.2.2.2.1 == 0 then a.2.2.1.1.2.1 else bif a.2.2.2.1 == iN (0 + 1) then a.2.2.1.2.1.2.1 else a.2.2.1.2.2.2.1, bif a.2.2.2.1 == 0 then a.2.2.1.1.2.2.1 else bif a.2.2.2.1 == iN (0 + 1) then a.2.2.1.2.1.2.2.1 else a.2.2.1.2.2.2.2.1, (R.sel RY (a.2.2.2.1 == 0) a.2.2.1.1.2.2.2.1 (R.sel RY (a.2.2.2.1 == iN (0 + 1)) a.2.2.1.2.1.2.2.2.1 a.2.2.1.2.2.2.2.2.1)), bif a.2.2.2.1 == 0 then a.2.2.1.1.2.2.2.2.1 else bif a.2.2.2.1 == iN (0 + 1) then a.2.2.1.2.1.2.2.2.2.1 else a.2.2.1.2.2.2.2.2.2.1, bif a.2.2.2.1 == 0 then a.2.2.1.1.2.2.2.2.2 else bif a.2.2.2.1 == iN (0 + 1) then a.2.2.1.2.1.2.2.2.2.2 else a.2.2.1.2.2.2.2.2.2.2), ())
 let x46 := runF true Zdv (fun a_1 => 5) x45
 let x47 := getO (false, x45) x46
 let x48 := x47.2
 let x49 := x48.1
 let x50 := x48.2
 let x51 := x50.1
 let x52 := x50.2
 let x53 := x52.1
 let x54 := x52.2
 let x55 := x54.1
 let x56 := x54.2.2.2
 let x57 := x56.2
 let x58 := x57.2
 let x59 := x58.2
 let x60 := x59.2
 let x61 := x60.2
 let x62 : CORT × LINT × List Int × Int × CORT × CORT × LINT × PUnit := (x56.1, x57.1, x58.1, x59.1, x60.1, x61.1, x61.2.1, PUnit.unit)
 .br (decide (a.2.2.2.1 < 3)) (.br (!x1 || okB x46) (.br (x1) (.br x47.1 (.leaf (some (Go1.ret (x49, x51, x53, x55, x62)))) (.leaf (some (Go1.cont (x49, x51, x53, i64.wrap (x55 + 1), x62))))) (.leaf none)) (.leaf none)) (.leaf (some (Go1.brk (a.1, a.2.1, a.2.2.1, a.2.2.2.1, a.2.2.2.2.1, a.2.2.2.2.2.1, a.2.2.2.2.2.2.1, a.2.2.2.2.2.2.2.1, a.2.2.2.2.2.2.2.2.1, a.2.2.2.2.2.2.2.2.2.1, a.2.2.2.2.2.2.2.2.2.2.1, PUnit.unit))))
def ZpB : Ora := ZdV true ZHt Zb8 (fun a => 5)
theorem ZwF : ZcS (envX Tryz.prog [(20, kKcE), (21, Z4), (22, Zh8), (23, ZHm), (24, Zg9), (25, ZeY), (26, ZcT), (27, ZeT), (28, ZhA), (29, ZhZ), (30, ZfE)] [(2, Zgt)] 8388607 8) (.block 0 (.loop (Zbc Tryz.f4.body 0))) ZpB :=
 Zaa (Zag (l := [(20, kKcE), (21, Z4), (22, Zh8), (23, ZHm), (24, Zg9), (25, ZeY), (26, ZcT), (27, ZeT), (28, ZhA), (29, ZhZ), (30, ZfE)]) ⟨ZwG, ZaE, Zh7, ZA1, Zia, ZfR, Zds, Zgk, Zhz, ZhY, Zgl, trivial⟩ [(2, Zgt)] 8388607 8) (Znx (by kernel_rfl) (by kernel_rfl) ⟨ZjA, trivial⟩) (fun a => by kernel_rfl)
def Zgs (c : CORT) (l : LINT) (b : Int) (n : List Int) (next : Int) : RT (Option (Bool)) :=
 let x1 := decide (iN (List.length c.2.2.1) > 20) || decide (iN (List.length n) > 200)
 let x2 : CORT := ((nCPU (Zbu (n, 0) 20).2).1, c.2.1, c.2.2.1, c.2.2.2.1, Znv next 12, c.2.2.2.2.2)
 let x3 : QT12 := (b, false, (c, (Zbu (n, 0) 20).1, x2), 0, c, l, (Zch (nCPU (Zbu (n, 0) 20).2).2).2.1, (Zch (nCPU (Zbu (n, 0) 20).2).2).2.2, (Zbu (n, 0) 20).1, x2, (Zch (nCPU (Zbu (n, 0) 20).2).2).1, ())
 let x4 := runF true Zb8 (fun a => 5) x3
 let x5 := getO (false, x3) x4
 .br (!x1 || kKcC) (.br (x1) (.leaf (some (true))) (.br (Zwj (n, 0) 20) (.br (!ZNa (Zbu (n, 0) 20).2 || Znu next 12) (.br (ZNa (Zbu (n, 0) 20).2) (.br (Zng (nCPU (Zbu (n, 0) 20).2).2) (.br (okB x4) (.br x5.1 (.leaf (some x5.2.2.1)) (.br (kKcC) (.leaf (some (true))) (.leaf none))) (.leaf none)) (.leaf none)) (.leaf none)) (.leaf none)) (.leaf none))) (.leaf none)
def ZBa (c : CORT) (l : LINT) (b : Int) (n : List Int) (next : Int) : Bool := getO ZnG.dflt (Zgs c l b n next).val
def ZtD (c : CORT) (l : LINT) (b : Int) (n : List Int) (next : Int) : Bool := okB (Zgs c l b n next).val
def ZQn : Entry := Zf ZwE ZnG (fun a => some (ZtD a.1 a.2.1 a.2.2.1 a.2.2.2.1 a.2.2.2.2)) (fun a => ZBa a.1 a.2.1 a.2.2.1 a.2.2.2.1 a.2.2.2.2)
theorem lClocks_ok : Zc Tryz.prog 4 ZQn :=
 pureP 8388607 [(20, kKcE), (21, Z4), (22, Zh8), (23, ZHm), (24, Zg9), (25, ZeY), (26, ZcT), (27, ZeT), (28, ZhA), (29, ZhZ), (30, ZfE)] [(2, Zgt), (0, ZpB)] ZwE ZnG ⟨ZwG, ZaE, Zh7, ZA1, Zia, ZfR, Zds, Zgk, Zhz, ZhY, Zgl, trivial⟩ Tryz.func4 Tryz.call4 ⟨ZjA, ZwF, trivial⟩ (t := fun a => Zgs a.1 a.2.1 a.2.2.1 a.2.2.2.1 a.2.2.2.2) (fun a => by kernel_rfl)
abbrev ZwC : List Sh := [Sh.agg (R.pair Zx (R.pair (R.int i64) (R.pair (R.sl (R.int u8)) (R.pair (RY) (R.pair (R.int i64) R.bool))))), Sh.one (R.sl (R.int i64)), Sh.one (R.int u8)]
abbrev ZnF : Rs := Rs.one (Sh.one R.bool)
def ZHs : LS := { n := 85, slots := [(2, .code (Sh.one (R.int u8))), (6, .code (Sh.one R.bool)), (9, .fix (A.loc 3 0)), (36, .code (Sh.agg (R.pair (R.pair Zx (R.pair (R.int i64) (R.pair (R.sl (R.int u8)) (R.pair (RY) (R.pair (R.int i64) R.bool))))) (R.pair Zx (R.pair (R.int i64) (R.pair (R.sl (R.int u8)) (R.pair (RY) (R.pair (R.int i64) R.bool)))))))), (37, .code (Sh.one (R.int i64)))], boxes := [[.many (R.pair Zx (R.pair (R.int i64) (R.pair (R.sl (R.int u8)) (R.pair (RY) (R.pair (R.int i64) R.bool)))))], [.code (.sl (R.int i64)), .code (.int i64)], [.many (R.pair Zx (R.pair (R.int i64) (R.pair (R.sl (R.int u8)) (R.pair (RY) (R.pair (R.int i64) R.bool)))))], [.many ZgC]], stgs := [] }
def ZcG (a : QT13) : RT (Option (Go1 (QT13))) :=
 let x1 := decide (0 ≤ a.2.2.2.1 ∧ a.2.2.2.1 < 2)
 let x2 := !x1
 let x3 : Int := bif a.2.2.2.1 == 0 then a.2.2.1.1.1.2.1.1 else a.2.2.1.2.1.2.1.1
 let x4 : Int := bif a.2.2.2.1 == 0 then a.2.2.1.1.1.2.1.2.1 else a.2.2.1.2.1.2.1.2.1
 let x5 : Int := bif a.2.2.2.1 == 0 then a.2.2.1.1.1.2.1.2.2.1 else a.2.2.1.2.1.2.1.2.2.1
 let x6 : Int := bif a.2.2.2.1 == 0 then a.2.2.1.1.1.2.1.2.2.2.1 else a.2.2.1.2.1.2.1.2.2.2.1
 let x7 : Int := bif a.2.2.2.1 == 0 then a.2.2.1.1.1.2.1.2.2.2.2.1 else a.2.2.1.2.1.2.1.2.2.2.2.1
 let x8 : Int := bif a.2.2.2.1 == 0 then a.2.2.1.1.1.2.1.2.2.2.2.2.1 else a.2.2.1.2.1.2.1.2.2.2.2.2.1
 let x9 := a.2.2.1.1.1.2.1.2.2.2.2.2.2
 let x10 := a.2.2.1.2.1.2.1.2.2.2.2.2.2
 let x11 : Int := bif a.2.2.2.1 == 0 then x9.1 else x10.1
 let x12 := x9.2
 let x13 := x12.1
 let x14 := x10.2
 let x15 := x14.1
 let x16 := bif a.2.2.2.1 == 0 then x13.1 else x15.1
 let x17 := x13.2
 let x18 := x15.2
 let x19 := bif a.2.2.2.1 == 0 then x17.1 else x18.1
 let x20 := x17.2
 let x21 := x18.2
 let x22 := bif a.2.2.2.1 == 0 then x20.1 else x21.1
 let x23 := x20.2
 let x24 := x21.2
 let x25 := bif a.2.2.2.1 == 0 then x23.1 else x24.1
 let x26 := x23.2
 let x27 := x24.2
 let x28 := bif a.2.2.2.1 == 0 then x26.1 else x27.1
 let x29 := x26.2
 let x30 := x27.2
 let x31 := bif a.2.2.2.1 == 0 then x29.1 else x30.1
 let x32 := bif a.2.2.2.1 == 0 then x29.2 else x30.2
 let x33 := x12.2
 let x34 := x14.2
 let x35 : Int := bif a.2.2.2.1 == 0 then x33.1 else x34.1
 let x36 := a.2.2.1.1.1.2.2.2.2.2.2.2.2
 let x37 := a.2.2.1.2.1.2.2.2.2.2.2.2.2
 let x38 := x36.2
 let x39 := x37.2
 let x40 := x38.2
 let x41 := x39.2
 let x42 := x40.2
 let x43 := x41.2
 let x44 : CORT := ((bif a.2.2.2.1 == 0 then a.2.2.1.1.1.1 else a.2.2.1.2.1.1, (x3, x4, x5, x6, x7, x8, x11, (x16, x19, x22, x25, x28, x31, x32), x35, bif a.2.2.2.1 == 0 then x33.2 else x34.2), bif a.2.2.2.1 == 0 then a.2.2.1.1.1.2.2.1 else a.2.2.1.2.1.2.2.1, bif a.2.2.2.1 == 0 then a.2.2.1.1.1.2.2.2.1 else a.2.2.1.2.1.2.2.2.1, bif a.2.2.2.1 == 0 then a.2.2.1.1.1.2.2.2.2.1 else a.2.2.1.2.1.2.2.2.2.1, bif a.2.2.2.1 == 0 then a.2.2.1.1.1.2.2.2.2.2.1 else a.2.2.1.2.1.2.2.2.2.2.1, bif a.2.2.2.1 == 0 then a.2.2.1.1.1.2.2.2.2.2.2.1 else a.2.2.1.2.1.2.2.2.2.2.2.1, bif a.2.2.2.1 == 0 then a.2.2.1.1.1.2.2.2.2.2.2.2.1 else a.2.2.1.2.1.2.2.2.2.2.2.2.1, bif a.2.2.2.1 == 0 then x36.1 else x37.1, bif a.2.2.2.1 == 0 then x38.1 else x39.1, bif a.2.2.2.1 == 0 then x40.1 else x41.1, bif a.2.2.2.1 == 0 then x42.1 else x43.1, bif a.2.2.2.1 == 0 then x42.2 else x43.2), bif a.2.2.2.1 == 0 then a.2.2.1.1.2.1 else a.2.2.1.2.2.1, bif a.2.2.2.1 == 0 then a.2.2.1.1.2.2.1 else a.2.2.1.2.2.2.1, (R.sel RY (a.2.2.2.1 == 0) a.2.2.1.1.2.2.2.1 a.2.2.1.2.2.2.2.1), bif a.2.2.2.1 == 0 then a.2.2.1.1.2.2.2.2.1 else a.2.2.1.2.2.2.2.2.1, bif a.2.2.2.1 == 0 then a.2.2.1.1.2.2.2.2.2 else a.2.2.1.2.2.2.2.2.2)
 let x45 := ZcV x44
 let x46 := clkX x44 a.2.2.2.2.2.2.2.2.1 a.1
 let x47 := x46.1
 let x48 := x47.1.2.1
 let x49 := x48.2
 let x50 := x49.2
 let x51 := x50.2
 let x52 := x51.2
 let x53 := x52.2
 let x54 := x53.2
 let x55 := x54.2
 let x56 := x55.1
 let x57 := x56.2
 let x58 := x57.2
 let x59 := x58.2
 let x60 := x59.2
 let x61 := x60.2
 let x62 := x55.2
 let x63 := clkX x47 a.2.2.2.2.2.2.2.2.1 a.1
 let p1 := (ZMC x47) :: (x63.2.1 != 10) :: (x46.2.1 != 10) :: (!(x48.1 == x3 && (x49.1 == x4 && (x50.1 == x5 && (x51.1 == x6 && (x52.1 == x7 && (x53.1 == x8 && (x54.1 == x11 && (x56.1 == x16 && (x57.1 == x19 && (x58.1 == x22 && (x59.1 == x25 && (x60.1 == x28 && (x61.1 == x31 && (x61.2 == x32 && (x62.1 == x35 && (x62.2 == 0 && true))))))))))))))))) :: []
 let x64 : CORT × List Int × Int × CORT × LINT × PUnit := (a.2.2.2.2.1, a.2.2.2.2.2.1, a.2.2.2.2.2.2.1, a.2.2.2.2.2.2.2.1, a.2.2.2.2.2.2.2.2.1, PUnit.unit)
 let x65 : (CORT × CORT) × Int × CORT × List Int × Int × CORT × LINT × PUnit := (a.2.2.1, a.2.2.2.1, x64)
 .br (decide (a.2.2.2.1 < 2)) (.br (x2 || (!x45 || ZcV x47)) (.br (x2 || x45) (.br (x1) (.br (orR p1 (!ZJu x47 x63.1)) (.leaf (some (Go1.ret (a.1, false, x65)))) (.leaf (some (Go1.cont (a.1, a.2.1, a.2.2.1, i64.wrap (a.2.2.2.1 + 1), x64))))) (.leaf none)) (.leaf none)) (.leaf none)) (.leaf (some (Go1.brk (a.1, a.2.1, x65))))
def ZpA : Ora := ZdV true ZHs ZcG (fun a => 5)
theorem ZwD : ZcS (envX Tryz.prog [(20, kKcE), (21, Z4), (22, Zh8), (25, ZeY), (26, ZcT), (28, ZhA), (29, ZhZ)] [] 131071 8) (.block 0 (.loop (Zbc Tryz.f5.body 0))) ZpA :=
 Zaa (Zag (l := [(20, kKcE), (21, Z4), (22, Zh8), (25, ZeY), (26, ZcT), (28, ZhA), (29, ZhZ)]) ⟨ZwG, ZaE, Zh7, ZfR, Zds, Zhz, ZhY, trivial⟩ [] 131071 8) (ZO (by kernel_rfl)) (fun a => by kernel_rfl)
def Zgr (c : CORT) (n : List Int) (b : Int) : RT (Option (Bool)) :=
 let x1 := decide (iN (List.length c.2.2.1) > 20) || decide (iN (List.length n) > 200)
 let x2 : QT13 := (b, false, (c, (Zbu (n, 0) 20).1), 0, c, (Zch (Zbu (n, 0) 20).2).2.1, (Zch (Zbu (n, 0) 20).2).2.2, (Zbu (n, 0) 20).1, ((Zch (Zbu (n, 0) 20).2).1.1, (Zch (Zbu (n, 0) 20).2).1.2.1, true, (Zch (Zbu (n, 0) 20).2).1.2.2.2), ())
 let x3 := runF true ZcG (fun a => 5) x2
 let x4 := getO (false, x2) x3
 .br (!x1 || kKcC) (.br (x1) (.leaf (some (true))) (.br (Zwj (n, 0) 20) (.br (Zng (Zbu (n, 0) 20).2) (.br (okB x3) (.br x4.1 (.leaf (some x4.2.2.1)) (.br (kKcC) (.leaf (some (true))) (.leaf none))) (.leaf none)) (.leaf none)) (.leaf none))) (.leaf none)
def ZA9 (c : CORT) (n : List Int) (b : Int) : Bool := getO ZnF.dflt (Zgr c n b).val
def ZtC (c : CORT) (n : List Int) (b : Int) : Bool := okB (Zgr c n b).val
def ZQm : Entry := Zf ZwC ZnF (fun a => some (ZtC a.1 a.2.1 a.2.2)) (fun a => ZA9 a.1 a.2.1 a.2.2)
theorem lResets_ok : Zc Tryz.prog 5 ZQm :=
 pureP 131071 [(20, kKcE), (21, Z4), (22, Zh8), (25, ZeY), (26, ZcT), (28, ZhA), (29, ZhZ)] [(0, ZpA)] ZwC ZnF ⟨ZwG, ZaE, Zh7, ZfR, Zds, Zhz, ZhY, trivial⟩ Tryz.func5 Tryz.call5 ⟨ZwD, trivial⟩ (t := fun a => Zgr a.1 a.2.1 a.2.2) (fun a => by kernel_rfl)
theorem Zn2 (c : ZdT) : ZJu c c = true := by simp [ZJu, ZJs, RT.val]
theorem ZNX (c : ZdT) : ZMC c = ZgD c := rfl
theorem lval7 {t : RT (Option Bool)} (h : t.val = some true) : okB t.val = true ∧ getO false t.val = true := by rw [h]; exact ⟨rfl, rfl⟩
theorem ZEj : kKcC = true ∧ kKc = true := lval7 (t := kKcT) (by kernel_rfl)
theorem ZI9 (b : BRDT) (l : List INPT) (hg : smG b.2.1 = true) (hm : b.2.2.2.2.2.2.length ≤ 100000) : (ZJa b l).1.2.2.2.2.1.2.2.1.length ≤ l.length := by
 have hn := ZH2 b hg hm
 unfold ZJa
 cases hx : (wNew b).2 != 0
 ·have h0 : (wNew b).2 = 0 := by simpa using hx
  have := (ZtP b (Zep b) l (ZjS b) 0 (hn.2.2 h0).1).k
  rw [Nat.zero_add] at this
  exact this
 ·exact Nat.zero_le _
theorem ZD4 {s : List Int × Int} {k : Int} (h : NB s k) (hk : k ≤ 10000) : Zwj s 20 = true ∧ NB (Zbu s 20).2 (k + 1000) ∧ (Zbu s 20).1.2.2.1.length ≤ 20 := by
 obtain ⟨c1, b1, ⟨s1, hs1, e1⟩, _, _, im, him, e2⟩ := ZNd h hk
 obtain ⟨c2, b2, l2⟩ := ZHj b1 (by omega) 20 (by omega)
 have c2 : ZeZ (Zaz s).2 20 = true := c2
 have b2 : NB (ZbB (Zaz s).2 20).2 (k + 300 + 1 + 30 * ((20 : Nat) : Int)) := b2
 have l2 : (ZbB (Zaz s).2 20).1.length ≤ 20 := l2
 have c3 := ZEH (ZbB (Zaz s).2 20).1 (by omega)
 have hg : smG (Zaz s).1.2.1 = true := by
  rw [e1]
  exact smGb (Nat.le_trans (ZMV hs1 (by omega)).2.2 (by omega))
 have hm : (Zaz s).1.2.2.2.2.2.2.length ≤ 100000 := by
  rw [e2]
  have := ZdJ im; omega
 have c4 := ZSp (Zaz s).1 (ZeN (ZbB (Zaz s).2 20).1) hg hm (by omega)
 have hd := Zon (ZeN (ZbB (Zaz s).2 20).1) (by omega)
 have hv : (Zwi s 20).val = some ((wRun (Zaz s).1 (ZeN (ZbB (Zaz s).2 20).1)).1.2.2.2.2.1, (ZbB (Zaz s).2 20).2) := by
  simp only [Zwi, RT.val, c1, c2, c3.1, c4.1, Bool.not_true, Bool.false_or, cond_true]
 refine ⟨by simp only [Zwj, hv]; rfl, ?_, ?_⟩
 ·simp only [Zbu, hv, getO]; exact b2.up (by omega)
 ·simp only [Zbu, hv, getO, c4.2]
  have := ZI9 (Zaz s).1 (Za1 (ZeN (ZbB (Zaz s).2 20).1)) hg hm
  omega
theorem ZET {c : CORT} (h : c.2.2.1.length ≤ 1000) : ZcV c = true := Zeu.2 (by have := mst; omega)
theorem i01 : iN (0 + 1) = 1 := rfl
theorem Zn4 (b : Int) (f : Bool) (cs : CORT × CORT × CORT) (k : Int) (ll : LINT × LINT) (c0 : CORT) (l0 : LINT) (n1 : List Int) (n2 : Int) (d0 e0 : CORT) (m0 : LINT) (x : CORT) (hx : ZcV x = true) :
  runF true Zdv (fun _ => 5) (b, f, cs, k, ll, 0, c0, l0, n1, n2, d0, e0, m0, x, ()) = some (false, (b, f, cs, k, ll, 2, c0, l0, n1, n2, d0, e0, m0, x, ())) := by
 obtain ⟨r, hr, h1⟩ := Zax (fl := true) (t := Zdv) (fuel := fun _ => 5)
  (fun a => ∃ i : Nat, i ≤ 2 ∧ a = (b, f, cs, k, ll, (i : Int), c0, l0, n1, n2, d0, e0, m0, x, ()))
  (fun a => Int.toNat (2 - a.2.2.2.2.2.1)) (fun r => r = (false, (b, f, cs, k, ll, 2, c0, l0, n1, n2, d0, e0, m0, x, ())))
  (by
   rintro a ⟨i, hi, rfl⟩
   by_cases hlt : i < 2
   ·left
    have d : decide ((i : Int) < 2) = true := decide_eq_true (by omega)
    have d2 : decide (0 ≤ (i : Int) ∧ (i : Int) < 2) = true := decide_eq_true (by omega)
    have w : IntKind.wrap .i64 ((i : Int) + 1) = ((i + 1 : Nat) : Int) := by rw [ZH _ (by omega) (by omega)]; omega
    exact ⟨(b, f, cs, k, ll, ((i + 1 : Nat) : Int), c0, l0, n1, n2, d0, e0, m0, x, ()), by simp only [Zdv, RT.val, d, d2, w, hx, Zn2, ZNX, R.eqf_refl, beq_self_eq_true, Bool.not_true, Bool.or_self, Bool.or_true, cond_true, cond_false], ⟨i + 1, by omega, rfl⟩, by simp only; omega⟩
   ·right; left
    have e : i = 2 := by omega
    subst e
    exact ⟨_, by simp only [Zdv, RT.val]; rfl, rfl⟩)
  (b, f, cs, k, ll, 0, c0, l0, n1, n2, d0, e0, m0, x, ()) ⟨0, by omega, rfl⟩ (by simp only; omega)
 rw [h1] at hr
 exact hr
theorem ZN1 (b : Int) (f : Bool) (c d e : CORT) (c0 : CORT) (l0 : LINT) (n1 : List Int) (n2 : Int) (d0 e0 : CORT) (m0 : LINT) (hc : ZcV c = true) (hd : ZcV d = true) (he : ZcV e = true) :
  runF true Zb8 (fun _ => 5) (b, f, (c, d, e), 0, c0, l0, n1, n2, d0, e0, m0, ()) = some (false, (b, f, (c, d, e), 3, c0, l0, n1, n2, d0, e0, m0, ())) := by
 have k0 := Zn4 b f (c, d, e) 0 (l0, m0) c0 l0 n1 n2 d0 e0 m0 c hc
 have k1 := Zn4 b f (c, d, e) 1 (l0, m0) c0 l0 n1 n2 d0 e0 m0 d hd
 have k2 := Zn4 b f (c, d, e) 2 (l0, m0) c0 l0 n1 n2 d0 e0 m0 e he
 obtain ⟨r, hr, h1⟩ := Zax (fl := true) (t := Zb8) (fuel := fun _ => 5)
  (fun a => ∃ i : Nat, i ≤ 3 ∧ a = (b, f, (c, d, e), (i : Int), c0, l0, n1, n2, d0, e0, m0, ()))
  (fun a => Int.toNat (3 - a.2.2.2.1)) (fun r => r = (false, (b, f, (c, d, e), 3, c0, l0, n1, n2, d0, e0, m0, ())))
  (by
   rintro a ⟨i, hi, rfl⟩
   have e00 : ((0 : Int) == 0) = true := rfl
   have e10 : ((1 : Int) == 0) = false := rfl
   have e11 : ((1 : Int) == 1) = true := rfl
   have e20 : ((2 : Int) == 0) = false := rfl
   have e21 : ((2 : Int) == 1) = false := rfl
   match i, hi with
   | 0, _ =>
    left
    exact ⟨(b, f, (c, d, e), 1, c0, l0, n1, n2, d0, e0, m0, ()), by
     simp only [Zb8, RT.val, Int.ofNat_zero, Int.cast_ofNat_Int, R.sel_eq, i01, e00, e10, e11, cond_true, cond_false, Prod.eta]
     simp only [k0, okB, getO, Bool.or_true, cond_true, cond_false]
     rfl, ⟨1, by omega, rfl⟩, by simp only; omega⟩
   | 1, _ =>
    left
    exact ⟨(b, f, (c, d, e), 2, c0, l0, n1, n2, d0, e0, m0, ()), by
     have : ((1 : Nat) : Int) = 1 := rfl
     simp only [Zb8, RT.val, this, R.sel_eq, i01, e00, e10, e11, cond_true, cond_false, Prod.eta]
     simp only [k1, okB, getO, Bool.or_true, cond_true, cond_false]
     rfl, ⟨2, by omega, rfl⟩, by simp only; omega⟩
   | 2, _ =>
    left
    exact ⟨(b, f, (c, d, e), 3, c0, l0, n1, n2, d0, e0, m0, ()), by
     have : ((2 : Nat) : Int) = 2 := rfl
     simp only [Zb8, RT.val, this, R.sel_eq, i01, e20, e21, cond_true, cond_false, Prod.eta]
     simp only [k2, okB, getO, Bool.or_true, cond_true, cond_false]
     rfl, ⟨3, by omega, rfl⟩, by simp only; omega⟩
   | 3, _ =>
    right; left
    exact ⟨_, by simp only [Zb8, RT.val]; rfl, rfl⟩)
  (b, f, (c, d, e), 0, c0, l0, n1, n2, d0, e0, m0, ()) ⟨0, by omega, rfl⟩ (by simp only; omega)
 rw [h1] at hr
 exact hr
theorem clocks_law (c : CORT) (l : LINT) (b : Int) (n : List Int) (next : Int) : ZtD c l b n next = true ∧ ZBa c l b n next = true := by
 obtain ⟨c1, b1, l1⟩ := ZD4 (ZND n) (by omega)
 obtain ⟨c2, b2, _⟩ := ZUk b1 (by omega)
 obtain ⟨c3, b3⟩ := Zwf b2 (by omega)
 have c4 := (Zww next 12 (by decide) (by decide)).1
 have hv : (Zgs c l b n next).val = some true := by
  cases hx : decide (iN (List.length c.2.2.1) > 20) || decide (iN (List.length n) > 200)
  ·have hc : c.2.2.1.length ≤ 20 := by
    simp only [iN, Bool.or_eq_false_iff, decide_eq_false_iff_not] at hx; omega
   have k := ZN1 b false c (Zbu (n, 0) 20).1 ((nCPU (Zbu (n, 0) 20).2).1, c.2.1, c.2.2.1, c.2.2.2.1, Znv next 12, c.2.2.2.2.2) c l (Zch (nCPU (Zbu (n, 0) 20).2).2).2.1 (Zch (nCPU (Zbu (n, 0) 20).2).2).2.2 (Zbu (n, 0) 20).1
    ((nCPU (Zbu (n, 0) 20).2).1, c.2.1, c.2.2.1, c.2.2.2.1, Znv next 12, c.2.2.2.2.2) (Zch (nCPU (Zbu (n, 0) 20).2).2).1 (ZET (by omega)) (ZET (by omega)) (ZET (by show c.2.2.1.length ≤ _; omega))
   simp only [Zgs, RT.val, hx, c1, c2, c3, c4, k, ZEj.1, okB, getO, Bool.not_true, Bool.not_false, Bool.or_true, Bool.true_or, Bool.false_or, cond_true, cond_false]
  ·simp only [Zgs, RT.val, hx, ZEj.1, Bool.not_true, Bool.false_or, cond_true]
 exact ⟨by simp only [ZtD, hv]; rfl, by simp only [ZBa, hv, getO]⟩
theorem ZOL (x : CORT) (l : LINT) (b : Int) (h : l.2.2.1 = true) : clkX x l b = ((ZM x.1, 0, [], (1, 0, 0, 4), 1, false), Zg2 x l b) := by
 unfold clkX Zbt
 rw [h]
 simp only [cond_true, Zw5]
theorem ZSI (x : CORT) (l : LINT) (b : Int) (h : l.2.2.1 = true) : (Zg2 x l b).1 = 10 := by
 unfold Zg2
 rw [h]
 simp only [cond_true]
 rw [ZK1]
theorem ZJb (c : TC) : ZM (ZM c) = ZM c := rfl
theorem ZOK (b : Int) (f : Bool) (c d : CORT) (c0 : CORT) (n1 : List Int) (n2 : Int) (d0 : CORT) (l : LINT) (hl : l.2.2.1 = true) (hc : ZcV c = true) (hd : ZcV d = true) :
  runF true ZcG (fun _ => 5) (b, f, (c, d), 0, c0, n1, n2, d0, l, ()) = some (false, (b, f, (c, d), 2, c0, n1, n2, d0, l, ())) := by
 have hr0 : ∀ x : CORT, ZcV (ZM x.1, 0, [], (1, 0, 0, 4), 1, false) = true := fun x => ZET (Nat.zero_le _)
 have hb : ∀ x : CORT, ZMC (ZM x.1, 0, [], (1, 0, 0, 4), 1, false) = false := fun x => by kernel_rfl
 have hp : ∀ x : CORT, (Zg2 x l b).1 = 10 := fun x => ZSI x l b hl
 have hk : ∀ x : CORT, clkX x l b = ((ZM x.1, 0, [], (1, 0, 0, 4), 1, false), Zg2 x l b) := fun x => ZOL x l b hl
 have h10 : ((10 : Int) != 10) = false := rfl
 have h00 : ((0 : Int) == 0) = true := rfl
 obtain ⟨r, hr, h1⟩ := Zax (fl := true) (t := ZcG) (fuel := fun _ => 5)
  (fun a => ∃ i : Nat, i ≤ 2 ∧ a = (b, f, (c, d), (i : Int), c0, n1, n2, d0, l, ()))
  (fun a => Int.toNat (2 - a.2.2.2.1)) (fun r => r = (false, (b, f, (c, d), 2, c0, n1, n2, d0, l, ())))
  (by
   rintro a ⟨i, hi, rfl⟩
   match i, hi with
   | 0, _ =>
    left
    exact ⟨(b, f, (c, d), 1, c0, n1, n2, d0, l, ()), by
     have : ((0 : Nat) : Int) = 0 := rfl
     simp only [ZcG, RT.val, this, R.sel_eq, h00, cond_true, Prod.eta]
     simp only [hc, hk, hr0, hb, hp, ZJb, Zn2, h10, ZdH, Zcf, Bool.or_true, Bool.not_true, Bool.or_false, Bool.or_self, cond_true]
     simp only [ZM, Zfy, RT.val, beq_self_eq_true, h00, Bool.and_self, Bool.not_true, Bool.or_false, cond_false]
     rfl, ⟨1, by omega, rfl⟩, by simp only; omega⟩
   | 1, _ =>
    left
    exact ⟨(b, f, (c, d), 2, c0, n1, n2, d0, l, ()), by
     have : ((1 : Nat) : Int) = 1 := rfl
     have h1 : ((1 : Int) == 0) = false := rfl
     simp only [ZcG, RT.val, this, R.sel_eq, h1, cond_false, Prod.eta]
     simp only [hd, hk, hr0, hb, hp, ZJb, Zn2, h10, ZdH, Zcf, Bool.or_true, Bool.not_true, Bool.or_false, Bool.or_self, cond_true]
     simp only [ZM, Zfy, RT.val, beq_self_eq_true, h00, Bool.and_self, Bool.not_true, Bool.or_false, cond_false]
     rfl, ⟨2, by omega, rfl⟩, by simp only; omega⟩
   | 2, _ =>
    right; left
    exact ⟨_, by simp only [ZcG, RT.val]; rfl, rfl⟩)
  (b, f, (c, d), 0, c0, n1, n2, d0, l, ()) ⟨0, by omega, rfl⟩ (by simp only; omega)
 rw [h1] at hr
 exact hr
theorem resets_law (c : CORT) (n : List Int) (b : Int) : ZtC c n b = true ∧ ZA9 c n b = true := by
 obtain ⟨c1, b1, l1⟩ := ZD4 (ZND n) (by omega)
 obtain ⟨c3, b3⟩ := Zwf b1 (by omega)
 have hv : (Zgr c n b).val = some true := by
  cases hx : decide (iN (List.length c.2.2.1) > 20) || decide (iN (List.length n) > 200)
  ·have hc : c.2.2.1.length ≤ 20 := by
    simp only [iN, Bool.or_eq_false_iff, decide_eq_false_iff_not] at hx; omega
   have k := ZOK b false c (Zbu (n, 0) 20).1 c (Zch (Zbu (n, 0) 20).2).2.1 (Zch (Zbu (n, 0) 20).2).2.2 (Zbu (n, 0) 20).1
    ((Zch (Zbu (n, 0) 20).2).1.1, (Zch (Zbu (n, 0) 20).2).1.2.1, true, (Zch (Zbu (n, 0) 20).2).1.2.2.2) rfl (ZET (by omega)) (ZET (by omega))
   simp only [Zgr, RT.val, hx, c1, c3, k, ZEj.1, okB, getO, Bool.not_true, Bool.not_false, Bool.or_true, Bool.true_or, Bool.false_or, cond_true, cond_false]
  ·simp only [Zgr, RT.val, hx, ZEj.1, Bool.not_true, Bool.false_or, cond_true]
 exact ⟨by simp only [ZtC, hv]; rfl, by simp only [ZA9, hv, getO]⟩
end
end Go.Proofs.YtghoimllhpjkjaaGreat
