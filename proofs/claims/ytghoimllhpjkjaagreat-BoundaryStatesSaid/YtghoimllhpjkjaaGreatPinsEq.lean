/-
  The pins of a state: the program's are the reference's. Conditions: none.
-/
import Derived.Test.YtghoimllhpjkjaaGreatLeafs
import Derived.Test.YtghoimllhpjkjaaGreatS3D
import Derived.Test.YtghoimllhpjkjaaGreatProg
open Go.IntKind (u8 u16 i64)
open Go Go.S3 Go.Proofs
set_option linter.unusedVariables false
set_option linter.unusedSimpArgs false
set_option maxRecDepth 100000
namespace Go.Proofs.YtghoimllhpjkjaaGreat
noncomputable section
theorem Zsh (b : Int) (h : inR .u8 b) : ZiW b = true ∧ Zpz b = Zjy b := by
 have h1 := Zep (fun b => ZiW b && (Zpz b == Zjy b)) (by kernel_rfl) b h
 simpa using h1
theorem ZsR (a b c : Bool) : pMaj a b c = rMaj a b c := by cases a <;> cases b <;> cases c <;> rfl
theorem ZKt (a : Bool) : pOne a = rOne a := by cases a <;> rfl
theorem ZCW (a b : Int) (c : Bool) : pSum a b c = rSum a b c := by
 simp only [pSum, ZLL, rSum, ZHG, RT.val, Bool.cond_self, Zkr, ZiT, Zda, ZiM, ZKt]
theorem Zw3 (a b : Int) (c : Bool) : ZfZ a b c = ZbS a b c := by
 have h1 := ZN9 a
 have h2 := ZN9 b
 have e : IntKind.wrap .i64 (IntKind.wrap .i64 (IntKind.wrap .i64 (IntKind.wrap .i64 (andI .u8 a 15) + 15) - IntKind.wrap .i64 (andI .u8 b 15)) + 1) = IntKind.wrap .i64 (IntKind.wrap .i64 (IntKind.wrap .i64 (andI .u8 a 15) + IntKind.wrap .i64 (IntKind.wrap .u8 (15 - andI .u8 b 15))) + 1) := by
  rw [ZKL]
  rw [wrap_i64 (andI .u8 a 15) (by omega) (by omega), wrap_i64 (andI .u8 b 15) (by omega) (by omega), wrap_i64 ((15 - andI .u8 b 15) % 256) (by omega) (by omega), wrap_i64 (andI .u8 a 15 + 15) (by omega) (by omega)]
  congr 1; rw [wrap_i64 _ (by omega) (by omega), wrap_i64 _ (by omega) (by omega)]; omega
 simp only [ZfZ, ZFy, ZbS, Zx3, RT.val, Bool.cond_self, Zkr, ZiT, Zda, ZiM, ZKt, e]
theorem ZqV (a b : Int) : ZE9 a b = Zb3 a b := rfl
theorem ZG5 (b : Bool) (n : Int) (h : 0 ≤ n) : ZdB b n = true ∧ pBit b n = bif b then shlI .u8 1 n else 0 := by
 cases b <;> simp [ZdB, pBit, ZIA, RT.val, h, okB, getO]
theorem Zc9 (b : Bool) (n : Int) (h : 0 ≤ n) : ZcQ b n = true ∧ rBit b n = bif b then shlI .u8 1 n else 0 := by
 cases b <;> simp [ZcQ, rBit, ZHV, RT.val, h, okB, getO]
theorem ZaR (chip : Int) : rOn chip = (chip == 2) := rfl
theorem ZND (chip : Int) (f) : Zyq chip f = true := by
 cases h : chip == 2 <;> simp [Zyq, Zss, RT.val, ZG5, okB, h]
theorem ZDa (chip : Int) (f) : ZxS chip f = true := by
 cases h : chip == 2 <;> simp [ZxS, Zr4, RT.val, Zc9, ZaR, okB, h]
theorem ZLK (chip : Int) (f) : ZIh chip f = ZHN chip f := by
 simp only [ZIh, Zss, ZHN, Zr4, RT.val, ZG5, Zc9, ZaR]; cases chip == 2 <;> simp [ZG5, Zc9, getO]
theorem of_C (r : Int) (h : inR .u8 r) : pOfC r = true := by simp [pOfC, pOfT, RT.val, Zsh r h, okB]
theorem ZsE (r : Int) (h : inR .u8 r) : pOf r = rOf r := by simp [pOf, pOfT, rOf, rOfT, RT.val, Zsh r h, getO]
theorem ZMJ (r) (n : Int) : ZuS r n = true := by
 have := and7 n
 have h : decide (0 ≤ andI .i64 n 7 ∧ andI .i64 n 7 < 8) = true := by simp; omega
 simp only [ZuS, ZuR, RT.val, h, cond_true, okB]
theorem ZGL {m : Int} (h : 0 ≤ m ∧ m ≤ 7) : m = 0 ∨ m = 1 ∨ m = 2 ∨ m = 3 ∨ m = 4 ∨ m = 5 ∨ m = 6 ∨ m = 7 := by omega
theorem ZEq (r) (n : Int) : pGet r n = rGet r n := by
 have h7 := and7 n
 have h : decide (0 ≤ andI .i64 n 7 ∧ andI .i64 n 7 < 8) = true := by simp; omega
 simp only [pGet, ZL7, rGet, ZuR, RT.val, h, cond_true, getO]
 generalize andI .i64 n 7 = m at *
 rcases ZGL h7 with rfl | rfl | rfl | rfl | rfl | rfl | rfl | rfl <;> rfl
theorem ZEk (r) (n v : Int) : pSet r n v = rSet r n v := by
 have h7 := and7 n
 simp only [pSet, ZLO, rSet, ZLd, RT.val, cond_true, getO]
 generalize andI .i64 n 7 = m at *
 rcases ZGL h7 with rfl | rfl | rfl | rfl | rfl | rfl | rfl | rfl <;> rfl
theorem ZHZ (r) (n : Int) : ZLW r n = Z7 r n := by
 simp only [ZLW, ZEP, Z7, ZmV, RT.val, ZEq, ZMJ, ZqV]
 cases andI .i64 n 3 == 3 <;> simp [okB, getO]
theorem ZK7 (r) (n : Int) : ZDu r n = true := by
 simp only [ZDu, ZmV, RT.val, ZMJ]
 cases andI .i64 n 3 == 3 <;> simp [okB]
theorem Zu8 (r) (n v : Int) : Zpr r n v = Zp r n v := by
 simp only [Zpr, Zks, Zp, ZeP, RT.val, ZEk]
theorem ZEm (chip : Int) (r) : ZLY chip r = true ∧ pPSW chip r = rPSW chip r := by
 simp [ZLY, pPSW, ZIi, rPSW, ZDx, RT.val, ZND, ZDa, ZLK, ZqV, okB, getO]
theorem ZNc (chip : Int) (r) : ZLk chip r = true := by simp [ZLk, ZDx, RT.val, ZDa, okB]
theorem ZCm (chip : Int) (b : Int) : Zpp chip b = Zod chip b := by
 simp only [Zpp, Zpo, Zod, Zoc, RT.val, ZaR]
theorem ZAH (chip : Int) (r) (v : Int) : Zvi chip r v = ZeR chip r v := by
 simp only [Zvi, Zps, ZeR, ZiN, RT.val, ZCm]
theorem ZI2 (c : Int) (f) : ZFf c f = Zdu c f := by
 simp only [ZFf, Zwa, Zdu, ZuQ, RT.val]
 by_cases h : 0 ≤ c ∧ c ≤ 11
 ·have : c = 0 ∨ c = 1 ∨ c = 2 ∨ c = 3 ∨ c = 4 ∨ c = 5 ∨ c = 6 ∨ c = 7 ∨ c = 8 ∨ c = 9 ∨ c = 10 ∨ c = 11 := by omega
  rcases this with rfl | rfl | rfl | rfl | rfl | rfl | rfl | rfl | rfl | rfl | rfl | rfl <;> simp
 ·have e : ∀ k : Int, 0 ≤ k → k ≤ 11 → (c == k) = false := fun k h1 h2 => by simp; omega
  simp [e]
theorem ZrE (a b : Int) (c : Bool) : inR .u8 (rSum a b c).1 := by
 simp only [rSum, ZHG, RT.val, Bool.cond_self]; exact ZaT _ _
theorem Zl4 (a b : Int) (c : Bool) : inR .u8 (ZbS a b c).1 := by
 simp only [ZbS, Zx3, RT.val, Bool.cond_self]; exact ZaT _ _
theorem ZhZ (a b : Int) : inR .u8 (andI .u8 a b) ∧ inR .u8 (orI .u8 a b) ∧ inR .u8 (xorI .u8 a b) := Zfw _ _ _
theorem ZrM (chip v r : Int) (half over x : Bool) (f) (h : inR .u8 r) : ZgK chip v r half over x f = true ∧
  Zkx chip v r half over x f = Zmp chip ((rOf r).1, (rOf r).2.1, (rOf r).2.2.1, half, (rOf r).2.2.2.2.1, (rOf r).2.2.2.2.2.1, f.2.2.2.2.2.2) (rMaj (decide (v ≥ 128)) x (decide (r ≥ 128))) over := by
 cases hc : chip == 2 <;> simp [ZgK, Zkx, ZiU, Zmp, ZmW, RT.val, of_C r h, ZsE r h, okB, getO, ZaR, hc, ZsR, rOf, rOfT]
theorem ZEo (chip v : Int) (f) : ZL5 chip v f = true ∧ pInr chip v f = rInr chip v f := by
 have h := ZrM chip v (rSum v 1 false).1 (rSum v 1 false).2.2.1 (rSum v 1 false).2.2.2 false f (ZrE _ _ _)
 simp only [ZL5, pInr, ZIn, rInr, ZLp, RT.val, ZCW, h.1, h.2, cond_true, okB, getO, and_self]
theorem ZEt (chip v : Int) (f) : ZMi chip v f = true ∧ pDcr chip v f = rDcr chip v f := by
 have h := ZrM chip v (ZbS v 1 false).1 (ZbS v 1 false).2.2.1 (ZbS v 1 false).2.2.2 true f (Zl4 _ _ _)
 simp only [ZMi, pDcr, ZIw, rDcr, ZLy, RT.val, Zw3, h.1, h.2, cond_true, okB, getO, and_self]
theorem ZLH (chip v : Int) (f) : pInx chip v f = rInx chip v f := by
 simp only [pInx, ZL3, rInx, ZLm, RT.val, ZaR]
theorem ZLI (chip v : Int) (f) : pDcx chip v f = rDcx chip v f := by
 simp only [pDcx, ZMg, rDcx, ZLv, RT.val, ZaR]
theorem ZEu (chip a : Int) (f) : ZMm chip a f = true ∧ pDaa chip a f = rDaa chip a f := by
 have h := fun x => of_C _ (ZrE a x false)
 have h2 := fun x => ZsE _ (ZrE a x false)
 cases hc : chip == 2 <;> simp [ZMm, pDaa, ZIy, rDaa, ZLD, Zmp, ZmW, RT.val, ZCW, h, h2, okB, getO, ZaR, hc, ZsR, rOf, rOfT]
theorem Zyh (a b : Int) : ZFv a b = true ∧ ZMb a b = Zr7 a b := by
 have h := fun x y z => of_C _ (Zl4 x y z)
 have h2 := fun x y z => ZsE _ (Zl4 x y z)
 simp [ZFv, ZMb, ZyH, Zr7, ZDY, RT.val, Zw3, h, h2, okB, getO, ZsR, ZqV, rOf, rOfT, Bool.cond_self]
theorem ZH3 (v : Int) : ZNR v = Zpc v := rfl
theorem ZKA (c : Bool) : pLow c = bif c then 1 else 0 := by cases c <;> rfl
theorem ZEl (op a : Int) (c : Bool) : ZLQ op a c = true ∧ pRot op a c = rRot op a c := by
 have h3 := and3 op
 simp only [ZLQ, pRot, ZIa, rRot, ZDm, RT.val, ZKA, (Zc9 c 0 (by decide)).1, (Zc9 c 0 (by decide)).2, (Zc9 c 7 (by decide)).1, (Zc9 c 7 (by decide)).2]
 generalize andI .i64 op 3 = m at *
 have : m = 0 ∨ m = 1 ∨ m = 2 ∨ m = 3 := by omega
 rcases this with rfl | rfl | rfl | rfl <;> cases c <;> exact ⟨rfl, rfl⟩
theorem ZNb (op a : Int) (c : Bool) : ZLg op a c = true := by
 have h3 := and3 op
 simp only [ZLg, ZDm, RT.val, (Zc9 c 0 (by decide)).1, (Zc9 c 7 (by decide)).1]
 generalize andI .i64 op 3 = m at *
 have : m = 0 ∨ m = 1 ∨ m = 2 ∨ m = 3 := by omega
 rcases this with rfl | rfl | rfl | rfl <;> rfl
theorem ZHY (v : Int) (c : Bool) (h : inR .u16 v) : ZLV v c = Zr1 v c := by
 have hb := Zc9 c 0 (by decide)
 have e : IntKind.wrap .u16 (bif c then 1 else 0) = IntKind.wrap .u16 (bif c then shlI .u8 1 0 else 0) := by cases c <;> rfl
 have hr : ∀ x, inR .u16 (orI .u16 x (IntKind.wrap .u16 (bif c then shlI .u8 1 0 else 0))) := fun x => (Zfw _ _ _).2.1
 simp only [ZLV, ZEN, Zr1, Zr0, RT.val, ZKA, hb.1, hb.2, cond_true, getO, e]
 rw [ZnE _ (Zfw _ _ _).2.2, ZCT _ _ (hr _) h, Zxd _ (hr _), Zxd _ h]
 cases tb (orI .u16 (shlI .u16 v 1) (IntKind.wrap .u16 (bif c then shlI .u8 1 0 else 0))) <;> cases tb v <;> rfl
theorem ZK6 (v : Int) (c : Bool) : ZDs v c = true := by
 have hb := Zc9 c 0 (by decide)
 simp [ZDs, Zr0, RT.val, hb.1, okB]
theorem ZLJ (chip a b : Int) (f) (ha : inR .u16 a) (hb : inR .u16 b) : pDad chip a b f = rDad chip a b f := by
 have hr : inR .u16 (IntKind.wrap .u16 (a + b)) := ZaT _ _
 have ha' := ZhO.1 ha
 have hb' := ZhO.1 hb
 simp only [pDad, ZMk, rDad, ZLA, RT.val, ZaR]
 rw [ZnE _ (Zfw _ _ _).1, ZJv _ _ (Zfw _ _ _).2.2 (Zfw _ _ _).2.2, ZCT _ _ ha hr, ZCT _ _ hb hr]
 have e1 : decide (IntKind.wrap .u16 (a + b) < a) = decide (IntKind.wrap .i64 (IntKind.wrap .i64 a + IntKind.wrap .i64 b) > 65535) := by
  rw [Zxf, wrap_i64 a (by omega) (by omega), wrap_i64 b (by omega) (by omega), wrap_i64 (a + b) (by omega) (by omega)]
  simp only [decide_eq_decide]; omega
 have e2 : (((tb a) ^^ (tb (IntKind.wrap .u16 (a + b)))) && ((tb b) ^^ (tb (IntKind.wrap .u16 (a + b))))) = (decide (IntKind.wrap .i64 (IntKind.wrap .i64 (IntKind.wrap .i16 a) + IntKind.wrap .i64 (IntKind.wrap .i16 b)) < -32768) || decide (IntKind.wrap .i64 (IntKind.wrap .i64 (IntKind.wrap .i16 a) + IntKind.wrap .i64 (IntKind.wrap .i16 b)) > 32767)) := by
  have ia := Zxg a
  have ib := Zxg b
  have hia : -32768 ≤ IntKind.wrap .i16 a ∧ IntKind.wrap .i16 a ≤ 32767 := by rw [ia]; split <;> omega
  have hib : -32768 ≤ IntKind.wrap .i16 b ∧ IntKind.wrap .i16 b ≤ 32767 := by rw [ib]; split <;> omega
  rw [wrap_i64 (IntKind.wrap .i16 a) (by omega) (by omega), wrap_i64 (IntKind.wrap .i16 b) (by omega) (by omega), wrap_i64 (IntKind.wrap .i16 a + IntKind.wrap .i16 b) (by omega) (by omega)]
  rw [ia, ib, Zxf]
  unfold tb
  by_cases h1 : a ≥ 32768 <;> by_cases h2 : b ≥ 32768 <;> by_cases h3 : (a + b) % 65536 ≥ 32768 <;> simp [h1, h2, h3] <;> (try split) <;> (try split) <;> omega
 rw [e1, e2]
theorem Zu9 (c l) : ZLS c l = true ∧ pRim c l = rRim c l ∧ ZLi c l = true := by
 have h : ∀ b n, 0 ≤ n → Zb5 b n = true ∧ Zsp b n = bif b then shlI .u8 1 n else 0 := fun b n h => by
  cases b <;> simp [Zb5, Zsp, Zyl, RT.val, h, okB, getO]
 have h3 : ∀ b, Zaj b 3 = true ∧ ZeT b 3 = bif b then shlI .u8 1 3 else 0 := fun b => by cases b <;> exact ⟨rfl, rfl⟩
 have h4 : ∀ b, Zaj b 4 = true ∧ ZeT b 4 = bif b then shlI .u8 1 4 else 0 := fun b => by cases b <;> exact ⟨rfl, rfl⟩
 have h5 : ∀ b, Zaj b 5 = true ∧ ZeT b 5 = bif b then shlI .u8 1 5 else 0 := fun b => by cases b <;> exact ⟨rfl, rfl⟩
 have h6 : ∀ b, Zaj b 6 = true ∧ ZeT b 6 = bif b then shlI .u8 1 6 else 0 := fun b => by cases b <;> exact ⟨rfl, rfl⟩
 have h7 : ∀ b, Zaj b 7 = true ∧ ZeT b 7 = bif b then shlI .u8 1 7 else 0 := fun b => by cases b <;> exact ⟨rfl, rfl⟩
 simp [ZLS, pRim, ZIc, ZLi, rRim, ZDp, RT.val, h, h3, h4, h5, h6, h7, okB, getO]
theorem ZLG (c) (a : Int) : pSim c a = rSim c a := by
 simp only [pSim, ZLN, rSim, ZDh, RT.val]
theorem ZAD (s : Int) : Zve s = Zh s := by
 simp only [Zve, Zpn, Zh, Zob, RT.val]
theorem ZEn (chip op a b : Int) : ZpL chip op a b = true ∧ ∀ f, (andI .i64 op 7 = op) → 4 ≤ op → op ≤ 6 → Zyw chip op a b = rDo chip op a b f := by
 have h := fun x y => of_C _ (ZhZ x y).1
 have h' := fun x y => of_C _ (ZhZ x y).2.1
 have h'' := fun x y => of_C _ (ZhZ x y).2.2
 have g := fun x y => ZsE _ (ZhZ x y).1
 have g' := fun x y => ZsE _ (ZhZ x y).2.1
 have g'' := fun x y => ZsE _ (ZhZ x y).2.2
 have h0 := of_C 0 (by rw [ZfK]; omega)
 constructor
 ·cases h4 : op == 4 <;> cases h5 : op == 5 <;> cases h6 : op == 6 <;> simp [ZpL, Zlc, RT.val, h, h', h'', h0, okB, h4, h5, h6]
 ·intro f e h4 h6
  have : op = 4 ∨ op = 5 ∨ op = 6 := by omega
  rcases this with rfl | rfl | rfl <;> cases hc : chip == 2 <;> simp [Zyw, Zlc, rDo, rDoT, RT.val, h, h', h'', g, g', g'', getO, e, ZaR, hc, Zmp, ZmW, rOf, rOfT, ZsR]
theorem ZJ9 (chip op a b : Int) (f) : pDoC chip op a b f = true ∧ pDo chip op a b f = rDo chip op a b f := by
 have h7 := and7 op
 have hs := fun x => of_C _ (ZrE a b x)
 have hs2 := fun x => ZsE _ (ZrE a b x)
 have hd := fun x => of_C _ (Zl4 a b x)
 have hd2 := fun x => ZsE _ (Zl4 a b x)
 have hl := ZEn chip (andI .i64 op 7) a b
 have hlt : decide (b < 128) = !decide (128 ≤ b) := by
  by_cases h : b < 128
  ·have : ¬ 128 ≤ b := by omega
   simp [h, this]
  ·have : 128 ≤ b := by omega
   simp [h, this]
 have hr : rDo chip (andI .i64 op 7) a b f = rDo chip op a b f := by
  have : andI .i64 (andI .i64 op 7) 7 = andI .i64 op 7 := by
   generalize andI .i64 op 7 = m at *
   rcases ZGL h7 with rfl | rfl | rfl | rfl | rfl | rfl | rfl | rfl <;> rfl
  simp only [rDo, rDoT, this]
 have he : andI .i64 (andI .i64 op 7) 7 = andI .i64 op 7 := by
  generalize andI .i64 op 7 = m at *
  rcases ZGL h7 with rfl | rfl | rfl | rfl | rfl | rfl | rfl | rfl <;> rfl
 rw [← hr]
 have hl2 := hl.2 f he
 have hl1 := hl.1
 clear hl hr
 simp only [pDoC, pDo, pDoT, RT.val]
 generalize andI .i64 op 7 = m at *
 rcases ZGL h7 with rfl | rfl | rfl | rfl | rfl | rfl | rfl | rfl
 case inr.inr.inr.inr.inl => simp [hl1, hl2, okB, getO]
 case inr.inr.inr.inr.inr.inl => simp [hl1, hl2, okB, getO]
 case inr.inr.inr.inr.inr.inr.inl => simp [hl1, hl2, okB, getO]
 all_goals cases hc : chip == 2 <;> simp [rDo, rDoT, RT.val, ZCW, Zw3, hs, hs2, hd, hd2, okB, getO, he, ZaR, hc, Zmp, ZmW, rOf, rOfT, ZsR, hlt]
theorem ZEs (chip op : Int) (h : chip ≠ 2) : (Zed chip op).val = (Zed 0 op).val := by
 have h1 : (chip == 2) = false := by simpa using h
 have h0 : ((0 : Int) == 2) = false := rfl
 simp only [Zed, RT.val, h1, h0]
theorem Zju (chip op : Int) (h : chip ≠ 2) : (Zeb chip op).val = (Zeb 0 op).val := by
 have h1 : rOn chip = false := by simpa [ZaR] using h
 have h0 : rOn 0 = false := rfl
 simp only [Zeb, RT.val, h1, h0]
def decT (chip op : Int) : Bool := okB (Zed chip op).val && okB (Zeb chip op).val && (Zlg chip op == Za chip op)
theorem dec_ok (chip op : Int) (h : inR .u8 op) : ZiZ chip op = true ∧ Zlg chip op = Za chip op ∧ ZiQ chip op = true := by
 have fin : ∀ c, decT c op = true → ZiZ c op = true ∧ Zlg c op = Za c op ∧ ZiQ c op = true := by
  intro c hc
  simp only [decT, Bool.and_eq_true, beq_iff_eq] at hc
  exact ⟨hc.1.1, hc.2, hc.1.2⟩
 by_cases hc : chip = 2
 ·subst hc; exact fin 2 (Zep (decT 2) (by kernel_rfl) op h)
 ·have := fin 0 (Zep (decT 0) (by kernel_rfl) op h)
  unfold ZiZ Zlg Za ZiQ at this ⊢
  rw [ZEs chip op hc, Zju chip op hc]; exact this
def ZpM : Entry := Zk Zv8 Zv9 (fun _ => none) (fun a => Zb3 a.1 a.2)
theorem Zsu : Zc Tryz.prog 236 ZpM := ZiX.tot (fun a h => by simp) (fun a h => ZqV _ _)
def ZKo : Entry := Zk ZFh ZFi (fun _ => none) (fun a => rGet a.1 a.2)
theorem ZIo : Zc Tryz.prog 287 ZKo := ZFg.tot (fun a h => by simp) (fun a h => ZEq _ _)
def Zkf : Entry := Zk ZDM Zx0 (fun _ => none) (fun a => rGet a.1 a.2)
theorem Zow : Zc Tryz.prog 163 Zkf := ZDL.tot (fun a h => by have h1 := ZMJ a.1 a.2; simp [h1]) (fun a h => rfl)
def Zso : Entry := Zk ZEB ZEC (fun _ => none) (fun a => rSet a.1 a.2.1 a.2.2)
theorem Zyk : Zc Tryz.prog 268 Zso := ZEA.tot (fun a h => by simp) (fun a h => ZEk _ _ _)
def ZER : Entry := Zk Zvp Zvq (fun _ => none) (fun a => Z7 a.1 a.2)
theorem ZEQ : Zc Tryz.prog 286 ZER := ZIf.tot (fun a h => by simp) (fun a h => ZHZ _ _)
def ZeS : Entry := Zk Zt9 Zol (fun _ => none) (fun a => Z7 a.1 a.2)
theorem Zgt : Zc Tryz.prog 158 ZeS := ZHL.tot (fun a h => by have h1 := ZK7 a.1 a.2; simp [h1]) (fun a h => rfl)
def Zbt : Entry := Zk Zhy Zhz (fun _ => none) (fun a => Zp a.1 a.2.1 a.2.2)
theorem Zdv : Zc Tryz.prog 269 Zbt := Zvg.tot (fun a h => by simp) (fun a h => Zu8 _ _ _)
def ZEU : Entry := Zk ZET Zyr (fun _ => none) (fun a => rPSW a.1 a.2)
theorem ZIj : Zc Tryz.prog 290 ZEU := ZLX.tot (fun a h => by have h1 := (ZEm a.1 a.2).1; simp [h1]) (fun a h => (ZEm _ _).2)
def ZDy : Entry := Zk ZDw ZxT (fun _ => none) (fun a => rPSW a.1 a.2)
theorem ZHO : Zc Tryz.prog 171 ZDy := ZLj.tot (fun a h => by have h1 := ZNc a.1 a.2; simp [h1]) (fun a h => rfl)
def Zkv : Entry := Zk Zkt Zku (fun _ => none) (fun a => ZeR a.1 a.2.1 a.2.2)
theorem Zvh : Zc Tryz.prog 281 Zkv := ZAN.tot (fun a h => by simp) (fun a h => ZAH _ _ _)
def ZMe : Entry := Zk ZMc ZIt (fun _ => none) (fun a => rDo a.1 a.2.1 a.2.2.1 a.2.2.2.1 a.2.2.2.2)
theorem ZMd : Zc Tryz.prog 271 ZMe := ZNO.tot (fun a h => by have h1 := (ZJ9 a.1 a.2.1 a.2.2.1 a.2.2.2.1 a.2.2.2.2).1; simp [h1]) (fun a h => (ZJ9 _ _ _ _ _).2)
def ZyC : Entry := Zk ZFd ZyA (fun _ => none) (fun a => rInr a.1 a.2.1 a.2.2)
theorem ZyB : Zc Tryz.prog 273 ZyC := ZL4.tot (fun a h => by have h1 := (ZEo a.1 a.2.1 a.2.2).1; simp [h1]) (fun a h => (ZEo _ _ _).2)
def ZyM : Entry := Zk ZFD ZyK (fun _ => none) (fun a => rDcr a.1 a.2.1 a.2.2)
theorem ZyL : Zc Tryz.prog 274 ZyM := ZMh.tot (fun a h => by have h1 := (ZEt a.1 a.2.1 a.2.2).1; simp [h1]) (fun a h => (ZEt _ _ _).2)
def ZFc : Entry := Zk ZFa ZFb (fun _ => none) (fun a => rInx a.1 a.2.1 a.2.2)
theorem ZIm : Zc Tryz.prog 275 ZFc := ZL2.tot (fun a h => by simp) (fun a h => ZLH _ _ _)
def ZFC : Entry := Zk ZFA ZFB (fun _ => none) (fun a => rDcx a.1 a.2.1 a.2.2)
theorem ZIv : Zc Tryz.prog 276 ZFC := ZMf.tot (fun a h => by simp) (fun a h => ZLI _ _ _)
def ZFI : Entry := Zk ZFH ZyN (fun _ => none) (fun a => rDaa a.1 a.2.1 a.2.2)
theorem ZIz : Zc Tryz.prog 278 ZFI := ZMl.tot (fun a h => by have h1 := (ZEu a.1 a.2.1 a.2.2).1; simp [h1]) (fun a h => (ZEu _ _ _).2)
def ZFG : Entry := Zk ZFE ZFF (fun _ => none) (fun a => rDad a.1 a.2.1 a.2.2.1 a.2.2.2)
theorem ZIx : Zc Tryz.prog 277 ZFG := ZMj.tot (fun a h => by simp) (fun a h => ZLJ _ _ _ _ h.2.1 h.2.2.1)
def Zwo : Entry := Zk Zwn Zqt (fun _ => none) (fun a => Zr7 a.1 a.2)
theorem ZFw : Zc Tryz.prog 283 Zwo := ZIs.tot (fun a h => by have h1 := (Zyh a.1 a.2).1; simp [h1]) (fun a h => (Zyh _ _).2)
def Zwr : Entry := Zk Zwp Zwq (fun _ => none) (fun a => Zpc a)
theorem ZFK : Zc Tryz.prog 284 Zwr := ZIB.tot (fun a h => by simp) (fun a h => ZH3 _)
def ZEG : Entry := Zk ZEF Zym (fun _ => none) (fun a => rRot a.1 a.2.1 a.2.2)
theorem ZIb : Zc Tryz.prog 279 ZEG := ZLP.tot (fun a h => by have h1 := (ZEl a.1 a.2.1 a.2.2).1; simp [h1]) (fun a h => (ZEl _ _ _).2)
def ZDn : Entry := Zk ZDl ZxL (fun _ => none) (fun a => rRot a.1 a.2.1 a.2.2)
theorem ZHI : Zc Tryz.prog 213 ZDn := ZLf.tot (fun a h => by have h1 := ZNb a.1 a.2.1 a.2.2; simp [h1]) (fun a h => rfl)
def Zvo : Entry := Zk Zvm Zvn (fun _ => none) (fun a => Zr1 a.1 a.2)
theorem ZEO : Zc Tryz.prog 285 Zvo := ZIe.tot (fun a h => by simp) (fun a h => ZHY _ _ h.1)
def Zt8 : Entry := Zk Zt7 Zoj (fun _ => none) (fun a => Zr1 a.1 a.2)
theorem ZDt : Zc Tryz.prog 216 Zt8 := ZHK.tot (fun a h => by have h1 := ZK6 a.1 a.2; simp [h1]) (fun a h => rfl)
def ZEI : Entry := Zk ZEH Zyn (fun _ => none) (fun a => rRim a.1 a.2)
theorem ZId : Zc Tryz.prog 227 ZEI := ZLR.tot (fun a h => by have h1 := (Zu9 a.1 a.2).1; simp [h1]) (fun a h => (Zu9 _ _).2.1)
def ZJH : Entry := Zk ZDo ZxM (fun _ => none) (fun a => rRim a.1 a.2)
theorem ZHJ : Zc Tryz.prog 159 ZJH := ZLh.tot (fun a h => by have h1 := (Zu9 a.1 a.2).2.2; simp [h1]) (fun a h => rfl)
def ZEz : Entry := Zk ZEx ZEy (fun _ => none) (fun a => rSim a.1 a.2)
theorem ZH7 : Zc Tryz.prog 228 ZEz := ZLM.tot (fun a h => by simp) (fun a h => ZLG _ _)
def ZyD : Entry := Zk ZpN ZpO (fun _ => none) (fun a => Zdu a.1 a.2)
theorem ZA1 : Zc Tryz.prog 322 ZyD := ZFe.tot (fun a h => by simp) (fun a h => ZI2 _ _)
def Zsj : Entry := Zk Zkp Zkq (fun _ => none) (fun a => Zh a)
theorem Zvd : Zc Tryz.prog 177 Zsj := ZAL.tot (fun a h => by simp) (fun a h => ZAD _)
def Zsx : Entry := Zk ZgM ZgN (fun _ => none) (fun a => Za a.1 a.2)
theorem Zlf : Zc Tryz.prog 182 Zsx := ZBG.tot (fun a h => by have h1 := (dec_ok a.1 a.2 h.2).1; simp [h1]) (fun a h => (dec_ok a.1 a.2 h.2).2.1)
def Zr8 : Entry := Zk Zgw Zgx (fun _ => none) (fun a => Za a.1 a.2)
theorem Zkg : Zc Tryz.prog 107 Zr8 := ZAB.tot (fun a h => by have h1 := (dec_ok a.1 a.2 h.2).2.2; simp [h1]) (fun a h => rfl)
abbrev ZKD : R := R.pair (.int .i64) (R.pair (.int .i64) (R.pair (.int .i64) (R.pair (.int .i64) (R.pair (.int .i64) (R.pair (.int .i64) (.int .i64))))))
def Zsy (k : Int) : Entry := pinE ZgM ZKD (fun a => Za a.1 a.2) k
theorem ZyJ (k : Int) : Zc Tryz.prog 182 (Zsy k) := ZEp Zlf k
def ZD3 (k : Int) : Entry := pinE Zgw ZKD (fun a => Za a.1 a.2) k
theorem Zx5 (k : Int) : Zc Tryz.prog 107 (ZD3 k) := ZEp Zkg k
def pcOf (c : TC) : Int := c.2.1.2.2.2.2.2.2.2.2.2
def spOf (c : TC) : Int := c.2.1.2.2.2.2.2.2.2.2.1
def rgx (r : TR) (f : TF) (sp pc : Int) : TR := (r.1, r.2.1, r.2.2.1, r.2.2.2.1, r.2.2.2.2.1, r.2.2.2.2.2.1, r.2.2.2.2.2.2.1, f, sp, pc)
def fin3 (g : List Int) (l : List TY) : RT (Option (TY × Bool)) := .br (decide (iN (List.length g) ≥ iN (List.length l))) (.leaf (some (((0, 0, 0, 0), false)))) (.br (Zf (iN (List.length g)) (List.length l)) (.leaf (some ((R.get RY l (iN (List.length g)), true)))) (.leaf none))
abbrev Zld : List Sh := [Sh.one (R.int i64)]
abbrev Zle : Rs := Rs.one (Sh.one R.bool)
def Zm9 (s : Int) : RT (Bool) :=
 .leaf (decide (s ≥ 1) && decide (s ≤ 4))
def Zd (s : Int) : Bool := (Zm9 s).val
def ZhA : Entry := Zk Zld Zle (fun _ => none) (fun a => Zd a)
theorem Zid : Zc Tryz.prog 176 ZhA :=
 pureQ 7 [] [] Zld Zle trivial Tryz.func176 Tryz.call176 trivial (t := fun a => Zm9 a) (fun a => by kernel_rfl)
abbrev ZNA : R := R.pair Z3 (R.pair R.bool (R.pair (R.sl (R.int u8)) (R.pair (R.pair (R.int i64) (R.pair (R.int i64) (R.pair (R.int i64) (R.pair (R.int i64) (R.pair (R.int i64) (R.pair (R.int i64) (R.pair (R.int i64) (R.int i64)))))))) (R.sl (RY)))))
abbrev ZNz : List Sh := [Sh.one (R.int i64)]
abbrev ZLF : Rs := Rs.one (Sh.one (R.int u8))
def qAtT (s : QT1) (n : Int) : RT (Option (Int)) :=
 .br (!decide (n < ↑(List.length s.2.2.1)) || Zf n (List.length s.2.2.1)) (.br (decide (n < ↑(List.length s.2.2.1))) (.leaf (some (R.get (R.int u8) s.2.2.1 n))) (.leaf (some (0)))) (.leaf none)
def qAt (s : QT1) (n : Int) : Int := getO ZLF.dflt (qAtT s n).val
def qAtC (s : QT1) (n : Int) : Bool := okB (qAtT s n).val
def qAtE : Entry := ZfV ZNA ZNz ZLF (fun a => some (qAtC a.1 a.2)) (fun a => qAt a.1 a.2)
theorem ZgF : Zc Tryz.prog 222 qAtE :=
 ZdR (P := Tryz.prog) (n := 31) (k := 8) (l := []) (ol := []) trivial Tryz.func222 rfl (by kernel_rfl) Tryz.call222 trivial (rb := ZNA) (ts := ZNz) (rs := ZLF) (by kernel_rfl) (t := fun a => qAtT a.1 a.2) (fun a => by kernel_rfl)
abbrev ZEf : R := R.pair Z3 (R.pair R.bool (R.pair (R.sl (R.int u8)) (R.pair (R.pair (R.int i64) (R.pair (R.int i64) (R.pair (R.int i64) (R.pair (R.int i64) (R.pair (R.int i64) (R.pair (R.int i64) (R.pair (R.int i64) (R.int i64)))))))) (R.sl (RY)))))
abbrev ZEe : List Sh := [Sh.one (R.int i64)]
abbrev Zu6 : Rs := Rs.one (Sh.one (R.int u16))
def Zsc (s : QT1) (n : Int) : RT (Option (Int)) :=
 .br (!qAtC s (i64.wrap (n + 1)) || qAtC s n) (.br (qAtC s (i64.wrap (n + 1))) (.leaf (some (Zb3 (qAt s (i64.wrap (n + 1))) (qAt s n)))) (.leaf none)) (.leaf none)
def ZeW (s : QT1) (n : Int) : Int := getO Zu6.dflt (Zsc s n).val
def Zb4 (s : QT1) (n : Int) : Bool := okB (Zsc s n).val
def Zkj : Entry := ZfV ZEf ZEe Zu6 (fun a => some (Zb4 a.1 a.2)) (fun a => ZeW a.1 a.2)
theorem Zpe : Zc Tryz.prog 270 Zkj :=
 ZdR (P := Tryz.prog) (n := 31) (k := 8) (l := [(222, qAtE), (236, ZpM)]) (ol := []) ⟨ZgF, Zsu, trivial⟩ Tryz.func270 rfl (by kernel_rfl) Tryz.call270 trivial (rb := ZEf) (ts := ZEe) (rs := Zu6) (by kernel_rfl) (t := fun a => Zsc a.1 a.2) (fun a => by kernel_rfl)
abbrev Zsf : R := R.pair Z3 (R.pair R.bool (R.pair (R.sl (R.int u8)) (R.pair (R.pair (R.int i64) (R.pair (R.int i64) (R.pair (R.int i64) (R.pair (R.int i64) (R.pair (R.int i64) (R.pair (R.int i64) (R.pair (R.int i64) (R.int i64)))))))) (R.sl (RY)))))
abbrev Zsd : List Sh := []
abbrev Zse : Rs := Rs.one (Sh.one (R.int u16))
def Zya (s : QT1) : RT (Int) :=
 .br s.2.1 (.leaf s.1.2.1.2.2.2.2.2.2.2.2.2) (.leaf (u16.wrap (s.1.2.1.2.2.2.2.2.2.2.2.2 + u16.wrap s.2.2.2.1.2.1)))
def ZC (s : QT1) : Int := (Zya s).val
def ZgE : Entry := ZfV Zsf Zsd Zse (fun _ => none) (fun a => ZC a.1 )
theorem Zm3 : Zc Tryz.prog 223 ZgE :=
 Zfo (P := Tryz.prog) (n := 7) (k := 8) (l := []) (ol := []) trivial Tryz.func223 rfl (by kernel_rfl) Tryz.call223 trivial (rb := Zsf) (ts := Zsd) (rs := Zse) (by kernel_rfl) (t := fun a => Zya a.1 ) (fun a => by kernel_rfl)
abbrev Zx9 : R := R.pair Z3 (R.pair R.bool (R.pair (R.sl (R.int u8)) (R.pair (R.pair (R.int i64) (R.pair (R.int i64) (R.pair (R.int i64) (R.pair (R.int i64) (R.pair (R.int i64) (R.pair (R.int i64) (R.pair (R.int i64) (R.int i64)))))))) (R.sl (RY)))))
abbrev Zx7 : List Sh := []
abbrev Zx8 : Rs := Rs.one (Sh.one R.bool)
def ZEa (s : QT1) : RT (Bool) :=
 .leaf (Zdu s.2.2.2.1.2.2.2.2.2.2.1 s.1.2.1.2.2.2.2.2.2.2.1)
def ZfI (s : QT1) : Bool := (ZEa s).val
def ZfX : Entry := ZfV Zx9 Zx7 Zx8 (fun _ => none) (fun a => ZfI a.1 )
theorem Zkh : Zc Tryz.prog 280 ZfX :=
 Zfo (P := Tryz.prog) (n := 7) (k := 8) (l := [(322, ZyD)]) (ol := []) ⟨ZA1, trivial⟩ Tryz.func280 rfl (by kernel_rfl) Tryz.call280 trivial (rb := Zx9) (ts := Zx7) (rs := Zx8) (by kernel_rfl) (t := fun a => ZEa a.1 ) (fun a => by kernel_rfl)
abbrev ZJ7 : R := R.pair Z3 (R.pair R.bool (R.pair (R.sl (R.int u8)) (R.pair (R.pair (R.int i64) (R.pair (R.int i64) (R.pair (R.int i64) (R.pair (R.int i64) (R.pair (R.int i64) (R.pair (R.int i64) (R.pair (R.int i64) (R.int i64)))))))) (R.sl (RY)))))
abbrev ZJ5 : List Sh := [Sh.one (R.int i64)]
abbrev ZJ6 : Rs := Rs.one (Sh.one (R.int u8))
def ZNy (s : QT1) (n : Int) : RT (Int) :=
 .leaf (rGet s.1.2.1 n)
def qReg (s : QT1) (n : Int) : Int := (ZNy s n).val
def Zsb : Entry := ZfV ZJ7 ZJ5 ZJ6 (fun _ => none) (fun a => qReg a.1 a.2)
theorem Zpd : Zc Tryz.prog 232 Zsb :=
 Zfo (P := Tryz.prog) (n := 31) (k := 8) (l := [(287, ZKo)]) (ol := []) ⟨ZIo, trivial⟩ Tryz.func232 rfl (by kernel_rfl) Tryz.call232 trivial (rb := ZJ7) (ts := ZJ5) (rs := ZJ6) (by kernel_rfl) (t := fun a => ZNy a.1 a.2) (fun a => by kernel_rfl)
abbrev ZEd : R := R.pair Z3 (R.pair R.bool (R.pair (R.sl (R.int u8)) (R.pair (R.pair (R.int i64) (R.pair (R.int i64) (R.pair (R.int i64) (R.pair (R.int i64) (R.pair (R.int i64) (R.pair (R.int i64) (R.pair (R.int i64) (R.int i64)))))))) (R.sl (RY)))))
abbrev ZEb : List Sh := [Sh.one (R.int i64)]
abbrev ZEc : Rs := Rs.one (Sh.one (R.int u16))
def ZJ8 (s : QT1) (n : Int) : RT (Int) :=
 .leaf (Z7 s.1.2.1 n)
def Zdb (s : QT1) (n : Int) : Int := (ZJ8 s n).val
def ZeU : Entry := ZfV ZEd ZEb ZEc (fun _ => none) (fun a => Zdb a.1 a.2)
theorem Zgz : Zc Tryz.prog 231 ZeU :=
 Zfo (P := Tryz.prog) (n := 31) (k := 8) (l := [(286, ZER)]) (ol := []) ⟨ZEQ, trivial⟩ Tryz.func231 rfl (by kernel_rfl) Tryz.call231 trivial (rb := ZEd) (ts := ZEb) (rs := ZEc) (by kernel_rfl) (t := fun a => ZJ8 a.1 a.2) (fun a => by kernel_rfl)
abbrev Zm2 : R := R.pair Z3 (R.pair R.bool (R.pair (R.sl (R.int u8)) (R.pair (R.pair (R.int i64) (R.pair (R.int i64) (R.pair (R.int i64) (R.pair (R.int i64) (R.pair (R.int i64) (R.pair (R.int i64) (R.pair (R.int i64) (R.int i64)))))))) (R.sl (RY)))))
abbrev Zm1 : List Sh := []
abbrev Zhw : Rs := Rs.one (Sh.one (R.int u8))
def ZgC (s : QT1) : RT (Option (Int)) :=
 .br (qAtC s 1) (.leaf (some (bif s.2.2.2.1.1 == 14 then (rInr s.1.1 (qAt s 1) s.1.2.1.2.2.2.2.2.2.2.1).1 else (rDcr s.1.1 (qAt s 1) s.1.2.1.2.2.2.2.2.2.2.1).1))) (.leaf none)
def ZgD (s : QT1) : Int := getO Zhw.dflt (ZgC s).val
def ZeX (s : QT1) : Bool := okB (ZgC s).val
def Zkk : Entry := ZfV Zm2 Zm1 Zhw (fun a => some (ZeX a.1 )) (fun a => ZgD a.1 )
theorem Zu7 : Zc Tryz.prog 234 Zkk :=
 ZdR (P := Tryz.prog) (n := 15) (k := 8) (l := [(222, qAtE), (273, ZyC), (274, ZyM)]) (ol := []) ⟨ZgF, ZyB, ZyL, trivial⟩ Tryz.func234 rfl (by kernel_rfl) Tryz.call234 trivial (rb := Zm2) (ts := Zm1) (rs := Zhw) (by kernel_rfl) (t := fun a => ZgC a.1 ) (fun a => by kernel_rfl)
abbrev Zm0 : R := R.pair Z3 (R.pair R.bool (R.pair (R.sl (R.int u8)) (R.pair (R.pair (R.int i64) (R.pair (R.int i64) (R.pair (R.int i64) (R.pair (R.int i64) (R.pair (R.int i64) (R.pair (R.int i64) (R.pair (R.int i64) (R.int i64)))))))) (R.sl (RY)))))
abbrev ZmZ : List Sh := []
abbrev Zhv : Rs := Rs.one (Sh.one (R.int u8))
def ZgA (s : QT1) : RT (Option (Int)) :=
 let x1 := s.2.2.2.1.1 == 13 || s.2.2.2.1.2.2.2.1 == 6
 .br (!x1 || qAtC s 1) (.br (x1) (.leaf (some (qAt s 1))) (.leaf (some (qReg s s.2.2.2.1.2.2.2.1)))) (.leaf none)
def ZgB (s : QT1) : Int := getO Zhv.dflt (ZgA s).val
def ZeV (s : QT1) : Bool := okB (ZgA s).val
def Zki : Entry := ZfV Zm0 ZmZ Zhv (fun a => some (ZeV a.1 )) (fun a => ZgB a.1 )
theorem Zu5 : Zc Tryz.prog 272 Zki :=
 ZdR (P := Tryz.prog) (n := 7) (k := 8) (l := [(222, qAtE), (232, Zsb)]) (ol := []) ⟨ZgF, Zpd, trivial⟩ Tryz.func272 rfl (by kernel_rfl) Tryz.call272 trivial (rb := Zm0) (ts := ZmZ) (rs := Zhv) (by kernel_rfl) (t := fun a => ZgA a.1 ) (fun a => by kernel_rfl)
abbrev ZNY : R := R.pair Z3 (R.pair R.bool (R.pair (R.sl (R.int u8)) (R.sl (RY))))
abbrev ZNX : List Sh := [Sh.one (R.int i64)]
abbrev ZMx : Rs := Rs.one (Sh.one (R.int u8))
def mAtT (s : QT3) (n : Int) : RT (Option (Int)) :=
 .br (!decide (n < ↑(List.length s.2.2.1)) || Zf n (List.length s.2.2.1)) (.br (decide (n < ↑(List.length s.2.2.1))) (.leaf (some (R.get (R.int u8) s.2.2.1 n))) (.leaf (some (0)))) (.leaf none)
def mAt (s : QT3) (n : Int) : Int := getO ZMx.dflt (mAtT s n).val
def mAtC (s : QT3) (n : Int) : Bool := okB (mAtT s n).val
def mAtE : Entry := ZfV ZNY ZNX ZMx (fun a => some (mAtC a.1 a.2)) (fun a => mAt a.1 a.2)
theorem ZsZ : Zc Tryz.prog 153 mAtE :=
 ZdR (P := Tryz.prog) (n := 31) (k := 8) (l := []) (ol := []) trivial Tryz.func153 rfl (by kernel_rfl) Tryz.call153 trivial (rb := ZNY) (ts := ZNX) (rs := ZMx) (by kernel_rfl) (t := fun a => mAtT a.1 a.2) (fun a => by kernel_rfl)
abbrev ZF8 : R := R.pair Z3 (R.pair R.bool (R.pair (R.sl (R.int u8)) (R.sl (RY))))
abbrev ZF7 : List Sh := [Sh.one (R.int i64)]
abbrev ZwM : Rs := Rs.one (Sh.one (R.int u16))
def ZyW (s : QT3) (n : Int) : RT (Option (Int)) :=
 .br (!mAtC s (i64.wrap (n + 1)) || mAtC s n) (.br (mAtC s (i64.wrap (n + 1))) (.leaf (some (Zb3 (mAt s (i64.wrap (n + 1))) (mAt s n)))) (.leaf none)) (.leaf none)
def ZdD (s : QT3) (n : Int) : Int := getO ZwM.dflt (ZyW s n).val
def ZbD (s : QT3) (n : Int) : Bool := okB (ZyW s n).val
def Zlw : Entry := ZfV ZF8 ZF7 ZwM (fun a => some (ZbD a.1 a.2)) (fun a => ZdD a.1 a.2)
theorem ZqH : Zc Tryz.prog 165 Zlw :=
 ZdR (P := Tryz.prog) (n := 31) (k := 8) (l := [(153, mAtE), (172, Zkc)]) (ol := []) ⟨ZsZ, Zgu, trivial⟩ Tryz.func165 rfl (by kernel_rfl) Tryz.call165 trivial (rb := ZF8) (ts := ZF7) (rs := ZwM) (by kernel_rfl) (t := fun a => ZyW a.1 a.2) (fun a => by kernel_rfl)
abbrev ZsY : R := R.pair Z3 (R.pair R.bool (R.pair (R.sl (R.int u8)) (R.sl (RY))))
abbrev ZsW : List Sh := [Sh.one (R.int i64)]
abbrev ZsX : Rs := Rs.one (Sh.one (R.int u16))
def Zy4 (s : QT3) (n : Int) : RT (Int) :=
 .br s.2.1 (.leaf s.1.2.1.2.2.2.2.2.2.2.2.2) (.leaf (u16.wrap (s.1.2.1.2.2.2.2.2.2.2.2.2 + u16.wrap n)))
def Zy (s : QT3) (n : Int) : Int := (Zy4 s n).val
def Zfs : Entry := ZfV ZsY ZsW ZsX (fun _ => none) (fun a => Zy a.1 a.2)
theorem ZhI : Zc Tryz.prog 157 Zfs :=
 Zfo (P := Tryz.prog) (n := 31) (k := 8) (l := []) (ol := []) trivial Tryz.func157 rfl (by kernel_rfl) Tryz.call157 trivial (rb := ZsY) (ts := ZsW) (rs := ZsX) (by kernel_rfl) (t := fun a => Zy4 a.1 a.2) (fun a => by kernel_rfl)
abbrev Zy0 : R := R.pair Z3 (R.pair R.bool (R.pair (R.sl (R.int u8)) (R.sl (RY))))
abbrev ZyY : List Sh := [Sh.agg (R.pair (R.int i64) (R.pair (R.int i64) (R.pair (R.int i64) (R.pair (R.int i64) (R.pair (R.int i64) (R.pair (R.int i64) (R.pair (R.int i64) (R.int i64))))))))]
abbrev ZyZ : Rs := Rs.one (Sh.one R.bool)
def ZGc (s : QT3) (i : QT4) : RT (Bool) :=
 .leaf (Zdu i.2.2.2.2.2.2.1 s.1.2.1.2.2.2.2.2.2.2.1)
def Zdx (s : QT3) (i : QT4) : Bool := (ZGc s i).val
def Zf5 : Entry := ZfV Zy0 ZyY ZyZ (fun _ => none) (fun a => Zdx a.1 a.2)
theorem Zly : Zc Tryz.prog 169 Zf5 :=
 Zfo (P := Tryz.prog) (n := 31) (k := 8) (l := [(220, ZDK)]) (ol := []) ⟨ZDJ, trivial⟩ Tryz.func169 rfl (by kernel_rfl) Tryz.call169 trivial (rb := Zy0) (ts := ZyY) (rs := ZyZ) (by kernel_rfl) (t := fun a => ZGc a.1 a.2) (fun a => by kernel_rfl)
abbrev ZmN : List Sh := [Sh.agg Z3, Sh.agg (R.pair (R.int i64) (R.pair (R.int i64) (R.pair (R.int i64) (R.pair (R.int i64) (R.pair (R.int i64) (R.pair (R.int i64) (R.pair (R.int i64) (R.int i64)))))))), Sh.one (R.int u8)]
abbrev ZmO : Rs := Rs.tup [Sh.one (R.int u8), Sh.agg rcF7]
def ZrR (c : TC) (i : QT4) (v : Int) : RT (QT2) :=
 .br (i.1 == 14) (.leaf (rInr c.1 v c.2.1.2.2.2.2.2.2.2.1)) (.leaf (rDcr c.1 v c.2.1.2.2.2.2.2.2.2.1))
def Zfp (c : TC) (i : QT4) (v : Int) : QT2 := (ZrR c i v).val
def ZeO : Entry := Zk ZmN ZmO (fun _ => none) (fun a => Zfp a.1 a.2.1 a.2.2)
theorem Zjv : Zc Tryz.prog 166 ZeO :=
 pureQ 255 [(218, ZNr), (219, ZNx)] [] ZmN ZmO ⟨ZLo, ZLx, trivial⟩ Tryz.func166 Tryz.call166 trivial (t := fun a => ZrR a.1 a.2.1 a.2.2) (fun a => by kernel_rfl)
abbrev ZpP : List Sh := [Sh.one (R.int i64), Sh.one (R.int u8)]
abbrev ZpQ : Rs := Rs.one (Sh.one (R.int i64))
def Zwb (chip : Int) (op : Int) : RT (Int) :=
 .br ((Za chip op).1 == 2) (.br (!chip == 2 && ((Za chip op).2.2.1 != 6 && (Za chip op).2.2.2.1 != 6)) (.leaf (5)) (.leaf (4))) (.br (bif (Za chip op).1 == 14 then (Za chip op).1 == 14 else (Za chip op).1 == 15) (.br (!chip == 2 && (Za chip op).2.2.1 != 6) (.leaf (5)) (.leaf (4))) (.br ((Za chip op).1 == 37) (.br (chip == 2) (.leaf (5)) (.leaf (4))) (.br ((Za chip op).1 == 26) (.br ((Za chip op).2.2.2.2.2.2.1 == 11) (.leaf (4)) (.br (chip == 2) (.leaf (6)) (.leaf (5)))) (.br (bif (Za chip op).1 == 16 then (Za chip op).1 == 16 else bif (Za chip op).1 == 17 then (Za chip op).1 == 17 else bif (Za chip op).1 == 28 then (Za chip op).1 == 28 else bif (Za chip op).1 == 29 then (Za chip op).1 == 29 else bif (Za chip op).1 == 25 then (Za chip op).1 == 25 else bif (Za chip op).1 == 27 then (Za chip op).1 == 27 else bif (Za chip op).1 == 45 then (Za chip op).1 == 45 else (Za chip op).1 == 30) (.br (chip == 2) (.leaf (6)) (.leaf (5))) (.leaf (4))))))
def Znb (chip : Int) (op : Int) : Int := (Zwb chip op).val
def ZL8 : Entry := Zk ZpP ZpQ (fun _ => none) (fun a => Znb a.1 a.2)
theorem ZFj : Zc Tryz.prog 115 ZL8 :=
 pureQ 72842913792127 [(182, Zsx)] [] ZpP ZpQ ⟨Zlf, trivial⟩ Tryz.func115 Tryz.call115 trivial (t := fun a => Zwb a.1 a.2) (fun a => by kernel_rfl)
abbrev Zx1 : List Sh := [Sh.one (R.int i64), Sh.one (R.int u8)]
abbrev Zx2 : Rs := Rs.one (Sh.one (R.int i64))
def ZuT (chip : Int) (op : Int) : RT (Int) :=
 let x1 := bif (Za chip op).1 == 14 then (Za chip op).1 == 14 else (Za chip op).1 == 15
 let x2 := !(Za chip op).1 == 2 && (!x1 && ((bif (Za chip op).1 == 16 then (Za chip op).1 == 16 else bif (Za chip op).1 == 17 then (Za chip op).1 == 17 else bif (Za chip op).1 == 28 then (Za chip op).1 == 28 else bif (Za chip op).1 == 29 then (Za chip op).1 == 29 else bif (Za chip op).1 == 25 then (Za chip op).1 == 25 else bif (Za chip op).1 == 27 then (Za chip op).1 == 27 else bif (Za chip op).1 == 30 then (Za chip op).1 == 30 else (Za chip op).1 == 45) || (Za chip op).1 == 26 && (Za chip op).2.2.2.2.2.2.1 != 11))
 .br (rOn chip && x2) (.leaf (6)) (.br (rOn chip && (Za chip op).1 == 37) (.leaf (5)) (.br (!rOn chip && (x2 || bif (Za chip op).1 == 2 then (Za chip op).2.2.1 != 6 && (Za chip op).2.2.2.1 != 6 else x1 && (Za chip op).2.2.1 != 6)) (.leaf (5)) (.leaf (4))))
def ZfH (chip : Int) (op : Int) : Int := (ZuT chip op).val
def Zox : Entry := Zk Zx1 Zx2 (fun _ => none) (fun a => ZfH a.1 a.2)
theorem Zr6 : Zc Tryz.prog 116 Zox :=
 pureQ 144687209545474303 [(107, Zr8), (146, rOnE)] [] Zx1 Zx2 ⟨Zkg, Zeu, trivial⟩ Tryz.func116 Tryz.call116 trivial (t := fun a => ZuT a.1 a.2) (fun a => by kernel_rfl)
abbrev Zlh : List Sh := [Sh.agg Z3, Sh.one (R.int i64)]
abbrev Zli : Rs := Rs.one (Sh.agg Z3)
def Zi0 (c : TC) (s : Int) : RT TC :=
 .br (decide (s < 1) || decide (s > 5))
 (.leaf (c))
 (.leaf ((c.1, c.2.1, false, false, false, c.2.2.2.2.2.1, !s == 1 && c.2.2.2.2.2.2.1, bif s == 1 then c.2.2.2.2.2.2.2.1 else !s == 2 && c.2.2.2.2.2.2.2.1, c.2.2.2.2.2.2.2.2.1, c.2.2.2.2.2.2.2.2.2.1, s == 1 || c.2.2.2.2.2.2.2.2.2.2.1, bif s == 1 then c.2.2.1 else c.2.2.2.2.2.2.2.2.2.2.2.1, c.2.2.2.2.2.2.2.2.2.2.2.2)))
def Zqv (c : TC) (s : Int) : TC := (Zi0 c s).val
def ZIC : Entry := Zk Zlh Zli (fun _ => none) (fun a => Zqv a.1 a.2)
theorem ZBH : Zc Tryz.prog 110 ZIC :=
 pureQ 1056799 [] [] Zlh Zli trivial Tryz.func110 Tryz.call110 trivial (t := fun a => Zi0 a.1 a.2) (fun a => by kernel_rfl)
abbrev Zr9 : List Sh := [Sh.agg Z3, Sh.one (R.int i64)]
abbrev Zsa : Rs := Rs.one (Sh.agg Z3)
def ZiR (c : TC) (s : Int) : RT TC :=
 .br (decide (s < 1) || decide (s > 5))
 (.leaf (c))
 (.leaf ((c.1, c.2.1, false, false, false, c.2.2.2.2.2.1, !s == 1 && c.2.2.2.2.2.2.1, !s == 2 && c.2.2.2.2.2.2.2.1, c.2.2.2.2.2.2.2.2.1, c.2.2.2.2.2.2.2.2.2.1, s == 1 || c.2.2.2.2.2.2.2.2.2.2.1, bif s == 1 then c.2.2.1 else c.2.2.2.2.2.2.2.2.2.2.2.1, c.2.2.2.2.2.2.2.2.2.2.2.2)))
def ZH (c : TC) (s : Int) : TC := (ZiR c s).val
def Zgy : Entry := Zk Zr9 Zsa (fun _ => none) (fun a => ZH a.1 a.2)
theorem Zhu : Zc Tryz.prog 97 Zgy :=
 pureQ 31 [] [] Zr9 Zsa trivial Tryz.func97 Tryz.call97 trivial (t := fun a => ZiR a.1 a.2) (fun a => by kernel_rfl)
abbrev Zpu : List Sh := [Sh.agg Z3]
abbrev Zpv : Rs := Rs.one (Sh.agg Z3)
def Zvk (c : TC) : RT TC :=
 .leaf ((c.1, (c.2.1.1, c.2.1.2.1, c.2.1.2.2.1, c.2.1.2.2.2.1, c.2.1.2.2.2.2.1, c.2.1.2.2.2.2.2.1, c.2.1.2.2.2.2.2.2.1, c.2.1.2.2.2.2.2.2.2.1, c.2.1.2.2.2.2.2.2.2.2.1, 0), false, false, false, bif c.1 == 2 then 7 else 0, false, false, false, false, false, false, false))
def ZEK (c : TC) : TC := (Zvk c).val
def ZLT : Entry := Zk Zpu Zpv (fun _ => none) (fun a => ZEK a)
theorem ZEJ : Zc Tryz.prog 77 ZLT :=
 pureQ 15 [] [] Zpu Zpv trivial Tryz.func77 Tryz.call77 trivial (t := fun a => Zvk a) (fun a => by kernel_rfl)
abbrev ZxN : List Sh := [Sh.agg Z3]
abbrev ZxO : Rs := Rs.one (Sh.agg Z3)
def Zt5 (c : TC) : RT TC :=
 .leaf ((c.1, (c.2.1.1, c.2.1.2.1, c.2.1.2.2.1, c.2.1.2.2.2.1, c.2.1.2.2.2.2.1, c.2.1.2.2.2.2.2.1, c.2.1.2.2.2.2.2.2.1, c.2.1.2.2.2.2.2.2.2.1, c.2.1.2.2.2.2.2.2.2.2.1, 0), false, false, false, bif rOn c.1 then 7 else 0, false, false, false, false, false, false, false))
def ZaX (c : TC) : TC := (Zt5 c).val
def ZDr : Entry := Zk ZxN ZxO (fun _ => none) (fun a => ZaX a)
theorem ZDq : Zc Tryz.prog 81 ZDr :=
 pureQ 15 [(146, rOnE)] [] ZxN ZxO ⟨Zeu, trivial⟩ Tryz.func81 Tryz.call81 trivial (t := fun a => Zt5 a) (fun a => by kernel_rfl)
abbrev ZxP : List Sh := [Sh.one (R.int i64)]
abbrev ZxQ : Rs := Rs.one (Sh.one R.bool)
def Zt6 (k : Int) : RT (Bool) :=
 .leaf (k == 1 || (k == 2 || (k == 4 || (k == 6 || (k == 8 || k == 9)))))
def Zjx (k : Int) : Bool := (Zt6 k).val
def Zoi : Entry := Zk ZxP ZxQ (fun _ => none) (fun a => Zjx a)
theorem ZrZ : Zc Tryz.prog 103 Zoi :=
 pureQ 7 [] [] ZxP ZxQ trivial Tryz.func103 Tryz.call103 trivial (t := fun a => Zt6 a) (fun a => by kernel_rfl)
abbrev Zpw : List Sh := [Sh.one (R.int i64)]
abbrev Zpx : Rs := Rs.one (Sh.one R.bool)
def Zvl (k : Int) : RT (Bool) :=
 .br (bif k == 1 then k == 1 else bif k == 2 then k == 2 else bif k == 4 then k == 4 else bif k == 6 then k == 6 else bif k == 8 then k == 8 else k == 9)
 (.leaf (true))
 (.leaf (false))
def ZEM (k : Int) : Bool := (Zvl k).val
def ZLU : Entry := Zk Zpw Zpx (fun _ => none) (fun a => ZEM a)
theorem ZEL : Zc Tryz.prog 114 ZLU :=
 pureQ 23 [] [] Zpw Zpx trivial Tryz.func114 Tryz.call114 trivial (t := fun a => Zvl a) (fun a => by kernel_rfl)
theorem ZHe (c) (s : Int) : Zqv c s = ZH c s := by
 by_cases h : s = 1
 ·subst h; simp [Zqv, Zi0, ZH, ZiR, RT.val]
 ·have h' : (s == 1) = false := by simpa using h
  simp [Zqv, Zi0, ZH, ZiR, RT.val, h']
theorem ZHD (c) : ZEK c = ZaX c := by simp [ZEK, Zvk, ZaX, Zt5, RT.val, ZaR]
theorem ZHF (k) : ZEM k = Zjx k := by simp [ZEM, Zvl, Zjx, Zt6, RT.val]
def Ze0 : Entry := Zk Zlh Zli (fun _ => none) (fun a => ZH a.1 a.2)
theorem Zf0 : Zc Tryz.prog 110 Ze0 := ZBH.tot (fun a h => by simp) (fun a h => ZHe _ _)
def Zyo : Entry := Zk Zpu Zpv (fun _ => none) (fun a => ZaX a)
theorem ZAO : Zc Tryz.prog 77 Zyo := ZEJ.tot (fun a h => by simp) (fun a h => ZHD _)
def ZiV : Entry := Zk Zpw Zpx (fun _ => none) (fun a => Zjx a)
theorem Zm8 : Zc Tryz.prog 114 ZiV := ZEL.tot (fun a h => by simp) (fun a h => ZHF _)
end
end Go.Proofs.YtghoimllhpjkjaaGreat
