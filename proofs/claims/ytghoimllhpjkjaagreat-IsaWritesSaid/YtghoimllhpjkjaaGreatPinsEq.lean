/-
  The pins of a state: the program's are the reference's. Conditions: none.
-/
import Derived.Test.YtghoimllhpjkjaaGreatLeafs
import Derived.Test.YtghoimllhpjkjaaGreatS3D
import Derived.Test.YtghoimllhpjkjaaGreatProg
open Go.IntKind (u8 u16 i64)
open Go Go.S3 Go.Proofs
set_option linter.unusedVariables false
set_option linter.unusedSimpArgs false
set_option maxRecDepth 100000
namespace Go.Proofs.YtghoimllhpjkjaaGreat
noncomputable section
theorem Zq2 (b : Int) (h : inR .u8 b) : ZiC b = true ∧ Zoq b = Zje b := by
 have h1 := ZgU (fun b => ZiC b && (Zoq b == Zje b)) (by kernel_rfl) b h
 simpa using h1
theorem ZrE (a b c : Bool) : pMaj a b c = rMaj a b c := by cases a <;> cases b <;> cases c <;> rfl
theorem ZIG (a : Bool) : pOne a = rOne a := by cases a <;> rfl
theorem ZAZ (a b : Int) (c : Bool) : pSum a b c = rSum a b c := by
 simp only [pSum, ZJR, rSum, ZFS, RT.val, Bool.cond_self, Zka, Ziz, Zc2, Ziu, ZIG]
theorem ZvQ (a b : Int) (c : Bool) : ZfJ a b c = ZbM a b c := by
 have h1 := ZMJ a
 have h2 := ZMJ b
 have e : IntKind.wrap .i64 (IntKind.wrap .i64 (IntKind.wrap .i64 (IntKind.wrap .i64 (andI .u8 a 15) + 15) - IntKind.wrap .i64 (andI .u8 b 15)) + 1) = IntKind.wrap .i64 (IntKind.wrap .i64 (IntKind.wrap .i64 (andI .u8 a 15) + IntKind.wrap .i64 (IntKind.wrap .u8 (15 - andI .u8 b 15))) + 1) := by
  rw [ZI9]
  rw [wrap_i64 (andI .u8 a 15) (by omega) (by omega), wrap_i64 (andI .u8 b 15) (by omega) (by omega), wrap_i64 ((15 - andI .u8 b 15) % 256) (by omega) (by omega), wrap_i64 (andI .u8 a 15 + 15) (by omega) (by omega)]
  congr 1; rw [wrap_i64 _ (by omega) (by omega), wrap_i64 _ (by omega) (by omega)]; omega
 simp only [ZfJ, ZDy, ZbM, ZwP, RT.val, Bool.cond_self, Zka, Ziz, Zc2, Ziu, ZIG, e]
theorem ZpN (a b : Int) : ZDa a b = ZdC a b := rfl
theorem ZFn (b : Bool) (n : Int) (h : 0 ≤ n) : Zds b n = true ∧ pBit b n = bif b then shlI .u8 1 n else 0 := by
 cases b <;> simp [Zds, pBit, ZGV, RT.val, h, okB, getO]
theorem Zew (b : Bool) (n : Int) (h : 0 ≤ n) : ZcL b n = true ∧ rBit b n = bif b then shlI .u8 1 n else 0 := by
 cases b <;> simp [ZcL, rBit, ZGg, RT.val, h, okB, getO]
theorem Zby (chip : Int) : rOn chip = (chip == 2) := rfl
theorem ZL2 (chip : Int) (f) : Zw7 chip f = true := by
 cases h : chip == 2 <;> simp [Zw7, Zrd, RT.val, ZFn, okB, h]
theorem ZBh (chip : Int) (f) : Zwy chip f = true := by
 cases h : chip == 2 <;> simp [Zwy, ZqL, RT.val, Zew, Zby, okB, h]
theorem ZJQ (chip : Int) (f) : ZGD chip f = ZFZ chip f := by
 simp only [ZGD, Zrd, ZFZ, ZqL, RT.val, ZFn, Zew, Zby]; cases chip == 2 <;> simp [ZFn, Zew, getO]
theorem of_C (r : Int) (h : inR .u8 r) : pOfC r = true := by simp [pOfC, pOfT, RT.val, Zq2 r h, okB]
theorem Zrp (r : Int) (h : inR .u8 r) : pOf r = rOf r := by simp [pOf, pOfT, rOf, rOfT, RT.val, Zq2 r h, getO]
theorem ZKX (r) (n : Int) : ZyG r n = true := by
 have := and7 n
 have h : decide (0 ≤ andI .i64 n 7 ∧ andI .i64 n 7 < 8) = true := by simp; omega
 simp only [ZyG, ZBY, RT.val, h, cond_true, okB]
theorem ZE6 {m : Int} (h : 0 ≤ m ∧ m ≤ 7) : m = 0 ∨ m = 1 ∨ m = 2 ∨ m = 3 ∨ m = 4 ∨ m = 5 ∨ m = 6 ∨ m = 7 := by omega
theorem ZCu (r) (n : Int) : pGet r n = rGet r n := by
 have h7 := and7 n
 have h : decide (0 ≤ andI .i64 n 7 ∧ andI .i64 n 7 < 8) = true := by simp; omega
 simp only [pGet, ZKc, rGet, ZBY, RT.val, h, cond_true, getO]
 generalize andI .i64 n 7 = m at *
 rcases ZE6 h7 with rfl | rfl | rfl | rfl | rfl | rfl | rfl | rfl <;> rfl
theorem ZCm (r) (n v : Int) : pSet r n v = rSet r n v := by
 have h7 := and7 n
 simp only [pSet, ZJU, rSet, ZLz, RT.val, cond_true, getO]
 generalize andI .i64 n 7 = m at *
 rcases ZE6 h7 with rfl | rfl | rfl | rfl | rfl | rfl | rfl | rfl <;> rfl
theorem ZGk (r) (n : Int) : ZJ1 r n = ZaW r n := by
 simp only [ZJ1, ZCQ, ZaW, ZqK, RT.val, ZCu, ZKX, ZpN]
 cases andI .i64 n 3 == 3 <;> simp [okB, getO]
theorem ZJt (r) (n : Int) : ZBu r n = true := by
 simp only [ZBu, ZqK, RT.val, ZKX]
 cases andI .i64 n 3 == 3 <;> simp [okB]
theorem ZtK (r) (n v : Int) : Zok r n v = ZS r n v := by
 simp only [Zok, Zkb, ZS, ZqG, RT.val, ZCm]
theorem ZCq (chip : Int) (r) : ZJ3 chip r = true ∧ pPSW chip r = rPSW chip r := by
 simp [ZJ3, pPSW, ZGE, rPSW, ZBy, RT.val, ZL2, ZBh, ZJQ, ZpN, okB, getO]
theorem ZLv (chip : Int) (r) : ZJB chip r = true := by simp [ZJB, ZBy, RT.val, ZBh, okB]
theorem ZAq (chip : Int) (b : Int) : Zoi chip b = ZsJ chip b := by
 simp only [Zoi, Zoh, ZsJ, Zwl, RT.val, Zby]
theorem ZyO (chip : Int) (r) (v : Int) : ZtT chip r v = Zjd chip r v := by
 simp only [ZtT, Zol, Zjd, Zwm, RT.val, ZAq]
theorem ZHs (c : Int) (f) : ZDg c f = ZdD c f := by
 simp only [ZDg, ZuK, ZdD, ZtA, RT.val]
 by_cases h : 0 ≤ c ∧ c ≤ 11
 ·have : c = 0 ∨ c = 1 ∨ c = 2 ∨ c = 3 ∨ c = 4 ∨ c = 5 ∨ c = 6 ∨ c = 7 ∨ c = 8 ∨ c = 9 ∨ c = 10 ∨ c = 11 := by omega
  rcases this with rfl | rfl | rfl | rfl | rfl | rfl | rfl | rfl | rfl | rfl | rfl | rfl <;> simp
 ·have e : ∀ k : Int, 0 ≤ k → k ≤ 11 → (c == k) = false := fun k h1 h2 => by simp; omega
  simp [e]
theorem Zqo (a b : Int) (c : Bool) : inR .u8 (rSum a b c).1 := by
 simp only [rSum, ZFS, RT.val, Bool.cond_self]; exact ZaL _ _
theorem ZlS (a b : Int) (c : Bool) : inR .u8 (ZbM a b c).1 := by
 simp only [ZbM, ZwP, RT.val, Bool.cond_self]; exact ZaL _ _
theorem ZhK (a b : Int) : inR .u8 (andI .u8 a b) ∧ inR .u8 (orI .u8 a b) ∧ inR .u8 (xorI .u8 a b) := Zfd _ _ _
theorem Zqy (chip v r : Int) (half over x : Bool) (f) (h : inR .u8 r) : Zgp chip v r half over x f = true ∧
  Zkg chip v r half over x f = Zl3 chip ((rOf r).1, (rOf r).2.1, (rOf r).2.2.1, half, (rOf r).2.2.2.2.1, (rOf r).2.2.2.2.2.1, f.2.2.2.2.2.2) (rMaj (decide (v ≥ 128)) x (decide (r ≥ 128))) over := by
 cases hc : chip == 2 <;> simp [Zgp, Zkg, ZiA, Zl3, Zmw, RT.val, of_C r h, Zrp r h, okB, getO, Zby, hc, ZrE, rOf, rOfT]
theorem ZCs (chip v : Int) (f) : ZKa chip v f = true ∧ pInr chip v f = rInr chip v f := by
 have h := Zqy chip v (rSum v 1 false).1 (rSum v 1 false).2.2.1 (rSum v 1 false).2.2.2 false f (Zqo _ _ _)
 simp only [ZKa, pInr, ZGJ, rInr, ZJG, RT.val, ZAZ, h.1, h.2, cond_true, okB, getO, and_self]
theorem ZCw (chip v : Int) (f) : ZKl chip v f = true ∧ pDcr chip v f = rDcr chip v f := by
 have h := Zqy chip v (ZbM v 1 false).1 (ZbM v 1 false).2.2.1 (ZbM v 1 false).2.2.2 true f (ZlS _ _ _)
 simp only [ZKl, pDcr, ZGR, rDcr, ZJJ, RT.val, ZvQ, h.1, h.2, cond_true, okB, getO, and_self]
theorem ZJN (chip v : Int) (f) : pInx chip v f = rInx chip v f := by
 simp only [pInx, ZJ8, rInx, ZLN, RT.val, Zby]
theorem ZJO (chip v : Int) (f) : pDcx chip v f = rDcx chip v f := by
 simp only [pDcx, ZKj, rDcx, ZLS, RT.val, Zby]
theorem ZCx (chip a : Int) (f) : ZKp chip a f = true ∧ pDaa chip a f = rDaa chip a f := by
 have h := fun x => of_C _ (Zqo a x false)
 have h2 := fun x => Zrp _ (Zqo a x false)
 cases hc : chip == 2 <;> simp [ZKp, pDaa, ZGT, rDaa, ZLV, Zl3, Zmw, RT.val, ZAZ, h, h2, okB, getO, Zby, hc, ZrE, rOf, rOfT]
theorem Zw0 (a b : Int) : ZDv a b = true ∧ ZKe a b = ZB1 a b := by
 have h := fun x y z => of_C _ (ZlS x y z)
 have h2 := fun x y z => Zrp _ (ZlS x y z)
 simp [ZDv, ZKe, Zxo, ZB1, ZId, RT.val, ZvQ, h, h2, okB, getO, ZrE, ZpN, rOf, rOfT, Bool.cond_self]
theorem ZGp (v : Int) : ZMf v = ZGi v := rfl
theorem ZIO (c : Bool) : pLow c = bif c then 1 else 0 := by cases c <;> rfl
theorem ZCn (op a : Int) (c : Bool) : ZJW op a c = true ∧ pRot op a c = rRot op a c := by
 have h3 := and3 op
 simp only [ZJW, pRot, ZGw, rRot, ZLA, RT.val, ZIO, (Zew c 0 (by decide)).1, (Zew c 0 (by decide)).2, (Zew c 7 (by decide)).1, (Zew c 7 (by decide)).2]
 generalize andI .i64 op 3 = m at *
 have : m = 0 ∨ m = 1 ∨ m = 2 ∨ m = 3 := by omega
 rcases this with rfl | rfl | rfl | rfl <;> cases c <;> exact ⟨rfl, rfl⟩
theorem ZGj (v : Int) (c : Bool) (h : inR .u16 v) : ZJ0 v c = ZBq v c := by
 have hb := Zew c 0 (by decide)
 have e : IntKind.wrap .u16 (bif c then 1 else 0) = IntKind.wrap .u16 (bif c then shlI .u8 1 0 else 0) := by cases c <;> rfl
 have hr : ∀ x, inR .u16 (orI .u16 x (IntKind.wrap .u16 (bif c then shlI .u8 1 0 else 0))) := fun x => (Zfd _ _ _).2.1
 simp only [ZJ0, ZCO, ZBq, ZH0, RT.val, ZIO, hb.1, hb.2, cond_true, getO, e]
 rw [Zna _ (Zfd _ _ _).2.2, ZAX _ _ (hr _) h, ZvX _ (hr _), ZvX _ h]
 cases tb (orI .u16 (shlI .u16 v 1) (IntKind.wrap .u16 (bif c then shlI .u8 1 0 else 0))) <;> cases tb v <;> rfl
theorem ZJP (chip a b : Int) (f) (ha : inR .u16 a) (hb : inR .u16 b) : pDad chip a b f = rDad chip a b f := by
 have hr : inR .u16 (IntKind.wrap .u16 (a + b)) := ZaL _ _
 have ha' := Zhx.1 ha
 have hb' := Zhx.1 hb
 simp only [pDad, ZKn, rDad, ZLU, RT.val, Zby]
 rw [Zna _ (Zfd _ _ _).1, ZHT _ _ (Zfd _ _ _).2.2 (Zfd _ _ _).2.2, ZAX _ _ ha hr, ZAX _ _ hb hr]
 have e1 : decide (IntKind.wrap .u16 (a + b) < a) = decide (IntKind.wrap .i64 (IntKind.wrap .i64 a + IntKind.wrap .i64 b) > 65535) := by
  rw [ZvY, wrap_i64 a (by omega) (by omega), wrap_i64 b (by omega) (by omega), wrap_i64 (a + b) (by omega) (by omega)]
  simp only [decide_eq_decide]; omega
 have e2 : (((tb a) ^^ (tb (IntKind.wrap .u16 (a + b)))) && ((tb b) ^^ (tb (IntKind.wrap .u16 (a + b))))) = (decide (IntKind.wrap .i64 (IntKind.wrap .i64 (IntKind.wrap .i16 a) + IntKind.wrap .i64 (IntKind.wrap .i16 b)) < -32768) || decide (IntKind.wrap .i64 (IntKind.wrap .i64 (IntKind.wrap .i16 a) + IntKind.wrap .i64 (IntKind.wrap .i16 b)) > 32767)) := by
  have ia := ZvZ a
  have ib := ZvZ b
  have hia : -32768 ≤ IntKind.wrap .i16 a ∧ IntKind.wrap .i16 a ≤ 32767 := by rw [ia]; split <;> omega
  have hib : -32768 ≤ IntKind.wrap .i16 b ∧ IntKind.wrap .i16 b ≤ 32767 := by rw [ib]; split <;> omega
  rw [wrap_i64 (IntKind.wrap .i16 a) (by omega) (by omega), wrap_i64 (IntKind.wrap .i16 b) (by omega) (by omega), wrap_i64 (IntKind.wrap .i16 a + IntKind.wrap .i16 b) (by omega) (by omega)]
  rw [ia, ib, ZvY]
  unfold tb
  by_cases h1 : a ≥ 32768 <;> by_cases h2 : b ≥ 32768 <;> by_cases h3 : (a + b) % 65536 ≥ 32768 <;> simp [h1, h2, h3] <;> (try split) <;> (try split) <;> omega
 rw [e1, e2]
theorem ZCo (c l) : ZJY c l = true ∧ pRim c l = rRim c l ∧ ZLD c l = true := by
 have h : ∀ b n, 0 ≤ n → ZbZ b n = true ∧ Zra b n = bif b then shlI .u8 1 n else 0 := fun b n h => by
  cases b <;> simp [ZbZ, Zra, Zw3, RT.val, h, okB, getO]
 have h3 : ∀ b, Zan b 3 = true ∧ Zfq b 3 = bif b then shlI .u8 1 3 else 0 := fun b => by cases b <;> exact ⟨rfl, rfl⟩
 have h4 : ∀ b, Zan b 4 = true ∧ Zfq b 4 = bif b then shlI .u8 1 4 else 0 := fun b => by cases b <;> exact ⟨rfl, rfl⟩
 have h5 : ∀ b, Zan b 5 = true ∧ Zfq b 5 = bif b then shlI .u8 1 5 else 0 := fun b => by cases b <;> exact ⟨rfl, rfl⟩
 have h6 : ∀ b, Zan b 6 = true ∧ Zfq b 6 = bif b then shlI .u8 1 6 else 0 := fun b => by cases b <;> exact ⟨rfl, rfl⟩
 have h7 : ∀ b, Zan b 7 = true ∧ Zfq b 7 = bif b then shlI .u8 1 7 else 0 := fun b => by cases b <;> exact ⟨rfl, rfl⟩
 simp [ZJY, pRim, ZGy, ZLD, rRim, ZFT, RT.val, h, h3, h4, h5, h6, h7, okB, getO]
theorem ZJM (c) (a : Int) : pSim c a = rSim c a := by
 simp only [pSim, ZJT, rSim, ZJy, RT.val]
theorem ZyK (s : Int) : ZtP s = Zu s := by
 simp only [ZtP, Zog, Zu, Zwk, RT.val]
theorem ZCr (chip op a b : Int) : ZoC chip op a b = true ∧ ∀ f, (andI .i64 op 7 = op) → 4 ≤ op → op ≤ 6 → Zxb chip op a b = rDo chip op a b f := by
 have h := fun x y => of_C _ (ZhK x y).1
 have h' := fun x y => of_C _ (ZhK x y).2.1
 have h'' := fun x y => of_C _ (ZhK x y).2.2
 have g := fun x y => Zrp _ (ZhK x y).1
 have g' := fun x y => Zrp _ (ZhK x y).2.1
 have g'' := fun x y => Zrp _ (ZhK x y).2.2
 have h0 := of_C 0 (by rw [ZmZ]; omega)
 constructor
 ·cases h4 : op == 4 <;> cases h5 : op == 5 <;> cases h6 : op == 6 <;> simp [ZoC, ZkW, RT.val, h, h', h'', h0, okB, h4, h5, h6]
 ·intro f e h4 h6
  have : op = 4 ∨ op = 5 ∨ op = 6 := by omega
  rcases this with rfl | rfl | rfl <;> cases hc : chip == 2 <;> simp [Zxb, ZkW, rDo, rDoT, RT.val, h, h', h'', g, g', g'', getO, e, Zby, hc, Zl3, Zmw, rOf, rOfT, ZrE]
theorem ZIn (chip op a b : Int) (f) : pDoC chip op a b f = true ∧ pDo chip op a b f = rDo chip op a b f := by
 have h7 := and7 op
 have hs := fun x => of_C _ (Zqo a b x)
 have hs2 := fun x => Zrp _ (Zqo a b x)
 have hd := fun x => of_C _ (ZlS a b x)
 have hd2 := fun x => Zrp _ (ZlS a b x)
 have hl := ZCr chip (andI .i64 op 7) a b
 have hlt : decide (b < 128) = !decide (128 ≤ b) := by
  by_cases h : b < 128
  ·have : ¬ 128 ≤ b := by omega
   simp [h, this]
  ·have : 128 ≤ b := by omega
   simp [h, this]
 have hr : rDo chip (andI .i64 op 7) a b f = rDo chip op a b f := by
  have : andI .i64 (andI .i64 op 7) 7 = andI .i64 op 7 := by
   generalize andI .i64 op 7 = m at *
   rcases ZE6 h7 with rfl | rfl | rfl | rfl | rfl | rfl | rfl | rfl <;> rfl
  simp only [rDo, rDoT, this]
 have he : andI .i64 (andI .i64 op 7) 7 = andI .i64 op 7 := by
  generalize andI .i64 op 7 = m at *
  rcases ZE6 h7 with rfl | rfl | rfl | rfl | rfl | rfl | rfl | rfl <;> rfl
 rw [← hr]
 have hl2 := hl.2 f he
 have hl1 := hl.1
 clear hl hr
 simp only [pDoC, pDo, pDoT, RT.val]
 generalize andI .i64 op 7 = m at *
 rcases ZE6 h7 with rfl | rfl | rfl | rfl | rfl | rfl | rfl | rfl
 case inr.inr.inr.inr.inl => simp [hl1, hl2, okB, getO]
 case inr.inr.inr.inr.inr.inl => simp [hl1, hl2, okB, getO]
 case inr.inr.inr.inr.inr.inr.inl => simp [hl1, hl2, okB, getO]
 all_goals cases hc : chip == 2 <;> simp [rDo, rDoT, RT.val, ZAZ, ZvQ, hs, hs2, hd, hd2, okB, getO, he, Zby, hc, Zl3, Zmw, rOf, rOfT, ZrE, hlt]
theorem ZCv (chip op : Int) (h : chip ≠ 2) : (ZdX chip op).val = (ZdX 0 op).val := by
 have h1 : (chip == 2) = false := by simpa using h
 have h0 : ((0 : Int) == 2) = false := rfl
 simp only [ZdX, RT.val, h1, h0]
theorem Zqz (chip op : Int) (h : chip ≠ 2) : (ZdV chip op).val = (ZdV 0 op).val := by
 have h1 : rOn chip = false := by simpa [Zby] using h
 have h0 : rOn 0 = false := rfl
 simp only [ZdV, RT.val, h1, h0]
def decT (chip op : Int) : Bool := okB (ZdX chip op).val && okB (ZdV chip op).val && (ZkZ chip op == Zc chip op)
theorem dec_ok (chip op : Int) (h : inR .u8 op) : ZiF chip op = true ∧ ZkZ chip op = Zc chip op ∧ Ziy chip op = true := by
 have fin : ∀ c, decT c op = true → ZiF c op = true ∧ ZkZ c op = Zc c op ∧ Ziy c op = true := by
  intro c hc
  simp only [decT, Bool.and_eq_true, beq_iff_eq] at hc
  exact ⟨hc.1.1, hc.2, hc.1.2⟩
 by_cases hc : chip = 2
 ·subst hc; exact fin 2 (ZgU (decT 2) (by kernel_rfl) op h)
 ·have := fin 0 (ZgU (decT 0) (by kernel_rfl) op h)
  unfold ZiF ZkZ Zc Ziy at this ⊢
  rw [ZCv chip op hc, Zqz chip op hc]; exact this
def ZoD : Entry := Zm ZuI ZuJ (fun _ => none) (fun a => ZdC a.1 a.2)
theorem Zrf : Zb Tryz.prog 236 ZoD := ZiE.tot (fun a h => by simp) (fun a h => ZpN _ _)
def ZIC : Entry := Zm ZDi ZDj (fun _ => none) (fun a => rGet a.1 a.2)
theorem ZGK : Zb Tryz.prog 287 ZIC := ZDh.tot (fun a h => by simp) (fun a h => ZCu _ _)
def ZB0 : Entry := Zm ZBX ZwL (fun _ => none) (fun a => rGet a.1 a.2)
theorem ZF9 : Zb Tryz.prog 163 ZB0 := ZBW.tot (fun a h => by have h1 := ZKX a.1 a.2; simp [h1]) (fun a h => rfl)
def Zq9 : Entry := Zm ZCE ZCF (fun _ => none) (fun a => rSet a.1 a.2.1 a.2.2)
theorem Zw2 : Zb Tryz.prog 268 Zq9 := ZCD.tot (fun a h => by simp) (fun a h => ZCm _ _ _)
def ZCS : Entry := Zm ZtZ Zt0 (fun _ => none) (fun a => ZaW a.1 a.2)
theorem ZCR : Zb Tryz.prog 286 ZCS := ZGB.tot (fun a h => by simp) (fun a h => ZGk _ _)
def ZsP : Entry := Zm ZsO ZnH (fun _ => none) (fun a => ZaW a.1 a.2)
theorem ZBv : Zb Tryz.prog 158 ZsP := ZFX.tot (fun a h => by have h1 := ZJt a.1 a.2; simp [h1]) (fun a h => rfl)
def Zbo : Entry := Zm Zhg Zhh (fun _ => none) (fun a => ZS a.1 a.2.1 a.2.2)
theorem Zdm : Zb Tryz.prog 269 Zbo := ZtR.tot (fun a h => by simp) (fun a h => ZtK _ _ _)
def ZCV : Entry := Zm ZCU Zw8 (fun _ => none) (fun a => rPSW a.1 a.2)
theorem ZGF : Zb Tryz.prog 290 ZCV := ZJ2.tot (fun a h => by have h1 := (ZCq a.1 a.2).1; simp [h1]) (fun a h => (ZCq _ _).2)
def ZBz : Entry := Zm ZBx Zwz (fun _ => none) (fun a => rPSW a.1 a.2)
theorem ZF0 : Zb Tryz.prog 171 ZBz := ZJA.tot (fun a h => by have h1 := ZLv a.1 a.2; simp [h1]) (fun a h => rfl)
def Zke : Entry := Zm Zkc Zkd (fun _ => none) (fun a => Zjd a.1 a.2.1 a.2.2)
theorem ZtS : Zb Tryz.prog 281 Zke := ZyU.tot (fun a h => by simp) (fun a h => ZyO _ _ _)
def ZKh : Entry := Zm ZKf ZGO (fun _ => none) (fun a => rDo a.1 a.2.1 a.2.2.1 a.2.2.2.1 a.2.2.2.2)
theorem ZKg : Zb Tryz.prog 271 ZKh := ZMc.tot (fun a h => by have h1 := (ZIn a.1 a.2.1 a.2.2.1 a.2.2.2.1 a.2.2.2.2).1; simp [h1]) (fun a h => (ZIn _ _ _ _ _).2)
def Zxh : Entry := Zm ZDe Zxf (fun _ => none) (fun a => rInr a.1 a.2.1 a.2.2)
theorem Zxg : Zb Tryz.prog 273 Zxh := ZJ9.tot (fun a h => by have h1 := (ZCs a.1 a.2.1 a.2.2).1; simp [h1]) (fun a h => (ZCs _ _ _).2)
def Zxt : Entry := Zm ZDE Zxr (fun _ => none) (fun a => rDcr a.1 a.2.1 a.2.2)
theorem Zxs : Zb Tryz.prog 274 Zxt := ZKk.tot (fun a h => by have h1 := (ZCw a.1 a.2.1 a.2.2).1; simp [h1]) (fun a h => (ZCw _ _ _).2)
def ZDd : Entry := Zm ZDb ZDc (fun _ => none) (fun a => rInx a.1 a.2.1 a.2.2)
theorem ZGI : Zb Tryz.prog 275 ZDd := ZJ7.tot (fun a h => by simp) (fun a h => ZJN _ _ _)
def ZDD : Entry := Zm ZDB ZDC (fun _ => none) (fun a => rDcx a.1 a.2.1 a.2.2)
theorem ZGQ : Zb Tryz.prog 276 ZDD := ZKi.tot (fun a h => by simp) (fun a h => ZJO _ _ _)
def ZDJ : Entry := Zm ZDI Zxu (fun _ => none) (fun a => rDaa a.1 a.2.1 a.2.2)
theorem ZGU : Zb Tryz.prog 278 ZDJ := ZKo.tot (fun a h => by have h1 := (ZCx a.1 a.2.1 a.2.2).1; simp [h1]) (fun a h => (ZCx _ _ _).2)
def ZDH : Entry := Zm ZDF ZDG (fun _ => none) (fun a => rDad a.1 a.2.1 a.2.2.1 a.2.2.2)
theorem ZGS : Zb Tryz.prog 277 ZDH := ZKm.tot (fun a h => by simp) (fun a h => ZJP _ _ _ _ h.2.1 h.2.2.1)
def ZuY : Entry := Zm ZuX Zpk (fun _ => none) (fun a => ZB1 a.1 a.2)
theorem ZDw : Zb Tryz.prog 283 ZuY := ZGN.tot (fun a h => by have h1 := (Zw0 a.1 a.2).1; simp [h1]) (fun a h => (Zw0 _ _).2)
def Zu2 : Entry := Zm Zu0 Zu1 (fun _ => none) (fun a => ZGi a)
theorem ZDL : Zb Tryz.prog 284 Zu2 := ZGW.tot (fun a h => by simp) (fun a h => ZGp _)
def ZCJ : Entry := Zm ZCI Zw4 (fun _ => none) (fun a => rRot a.1 a.2.1 a.2.2)
theorem ZGx : Zb Tryz.prog 279 ZCJ := ZJV.tot (fun a h => by have h1 := (ZCn a.1 a.2.1 a.2.2).1; simp [h1]) (fun a h => (ZCn _ _ _).2)
def ZtY : Entry := Zm ZtW ZtX (fun _ => none) (fun a => ZBq a.1 a.2)
theorem ZCP : Zb Tryz.prog 285 ZtY := ZGA.tot (fun a h => by simp) (fun a h => ZGj _ _ h.1)
def ZCL : Entry := Zm ZCK Zw5 (fun _ => none) (fun a => rRim a.1 a.2)
theorem ZGz : Zb Tryz.prog 227 ZCL := ZJX.tot (fun a h => by have h1 := (ZCo a.1 a.2).1; simp [h1]) (fun a h => (ZCo _ _).2.1)
def ZCC : Entry := Zm ZCA ZCB (fun _ => none) (fun a => rSim a.1 a.2)
theorem ZGt : Zb Tryz.prog 228 ZCC := ZJS.tot (fun a h => by simp) (fun a h => ZJM _ _)
def Zxi : Entry := Zm ZoE ZoF (fun _ => none) (fun a => ZdD a.1 a.2)
theorem Zy8 : Zb Tryz.prog 322 Zxi := ZDf.tot (fun a h => by simp) (fun a h => ZHs _ _)
def Zq4 : Entry := Zm Zj8 Zj9 (fun _ => none) (fun a => Zu a)
theorem ZtO : Zb Tryz.prog 177 Zq4 := ZyS.tot (fun a h => by simp) (fun a h => ZyK _)
def ZDA : Entry := Zm Zgs Zgt (fun _ => none) (fun a => Zc a.1 a.2)
theorem ZuZ : Zb Tryz.prog 182 ZDA := ZzM.tot (fun a h => by have h1 := (dec_ok a.1 a.2 h.2).1; simp [h1]) (fun a h => (dec_ok a.1 a.2 h.2).2.1)
def ZB4 : Entry := Zm Zgc Zgd (fun _ => none) (fun a => Zc a.1 a.2)
theorem ZtD : Zb Tryz.prog 107 ZB4 := ZyI.tot (fun a h => by have h1 := (dec_ok a.1 a.2 h.2).2.2; simp [h1]) (fun a h => rfl)
abbrev ZIY : R := R.pair (.int .i64) (R.pair (.int .i64) (R.pair (.int .i64) (R.pair (.int .i64) (R.pair (.int .i64) (R.pair (.int .i64) (.int .i64))))))
def Zri (k : Int) : Entry := pinE Zgs ZIY (fun a => Zc a.1 a.2) k
theorem Zxq (k : Int) : Zb Tryz.prog 182 (Zri k) := ZCt ZuZ k
def ZIf (k : Int) : Entry := pinE Zgc ZIY (fun a => Zc a.1 a.2) k
theorem ZGf (k : Int) : Zb Tryz.prog 107 (ZIf k) := ZCt ZtD k
def pcOf (c : TC) : Int := c.2.1.2.2.2.2.2.2.2.2.2
def spOf (c : TC) : Int := c.2.1.2.2.2.2.2.2.2.2.1
def rgx (r : TR) (f : TF) (sp pc : Int) : TR := (r.1, r.2.1, r.2.2.1, r.2.2.2.1, r.2.2.2.2.1, r.2.2.2.2.2.1, r.2.2.2.2.2.2.1, f, sp, pc)
def fin3 (g : List Int) (l : List TY) : RT (Option (TY × Bool)) := .br (decide (iN (List.length g) ≥ iN (List.length l))) (.leaf (some (((0, 0, 0, 0), false)))) (.br (Zf (iN (List.length g)) (List.length l)) (.leaf (some ((R.get RY l (iN (List.length g)), true)))) (.leaf none))
abbrev ZkX : List Sh := [Sh.one (R.int i64)]
abbrev ZkY : Rs := Rs.one (Sh.one R.bool)
def ZmL (s : Int) : RT (Bool) :=
 .leaf (decide (s ≥ 1) && decide (s ≤ 4))
def Ze (s : Int) : Bool := (ZmL s).val
def Zhi : Entry := Zm ZkX ZkY (fun _ => none) (fun a => Ze a)
theorem ZhU : Zb Tryz.prog 176 Zhi :=
 pureQ 7 [] [] ZkX ZkY trivial Tryz.func176 Tryz.call176 trivial (t := fun a => ZmL a) (fun a => by kernel_rfl)
abbrev ZL0 : R := R.pair ZaT (R.pair R.bool (R.pair (R.sl (R.int u8)) (R.pair (R.pair (R.int i64) (R.pair (R.int i64) (R.pair (R.int i64) (R.pair (R.int i64) (R.pair (R.int i64) (R.pair (R.int i64) (R.pair (R.int i64) (R.int i64)))))))) (R.sl (RY)))))
abbrev ZLZ : List Sh := [Sh.one (R.int i64)]
abbrev ZJL : Rs := Rs.one (Sh.one (R.int u8))
def qAtT (s : QT0) (n : Int) : RT (Option (Int)) :=
 .br (!decide (n < ↑(List.length s.2.2.1)) || Zf n (List.length s.2.2.1)) (.br (decide (n < ↑(List.length s.2.2.1))) (.leaf (some (R.get (R.int u8) s.2.2.1 n))) (.leaf (some (0)))) (.leaf none)
def qAt (s : QT0) (n : Int) : Int := getO ZJL.dflt (qAtT s n).val
def qAtC (s : QT0) (n : Int) : Bool := okB (qAtT s n).val
def qAtE : Entry := ZfG ZL0 ZLZ ZJL (fun a => some (qAtC a.1 a.2)) (fun a => qAt a.1 a.2)
theorem Zgk : Zb Tryz.prog 222 qAtE :=
 ZdB (P := Tryz.prog) (n := 31) (k := 8) (l := []) (ol := []) trivial Tryz.func222 rfl (by kernel_rfl) Tryz.call222 trivial (rb := ZL0) (ts := ZLZ) (rs := ZJL) (by kernel_rfl) (t := fun a => qAtT a.1 a.2) (fun a => by kernel_rfl)
abbrev ZCg : R := R.pair ZaT (R.pair R.bool (R.pair (R.sl (R.int u8)) (R.pair (R.pair (R.int i64) (R.pair (R.int i64) (R.pair (R.int i64) (R.pair (R.int i64) (R.pair (R.int i64) (R.pair (R.int i64) (R.pair (R.int i64) (R.int i64)))))))) (R.sl (RY)))))
abbrev ZCf : List Sh := [Sh.one (R.int i64)]
abbrev ZtH : Rs := Rs.one (Sh.one (R.int u16))
def ZqW (s : QT0) (n : Int) : RT (Option (Int)) :=
 .br (!qAtC s (i64.wrap (n + 1)) || qAtC s n) (.br (qAtC s (i64.wrap (n + 1))) (.leaf (some (ZdC (qAt s (i64.wrap (n + 1))) (qAt s n)))) (.leaf none)) (.leaf none)
def ZeC (s : QT0) (n : Int) : Int := getO ZtH.dflt (ZqW s n).val
def ZbY (s : QT0) (n : Int) : Bool := okB (ZqW s n).val
def Zj2 : Entry := ZfG ZCg ZCf ZtH (fun a => some (ZbY a.1 a.2)) (fun a => ZeC a.1 a.2)
theorem Zn3 : Zb Tryz.prog 270 Zj2 :=
 ZdB (P := Tryz.prog) (n := 31) (k := 8) (l := [(222, qAtE), (236, ZoD)]) (ol := []) ⟨Zgk, Zrf, trivial⟩ Tryz.func270 rfl (by kernel_rfl) Tryz.call270 trivial (rb := ZCg) (ts := ZCf) (rs := ZtH) (by kernel_rfl) (t := fun a => ZqW a.1 a.2) (fun a => by kernel_rfl)
abbrev ZqZ : R := R.pair ZaT (R.pair R.bool (R.pair (R.sl (R.int u8)) (R.pair (R.pair (R.int i64) (R.pair (R.int i64) (R.pair (R.int i64) (R.pair (R.int i64) (R.pair (R.int i64) (R.pair (R.int i64) (R.pair (R.int i64) (R.int i64)))))))) (R.sl (RY)))))
abbrev ZqX : List Sh := []
abbrev ZqY : Rs := Rs.one (Sh.one (R.int u16))
def ZwU (s : QT0) : RT (Int) :=
 .br s.2.1 (.leaf s.1.2.1.2.2.2.2.2.2.2.2.2) (.leaf (u16.wrap (s.1.2.1.2.2.2.2.2.2.2.2.2 + u16.wrap s.2.2.2.1.2.1)))
def Zv (s : QT0) : Int := (ZwU s).val
def Zgj : Entry := ZfG ZqZ ZqX ZqY (fun _ => none) (fun a => Zv a.1 )
theorem ZmG : Zb Tryz.prog 223 Zgj :=
 Ze5 (P := Tryz.prog) (n := 7) (k := 8) (l := []) (ol := []) trivial Tryz.func223 rfl (by kernel_rfl) Tryz.call223 trivial (rb := ZqZ) (ts := ZqX) (rs := ZqY) (by kernel_rfl) (t := fun a => ZwU a.1 ) (fun a => by kernel_rfl)
abbrev ZwS : R := R.pair ZaT (R.pair R.bool (R.pair (R.sl (R.int u8)) (R.pair (R.pair (R.int i64) (R.pair (R.int i64) (R.pair (R.int i64) (R.pair (R.int i64) (R.pair (R.int i64) (R.pair (R.int i64) (R.pair (R.int i64) (R.int i64)))))))) (R.sl (RY)))))
abbrev ZwQ : List Sh := []
abbrev ZwR : Rs := Rs.one (Sh.one R.bool)
def ZB7 (s : QT0) : RT (Bool) :=
 .leaf (ZdD s.2.2.2.1.2.2.2.2.2.2.1 s.1.2.1.2.2.2.2.2.2.2.1)
def Zfr (s : QT0) : Bool := (ZB7 s).val
def ZfH : Entry := ZfG ZwS ZwQ ZwR (fun _ => none) (fun a => Zfr a.1 )
theorem ZjY : Zb Tryz.prog 280 ZfH :=
 Ze5 (P := Tryz.prog) (n := 7) (k := 8) (l := [(322, Zxi)]) (ol := []) ⟨Zy8, trivial⟩ Tryz.func280 rfl (by kernel_rfl) Tryz.call280 trivial (rb := ZwS) (ts := ZwQ) (rs := ZwR) (by kernel_rfl) (t := fun a => ZB7 a.1 ) (fun a => by kernel_rfl)
abbrev ZIl : R := R.pair ZaT (R.pair R.bool (R.pair (R.sl (R.int u8)) (R.pair (R.pair (R.int i64) (R.pair (R.int i64) (R.pair (R.int i64) (R.pair (R.int i64) (R.pair (R.int i64) (R.pair (R.int i64) (R.pair (R.int i64) (R.int i64)))))))) (R.sl (RY)))))
abbrev ZIj : List Sh := [Sh.one (R.int i64)]
abbrev ZIk : Rs := Rs.one (Sh.one (R.int u8))
def ZLY (s : QT0) (n : Int) : RT (Int) :=
 .leaf (rGet s.1.2.1 n)
def qReg (s : QT0) (n : Int) : Int := (ZLY s n).val
def ZqV : Entry := ZfG ZIl ZIj ZIk (fun _ => none) (fun a => qReg a.1 a.2)
theorem Zn2 : Zb Tryz.prog 232 ZqV :=
 Ze5 (P := Tryz.prog) (n := 31) (k := 8) (l := [(287, ZIC)]) (ol := []) ⟨ZGK, trivial⟩ Tryz.func232 rfl (by kernel_rfl) Tryz.call232 trivial (rb := ZIl) (ts := ZIj) (rs := ZIk) (by kernel_rfl) (t := fun a => ZLY a.1 a.2) (fun a => by kernel_rfl)
abbrev ZCe : R := R.pair ZaT (R.pair R.bool (R.pair (R.sl (R.int u8)) (R.pair (R.pair (R.int i64) (R.pair (R.int i64) (R.pair (R.int i64) (R.pair (R.int i64) (R.pair (R.int i64) (R.pair (R.int i64) (R.pair (R.int i64) (R.int i64)))))))) (R.sl (RY)))))
abbrev ZCc : List Sh := [Sh.one (R.int i64)]
abbrev ZCd : Rs := Rs.one (Sh.one (R.int u16))
def ZIm (s : QT0) (n : Int) : RT (Int) :=
 .leaf (ZaW s.1.2.1 n)
def Zc3 (s : QT0) (n : Int) : Int := (ZIm s n).val
def ZeA : Entry := ZfG ZCe ZCc ZCd (fun _ => none) (fun a => Zc3 a.1 a.2)
theorem Zge : Zb Tryz.prog 231 ZeA :=
 Ze5 (P := Tryz.prog) (n := 31) (k := 8) (l := [(286, ZCS)]) (ol := []) ⟨ZCR, trivial⟩ Tryz.func231 rfl (by kernel_rfl) Tryz.call231 trivial (rb := ZCe) (ts := ZCc) (rs := ZCd) (by kernel_rfl) (t := fun a => ZIm a.1 a.2) (fun a => by kernel_rfl)
abbrev ZmF : R := R.pair ZaT (R.pair R.bool (R.pair (R.sl (R.int u8)) (R.pair (R.pair (R.int i64) (R.pair (R.int i64) (R.pair (R.int i64) (R.pair (R.int i64) (R.pair (R.int i64) (R.pair (R.int i64) (R.pair (R.int i64) (R.int i64)))))))) (R.sl (RY)))))
abbrev ZmE : List Sh := []
abbrev Zhe : Rs := Rs.one (Sh.one (R.int u8))
def Zgh (s : QT0) : RT (Option (Int)) :=
 .br (qAtC s 1) (.leaf (some (bif s.2.2.2.1.1 == 14 then (rInr s.1.1 (qAt s 1) s.1.2.1.2.2.2.2.2.2.2.1).1 else (rDcr s.1.1 (qAt s 1) s.1.2.1.2.2.2.2.2.2.2.1).1))) (.leaf none)
def Zgi (s : QT0) : Int := getO Zhe.dflt (Zgh s).val
def ZeD (s : QT0) : Bool := okB (Zgh s).val
def Zj3 : Entry := ZfG ZmF ZmE Zhe (fun a => some (ZeD a.1 )) (fun a => Zgi a.1 )
theorem ZtI : Zb Tryz.prog 234 Zj3 :=
 ZdB (P := Tryz.prog) (n := 15) (k := 8) (l := [(222, qAtE), (273, Zxh), (274, Zxt)]) (ol := []) ⟨Zgk, Zxg, Zxs, trivial⟩ Tryz.func234 rfl (by kernel_rfl) Tryz.call234 trivial (rb := ZmF) (ts := ZmE) (rs := Zhe) (by kernel_rfl) (t := fun a => Zgh a.1 ) (fun a => by kernel_rfl)
abbrev ZmD : R := R.pair ZaT (R.pair R.bool (R.pair (R.sl (R.int u8)) (R.pair (R.pair (R.int i64) (R.pair (R.int i64) (R.pair (R.int i64) (R.pair (R.int i64) (R.pair (R.int i64) (R.pair (R.int i64) (R.pair (R.int i64) (R.int i64)))))))) (R.sl (RY)))))
abbrev ZmC : List Sh := []
abbrev Zhd : Rs := Rs.one (Sh.one (R.int u8))
def Zgf (s : QT0) : RT (Option (Int)) :=
 let x1 := s.2.2.2.1.1 == 13 || s.2.2.2.1.2.2.2.1 == 6
 .br (!x1 || qAtC s 1) (.br (x1) (.leaf (some (qAt s 1))) (.leaf (some (qReg s s.2.2.2.1.2.2.2.1)))) (.leaf none)
def Zgg (s : QT0) : Int := getO Zhd.dflt (Zgf s).val
def ZeB (s : QT0) : Bool := okB (Zgf s).val
def Zj1 : Entry := ZfG ZmD ZmC Zhd (fun a => some (ZeB a.1 )) (fun a => Zgg a.1 )
theorem ZtG : Zb Tryz.prog 272 Zj1 :=
 ZdB (P := Tryz.prog) (n := 7) (k := 8) (l := [(222, qAtE), (232, ZqV)]) (ol := []) ⟨Zgk, Zn2, trivial⟩ Tryz.func272 rfl (by kernel_rfl) Tryz.call272 trivial (rb := ZmD) (ts := ZmC) (rs := Zhd) (by kernel_rfl) (t := fun a => Zgf a.1 ) (fun a => by kernel_rfl)
abbrev ZMp : R := R.pair ZaT (R.pair R.bool (R.pair (R.sl (R.int u8)) (R.sl (RY))))
abbrev ZMo : List Sh := [Sh.one (R.int i64)]
abbrev ZKG : Rs := Rs.one (Sh.one (R.int u8))
def mAtT (s : QT4) (n : Int) : RT (Option (Int)) :=
 .br (!decide (n < ↑(List.length s.2.2.1)) || Zf n (List.length s.2.2.1)) (.br (decide (n < ↑(List.length s.2.2.1))) (.leaf (some (R.get (R.int u8) s.2.2.1 n))) (.leaf (some (0)))) (.leaf none)
def mAt (s : QT4) (n : Int) : Int := getO ZKG.dflt (mAtT s n).val
def mAtC (s : QT4) (n : Int) : Bool := okB (mAtT s n).val
def mAtE : Entry := ZfG ZMp ZMo ZKG (fun a => some (mAtC a.1 a.2)) (fun a => mAt a.1 a.2)
theorem ZIN : Zb Tryz.prog 153 mAtE :=
 ZdB (P := Tryz.prog) (n := 31) (k := 8) (l := []) (ol := []) trivial Tryz.func153 rfl (by kernel_rfl) Tryz.call153 trivial (rb := ZMp) (ts := ZMo) (rs := ZKG) (by kernel_rfl) (t := fun a => mAtT a.1 a.2) (fun a => by kernel_rfl)
abbrev ZEf : R := R.pair ZaT (R.pair R.bool (R.pair (R.sl (R.int u8)) (R.sl (RY))))
abbrev ZEe : List Sh := [Sh.one (R.int i64)]
abbrev Zvu : Rs := Rs.one (Sh.one (R.int u16))
def ZxD (s : QT4) (n : Int) : RT (Option (Int)) :=
 .br (!mAtC s (i64.wrap (n + 1)) || mAtC s n) (.br (mAtC s (i64.wrap (n + 1))) (.leaf (some (ZdC (mAt s (i64.wrap (n + 1))) (mAt s n)))) (.leaf none)) (.leaf none)
def ZfM (s : QT4) (n : Int) : Int := getO Zvu.dflt (ZxD s n).val
def Zda (s : QT4) (n : Int) : Bool := okB (ZxD s n).val
def ZEg : Entry := ZfG ZEf ZEe Zvu (fun a => some (Zda a.1 a.2)) (fun a => ZfM a.1 a.2)
theorem ZG9 : Zb Tryz.prog 165 ZEg :=
 ZdB (P := Tryz.prog) (n := 31) (k := 8) (l := [(153, mAtE), (172, Zmy)]) (ol := []) ⟨ZIN, Zix, trivial⟩ Tryz.func165 rfl (by kernel_rfl) Tryz.call165 trivial (rb := ZEf) (ts := ZEe) (rs := Zvu) (by kernel_rfl) (t := fun a => ZxD a.1 a.2) (fun a => by kernel_rfl)
abbrev ZrL : R := R.pair ZaT (R.pair R.bool (R.pair (R.sl (R.int u8)) (R.sl (RY))))
abbrev ZrJ : List Sh := [Sh.one (R.int i64)]
abbrev ZrK : Rs := Rs.one (Sh.one (R.int u16))
def ZxL (s : QT4) (n : Int) : RT (Int) :=
 .br s.2.1 (.leaf s.1.2.1.2.2.2.2.2.2.2.2.2) (.leaf (u16.wrap (s.1.2.1.2.2.2.2.2.2.2.2.2 + u16.wrap n)))
def ZeL (s : QT4) (n : Int) : Int := (ZxL s n).val
def ZpJ : Entry := ZfG ZrL ZrJ ZrK (fun _ => none) (fun a => ZeL a.1 a.2)
theorem Zz0 : Zb Tryz.prog 157 ZpJ :=
 Ze5 (P := Tryz.prog) (n := 31) (k := 8) (l := []) (ol := []) trivial Tryz.func157 rfl (by kernel_rfl) Tryz.call157 trivial (rb := ZrL) (ts := ZrJ) (rs := ZrK) (by kernel_rfl) (t := fun a => ZxL a.1 a.2) (fun a => by kernel_rfl)
abbrev ZxH : R := R.pair ZaT (R.pair R.bool (R.pair (R.sl (R.int u8)) (R.sl (RY))))
abbrev ZxF : List Sh := [Sh.agg (R.pair (R.int i64) (R.pair (R.int i64) (R.pair (R.int i64) (R.pair (R.int i64) (R.pair (R.int i64) (R.pair (R.int i64) (R.pair (R.int i64) (R.int i64))))))))]
abbrev ZxG : Rs := Rs.one (Sh.one R.bool)
def ZEk (s : QT4) (i : QT5) : RT (Bool) :=
 .leaf (ZdD i.2.2.2.2.2.2.1 s.1.2.1.2.2.2.2.2.2.2.1)
def Zfw (s : QT4) (i : QT5) : Bool := (ZEk s i).val
def Zlj : Entry := ZfG ZxH ZxF ZxG (fun _ => none) (fun a => Zfw a.1 a.2)
theorem ZrG : Zb Tryz.prog 169 Zlj :=
 Ze5 (P := Tryz.prog) (n := 31) (k := 8) (l := [(220, ZBV)]) (ol := []) ⟨ZBU, trivial⟩ Tryz.func169 rfl (by kernel_rfl) Tryz.call169 trivial (rb := ZxH) (ts := ZxF) (rs := ZxG) (by kernel_rfl) (t := fun a => ZEk a.1 a.2) (fun a => by kernel_rfl)
abbrev Zmq : List Sh := [Sh.agg ZaT, Sh.agg (R.pair (R.int i64) (R.pair (R.int i64) (R.pair (R.int i64) (R.pair (R.int i64) (R.pair (R.int i64) (R.pair (R.int i64) (R.pair (R.int i64) (R.int i64)))))))), Sh.one (R.int u8)]
abbrev Zmr : Rs := Rs.tup [Sh.one (R.int u8), Sh.agg rcF7]
def ZqB (c : TC) (i : QT5) (v : Int) : RT (QT3) :=
 .br (i.1 == 14) (.leaf (rInr c.1 v c.2.1.2.2.2.2.2.2.2.1)) (.leaf (rDcr c.1 v c.2.1.2.2.2.2.2.2.2.1))
def Zit (c : TC) (i : QT5) (v : Int) : QT3 := (ZqB c i v).val
def Zjc : Entry := Zm Zmq Zmr (fun _ => none) (fun a => Zit a.1 a.2.1 a.2.2)
theorem ZsK : Zb Tryz.prog 166 Zjc :=
 pureQ 255 [(218, ZLO), (219, ZLT)] [] Zmq Zmr ⟨ZJF, ZJI, trivial⟩ Tryz.func166 Tryz.call166 trivial (t := fun a => ZqB a.1 a.2.1 a.2.2) (fun a => by kernel_rfl)
abbrev Zk0 : List Sh := [Sh.agg ZaT, Sh.one (R.int i64)]
abbrev Zk1 : Rs := Rs.one (Sh.agg ZaT)
def ZiG (c : TC) (s : Int) : RT TC :=
 .br (decide (s < 1) || decide (s > 5))
 (.leaf (c))
 (.leaf ((c.1, c.2.1, false, false, false, c.2.2.2.2.2.1, !s == 1 && c.2.2.2.2.2.2.1, bif s == 1 then c.2.2.2.2.2.2.2.1 else !s == 2 && c.2.2.2.2.2.2.2.1, c.2.2.2.2.2.2.2.2.1, c.2.2.2.2.2.2.2.2.2.1, s == 1 || c.2.2.2.2.2.2.2.2.2.2.1, bif s == 1 then c.2.2.1 else c.2.2.2.2.2.2.2.2.2.2.2.1, c.2.2.2.2.2.2.2.2.2.2.2.2)))
def Zpm (c : TC) (s : Int) : TC := (ZiG c s).val
def ZGX : Entry := Zm Zk0 Zk1 (fun _ => none) (fun a => Zpm a.1 a.2)
theorem ZzN : Zb Tryz.prog 110 ZGX :=
 pureQ 1056799 [] [] Zk0 Zk1 trivial Tryz.func110 Tryz.call110 trivial (t := fun a => ZiG a.1 a.2) (fun a => by kernel_rfl)
def Zn0 (c : TC) (s : Int) : RT TC :=
 .br (decide (s < 1) || decide (s > 5))
 (.leaf (c))
 (.leaf ((c.1, c.2.1, false, false, false, c.2.2.2.2.2.1, !s == 1 && c.2.2.2.2.2.2.1, !s == 2 && c.2.2.2.2.2.2.2.1, c.2.2.2.2.2.2.2.2.1, c.2.2.2.2.2.2.2.2.2.1, s == 1 || c.2.2.2.2.2.2.2.2.2.2.1, bif s == 1 then c.2.2.1 else c.2.2.2.2.2.2.2.2.2.2.2.1, c.2.2.2.2.2.2.2.2.2.2.2.2)))
def Za8 (c : TC) (s : Int) : TC := (Zn0 c s).val
theorem ZFt (c) (s : Int) : Zpm c s = Za8 c s := by
 by_cases h : s = 1
 ·subst h; simp [Zpm, ZiG, Za8, Zn0, RT.val]
 ·have h' : (s == 1) = false := by simpa using h
  simp [Zpm, ZiG, Za8, Zn0, RT.val, h']
def ZbO : Entry := Zm Zk0 Zk1 (fun _ => none) (fun a => Za8 a.1 a.2)
theorem ZdY : Zb Tryz.prog 110 ZbO := ZzN.tot (fun a h => by simp) (fun a h => ZFt _ _)
end
end Go.Proofs.YtghoimllhpjkjaaGreat
