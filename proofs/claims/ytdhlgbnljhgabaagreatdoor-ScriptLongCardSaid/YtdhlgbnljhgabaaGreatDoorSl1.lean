/- Proved: florinlaw26.ScriptLong returns true for every input (the listed package-level variables hold what the program's text lays; no other condition). Part 7 of 13. -/
import Derived.Test.YtdhlgbnljhgabaaGreatDoorAm6
import Derived.IntWalk
import Derived.KernelRfl
/- Bytes, numbers as they are laid and read: plain laws. -/
namespace Go.Proofs.YtdhlgbnljhgabaaGreatDoor.AM
open Go

theorem guardK_t {α : Type} {c : Bool} {x : Option α} (h : c = true) : guardK c x = x := by subst h; rfl
theorem guardK_d {α : Type} {c : Prop} [Decidable c] {x : Option α} (h : c) : guardK (decide c) x = x := guardK_t (decide_eq_true h)
theorem guardK_some {α : Type} {c : Bool} {x : Option α} {y : α} (h : guardK c x = some y) : c = true ∧ x = some y := by
  cases c with
  | true => exact ⟨rfl, h⟩
  | false => simp [guardK] at h

theorem bytesOf_enc (s : List UInt8) : bytesOf (encB s) = some s := by
  induction s with
  | nil => rfl
  | cons b s ih =>
    simp only [encB, List.map_cons, bytesOf]
    rw [show List.map (fun b => AV.int .u8 (b.toNat : Int)) s = encB s from rfl, ih]
    simp
theorem encB_append (a b : List UInt8) : encB (a ++ b) = encB a ++ encB b := by simp [encB]
theorem encB_len (s : List UInt8) : (encB s).length = s.length := by simp [encB]

theorem ofInt_nat (w a : Nat) (h : a < 2 ^ w) : (BitVec.ofInt w (a : Int)).toNat = a := by
  rw [BitVec.ofInt_natCast, BitVec.toNat_ofNat, Nat.mod_eq_of_lt h]

theorem andI_nat (a b : Nat) (ha : a < 2 ^ 64) (hb : b < 2 ^ 64) : andI .i64 a b = IntKind.i64.wrap ((a &&& b : Nat) : Int) := by
  unfold andI
  rw [BitVec.toNat_and, ofInt_nat IntKind.i64.bits a ha, ofInt_nat IntKind.i64.bits b hb]
theorem orI_nat (a b : Nat) (ha : a < 2 ^ 64) (hb : b < 2 ^ 64) : orI .i64 a b = IntKind.i64.wrap ((a ||| b : Nat) : Int) := by
  unfold orI
  rw [BitVec.toNat_or, ofInt_nat IntKind.i64.bits a ha, ofInt_nat IntKind.i64.bits b hb]
theorem andI8_nat (a b : Nat) (ha : a < 2 ^ 8) (hb : b < 2 ^ 8) : andI .u8 a b = IntKind.u8.wrap ((a &&& b : Nat) : Int) := by
  unfold andI
  rw [BitVec.toNat_and, ofInt_nat IntKind.u8.bits a ha, ofInt_nat IntKind.u8.bits b hb]

theorem w64 {n : Int} (h1 : -9223372036854775808 ≤ n) (h2 : n ≤ 9223372036854775807) : wrp .i64 n = n := IntWalk.i64_in n ⟨h1, h2⟩
theorem w8 {n : Int} (h1 : 0 ≤ n) (h2 : n ≤ 255) : wrp .u8 n = n := IntWalk.u8_in n ⟨h1, h2⟩

theorem and127 (x : Nat) (h : x < 2 ^ 63) : andI .i64 (x : Int) 127 = ((x % 128 : Nat) : Int) := by
  have := andI_nat x 127 (by omega) (by omega)
  rw [show (127 : Int) = ((127 : Nat) : Int) from rfl, this, show (127 : Nat) = 2 ^ 7 - 1 from rfl, Nat.and_two_pow_sub_one_eq_mod]
  exact IntWalk.i64_in _ (by have := Nat.mod_lt x (show 0 < 128 by decide); omega)
theorem or128 (x : Nat) (h : x < 128) : orI .i64 (x : Int) 128 = ((x + 128 : Nat) : Int) := by
  have := orI_nat x 128 (by omega) (by omega)
  rw [show (128 : Int) = ((128 : Nat) : Int) from rfl, this]
  have h2 := Nat.two_pow_add_eq_or_of_lt (i := 7) (b := x) (by omega) 1
  rw [Nat.or_comm, show (128 : Nat) = 2 ^ 7 * 1 from rfl, ← h2]
  rw [IntWalk.i64_in _ (by omega)]
  omega
theorem and127_8 (x : Nat) (h : x < 256) : andI .u8 (x : Int) 127 = ((x % 128 : Nat) : Int) := by
  have := andI8_nat x 127 (by omega) (by omega)
  rw [show (127 : Int) = ((127 : Nat) : Int) from rfl, this, show (127 : Nat) = 2 ^ 7 - 1 from rfl, Nat.and_two_pow_sub_one_eq_mod]
  exact IntWalk.u8_in _ (by have := Nat.mod_lt x (show 0 < 128 by decide); omega)
theorem shl_nat (c s : Nat) (hc : c < 128) (hs : s ≤ 56) : shlI .i64 (c : Int) (s : Int) = ((c * 2 ^ s : Nat) : Int) := by
  unfold shlI
  rw [Int.toNat_natCast, Nat.min_eq_left (by show s ≤ 64; omega)]
  have h1 : c * 2 ^ s < 128 * 2 ^ 56 := Nat.lt_of_lt_of_le (Nat.mul_lt_mul_of_pos_right hc (Nat.two_pow_pos s)) (Nat.mul_le_mul_left _ (Nat.pow_le_pow_right (by omega) hs))
  rw [show ((c : Int) * 2 ^ s) = ((c * 2 ^ s : Nat) : Int) from by push_cast; rfl]
  exact IntWalk.i64_in _ (by omega)
theorem or_shl (a c s : Nat) (ha : a < 2 ^ s) (hc : c < 128) (hs : s ≤ 56) : orI .i64 (a : Int) ((c * 2 ^ s : Nat) : Int) = ((a + c * 2 ^ s : Nat) : Int) := by
  have h1 : c * 2 ^ s < 128 * 2 ^ 56 := Nat.lt_of_lt_of_le (Nat.mul_lt_mul_of_pos_right hc (Nat.two_pow_pos s)) (Nat.mul_le_mul_left _ (Nat.pow_le_pow_right (by omega) hs))
  have h2 : 2 ^ s ≤ 2 ^ 56 := Nat.pow_le_pow_right (by omega) hs
  have h3 : c * 2 ^ s ≤ 127 * 2 ^ 56 := Nat.mul_le_mul (by omega) h2
  rw [orI_nat _ _ (by omega) (by omega)]
  have h4 := Nat.two_pow_add_eq_or_of_lt ha c
  rw [Nat.mul_comm] at h4
  rw [Nat.or_comm, ← h4, IntWalk.i64_in _ (by omega)]
  omega
theorem shr7 (x : Nat) : shrI .i64 (x : Int) 7 = ((x / 128 : Nat) : Int) := by
  unfold shrI
  rw [show (min (7 : Int).toNat IntKind.i64.bits) = 7 from rfl, Int.fdiv_eq_ediv_of_nonneg _ (by decide)]
  rfl

/-- A number as it is laid. -/
def wnF : Nat → Nat → List UInt8
  | 0, _ => []
  | f + 1, x => bif decide (x > 127) then UInt8.ofNat (x % 128 + 128) :: wnF f (x / 128) else [UInt8.ofNat x]
def wn (n : Int) : List UInt8 := wnF 10 n.toNat

theorem encB_one (x : Nat) (h : x < 256) : encB [UInt8.ofNat x] = [.int .u8 (x : Int)] := by
  simp [encB, Nat.mod_eq_of_lt h]
theorem encB_cons (x : Nat) (h : x < 256) (l : List UInt8) : encB (UInt8.ofNat x :: l) = .int .u8 (x : Int) :: encB l := by
  simp [encB, Nat.mod_eq_of_lt h]

/-- A number as it is read: how many rounds, what was read, by how much it is to be moved, where; its end, and whether it was none. -/
def rnF (s : List UInt8) : Nat → Nat → Nat → Nat → Nat × Nat × Bool
  | 0, _, _, p => (0, p, true)
  | f + 1, n, sh, p => bif p == s.length then (0, p, true) else bif decide (sh > 56) then (0, p, true) else
    let b := (s.getD p 0).toNat
    bif decide (b < 128) then (bif b == 0 && decide (sh > 0) then (0, p + 1, true) else (n + b % 128 * 2 ^ sh, p + 1, false)) else rnF s f (n + b % 128 * 2 ^ sh) (sh + 7) (p + 1)
def rn (s : List UInt8) (p : Nat) (bad : Bool) : Nat × Nat × Bool := bif bad then (0, p, true) else rnF s 10 0 0 p
def rt (s : List UInt8) (p : Nat) (bad : Bool) : List UInt8 × Nat × Bool :=
  let r := rn s p bad
  bif r.2.2 || decide (s.length < r.2.1 + r.1) then ([], r.2.1, true) else ((s.drop r.2.1).take r.1, r.2.1 + r.1, false)

theorem rnF_bounds {s : List UInt8} : ∀ (f n sh p : Nat), p ≤ s.length → n < 2 ^ sh → sh = 7 * (10 - f) → f ≤ 10 → p ≤ (rnF s f n sh p).2.1 ∧ (rnF s f n sh p).2.1 ≤ s.length ∧ (rnF s f n sh p).1 < 2 ^ 63
  | 0, n, sh, p, hp, hn, hs, hf => by simp [rnF]; omega
  | f + 1, n, sh, p, hp, hn, hs, hf => by
    simp only [rnF]
    by_cases h1 : p = s.length
    · simp [h1]
    · have h1' : (p == s.length) = false := by simpa using h1
      rw [h1', cond_false]
      by_cases h2 : sh > 56
      · simp [h2]; omega
      · rw [decide_eq_false h2, cond_false]
        have hb := Nat.mod_lt ((s.getD p 0).toNat) (show 0 < 128 by decide)
        generalize (s.getD p 0).toNat = b at hb
        have hsh : 2 ^ sh ≤ 2 ^ 56 := Nat.pow_le_pow_right (by omega) (by omega)
        have h3 : b % 128 * 2 ^ sh ≤ 127 * 2 ^ sh := Nat.mul_le_mul_right _ (by omega)
        have h4 : n + b % 128 * 2 ^ sh < 2 ^ (sh + 7) := by
          rw [Nat.pow_add]; omega
        by_cases h5 : b < 128
        · rw [decide_eq_true h5, cond_true]
          have h6 : 2 ^ (sh + 7) ≤ 2 ^ 63 := Nat.pow_le_pow_right (by omega) (by omega)
          cases (b == 0 && decide (sh > 0)) <;> simp <;> omega
        · rw [decide_eq_false h5, cond_false]
          have := rnF_bounds (s := s) f (n + b % 128 * 2 ^ sh) (sh + 7) (p + 1) (by omega) h4 (by omega) (by omega)
          omega

theorem rn_bounds {s : List UInt8} {p : Nat} {bad : Bool} (hp : p ≤ s.length) : p ≤ (rn s p bad).2.1 ∧ (rn s p bad).2.1 ≤ s.length ∧ (rn s p bad).1 < 2 ^ 63 := by
  unfold rn
  cases bad with
  | true => simp; omega
  | false => exact rnF_bounds 10 0 0 p hp (by omega) (by omega) (by omega)
theorem rn_bad {s : List UInt8} {p : Nat} : rn s p true = (0, p, true) := rfl
theorem rt_bounds {s : List UInt8} {p : Nat} {bad : Bool} (hp : p ≤ s.length) : p ≤ (rt s p bad).2.1 ∧ (rt s p bad).2.1 ≤ s.length := by
  have h := rn_bounds (bad := bad) hp
  unfold rt
  simp only
  cases e : (rn s p bad).2.2 || decide (s.length < (rn s p bad).2.1 + (rn s p bad).1) with
  | true => simp; omega
  | false =>
    simp at e ⊢
    omega
end Go.Proofs.YtdhlgbnljhgabaaGreatDoor.AM

set_option maxRecDepth 100000
set_option linter.unusedVariables false
namespace Go.Proofs.YtdhlgbnljhgabaaGreatDoor.AM
open Go
def c10_2 : ACode := .seq (.seq (.region [⟨(some 7), .move (.tmp 1), none⟩, ⟨(some 8), .bin .gtr 0 (.tmp 7) (.c (.int .i64 127)), none⟩]) (.cond (.tmp 8) (.skip) (.exit 0))) (.seq (.block 1 (.region [⟨(some 11), .move (.tmp 0), none⟩, ⟨(some 12), .move (.tmp 0), none⟩, ⟨(some 13), .nilCheck (.tmp 12), none⟩, ⟨(some 14), .fieldAddr 0 (.tmp 13), none⟩, ⟨(some 15), .load 1 false (.tmp 14), none⟩, ⟨(some 16), .move (.tmp 1), none⟩, ⟨(some 17), .bin .and 0 (.tmp 16) (.c (.int .i64 127)), none⟩, ⟨(some 18), .bin .or 0 (.tmp 17) (.c (.int .i64 128)), none⟩, ⟨(some 19), .conv (.int .u8) (.tmp 18), none⟩, ⟨(some 20), .mkList 1 1 [.int .u8 0] [(0, (.tmp 19))], none⟩, ⟨(some 21), .append 5 1 1 (.tmp 15) (.tmp 20), none⟩, ⟨(some 22), .nilCheck (.tmp 11), none⟩, ⟨(some 23), .fieldAddr 0 (.tmp 22), none⟩, ⟨none, .store 1 (.tmp 23) (.tmp 21), none⟩])) (.region [⟨(some 9), .move (.tmp 1), none⟩, ⟨(some 10), .bin .shr 0 (.tmp 9) (.c (.int .u64 7)), none⟩, ⟨(some 1), .move (.tmp 10), none⟩]))
def c10_1 : ACode := .seq (.region [⟨(some 24), .move (.tmp 0), none⟩, ⟨(some 25), .move (.tmp 0), none⟩, ⟨(some 26), .nilCheck (.tmp 25), none⟩, ⟨(some 27), .fieldAddr 0 (.tmp 26), none⟩, ⟨(some 28), .load 1 false (.tmp 27), none⟩, ⟨(some 29), .move (.tmp 1), none⟩, ⟨(some 30), .conv (.int .u8) (.tmp 29), none⟩, ⟨(some 31), .mkList 1 1 [.int .u8 0] [(0, (.tmp 30))], none⟩, ⟨(some 32), .append 5 1 1 (.tmp 28) (.tmp 31), none⟩, ⟨(some 33), .nilCheck (.tmp 24), none⟩, ⟨(some 34), .fieldAddr 0 (.tmp 33), none⟩, ⟨none, .store 1 (.tmp 34) (.tmp 32), none⟩]) (.seq (.region [⟨(some 35), .move (.tmp 0), none⟩, ⟨(some 4), .move (.tmp 35), none⟩]) (.ret))
def c10_0 : ACode := .seq (.region [⟨(some 4), .move (.c (.nilPtr)), none⟩]) (.seq (.region [⟨(some 5), .move (.tmp 1), none⟩, ⟨(some 6), .mm true [(.tmp 5), (.c (.int .i64 0))], none⟩, ⟨(some 1), .move (.tmp 6), none⟩]) (.seq (.block 0 (.loop (lives 36 [0, 1]) (c10_2))) (c10_1)))
/-- (*florin/wire.Writer).Num -/
def a10 : AFun := ⟨36, [.tmp 4], c10_0, false⟩
def s10 (_ : Nat) : Bool := false
def g10_l1T (N : Nat) (L1 : Int → List AV → Nat → R) (x1 : Int) (x2 : List AV) (x3 : Nat) : R :=
 bif (decide (x1 > 127)) then
  guardK (decide (x3 * 1 = x2.length)) <|
  guardK (decide (5 = 5 ∧ 1 = 1 ∧ (x3 + 1) * 1 ≤ 140737488355328 ∧ (0 < 2 → (true || belowL (0 + 1) [.int .u8 (wrp .u8 (orI .i64 (andI .i64 x1 127) 128))]) = true))) <|
  L1 (shrI .i64 x1 7) (x2 ++ [.int .u8 (wrp .u8 (orI .i64 (andI .i64 x1 127) 128))]) (x3 + 1)
 else
  guardK (decide (x3 * 1 = x2.length)) <|
  guardK (decide (5 = 5 ∧ 1 = 1 ∧ (x3 + 1) * 1 ≤ 140737488355328 ∧ (0 < 2 → (true || belowL (0 + 1) [.int .u8 (wrp .u8 x1)]) = true))) <|
  some (.ret (.ptr 1 0), [.row false true 5 1 (x2 ++ [.int .u8 (wrp .u8 x1)]), .var [.own 0 (x3 + 1)]])
def g10T (N : Nat) (L1 : Int → List AV → Nat → R) (c : List AV) (k : Nat) (n : Int) : R :=
 L1 (if (0 : Int) > n then 0 else n) c k
def g10_l1 (N : Nat)  : Nat → Int → List AV → Nat → R
  | 0, _, _, _ => none
  | n + 1, x1, x2, x3 => g10_l1T N (g10_l1 N  n) x1 x2 x3
def g10 (N : Nat) (c : List AV) (k : Nat) (n : Int) : R := g10T N (g10_l1 N  N) c k n
theorem g10_l1_eq (N : Nat)  : ∀ (n1 : Nat) (x1 : Int) (x2 : List AV) (x3 : Nat), loopQ (execQ (rhoL []) N c10_2) (lives 36 [0, 1]) (kBase 2 (kBlock 0 (kSeq (execQ (rhoL []) N c10_1) (kEnd a10 2)))) n1 ⟨slots 36 [(0, .ptr 1 0), (1, .int .i64 x1)], [.row false true 5 1 x2, .var [.own 0 x3]], 2⟩ = g10_l1 N  n1 x1 x2 x3 := by
  intro n1
  induction n1 with
  | zero => intros; rfl
  | succ n1 ih =>
    intro x1 x2 x3
    have step : loopQ (execQ (rhoL []) N c10_2) (lives 36 [0, 1]) (kBase 2 (kBlock 0 (kSeq (execQ (rhoL []) N c10_1) (kEnd a10 2)))) (n1 + 1) ⟨slots 36 [(0, .ptr 1 0), (1, .int .i64 x1)], [.row false true 5 1 x2, .var [.own 0 x3]], 2⟩ = g10_l1T N (fun x1 x2 x3 => loopQ (execQ (rhoL []) N c10_2) (lives 36 [0, 1]) (kBase 2 (kBlock 0 (kSeq (execQ (rhoL []) N c10_1) (kEnd a10 2)))) n1 ⟨slots 36 [(0, .ptr 1 0), (1, .int .i64 x1)], [.row false true 5 1 x2, .var [.own 0 x3]], 2⟩) x1 x2 x3 := by kernel_rfl
    rw [step]
    show _ = g10_l1T N (g10_l1 N  n1) x1 x2 x3
    rw [show (fun x1 x2 x3 => loopQ (execQ (rhoL []) N c10_2) (lives 36 [0, 1]) (kBase 2 (kBlock 0 (kSeq (execQ (rhoL []) N c10_1) (kEnd a10 2)))) n1 ⟨slots 36 [(0, .ptr 1 0), (1, .int .i64 x1)], [.row false true 5 1 x2, .var [.own 0 x3]], 2⟩) = (g10_l1 N  n1) from funext fun x1 => funext fun x2 => funext fun x3 => ih x1 x2 x3]
theorem g10_eq (N : Nat) (c : List AV) (k : Nat) (n : Int) : runQ (rhoL []) N a10 [.ptr 1 0, .int .i64 n] [.row false true 5 1 c, .var [.own 0 k]] = g10 N c k n := by
  have step : runQ (rhoL []) N a10 [.ptr 1 0, .int .i64 n] [.row false true 5 1 c, .var [.own 0 k]] = g10T N (fun x1 x2 x3 => loopQ (execQ (rhoL []) N c10_2) (lives 36 [0, 1]) (kBase 2 (kBlock 0 (kSeq (execQ (rhoL []) N c10_1) (kEnd a10 2)))) N ⟨slots 36 [(0, .ptr 1 0), (1, .int .i64 x1)], [.row false true 5 1 x2, .var [.own 0 x3]], 2⟩) c k n := by kernel_rfl
  rw [step]
  show _ = g10T N (g10_l1 N  N) c k n
  rw [show (fun x1 x2 x3 => loopQ (execQ (rhoL []) N c10_2) (lives 36 [0, 1]) (kBase 2 (kBlock 0 (kSeq (execQ (rhoL []) N c10_1) (kEnd a10 2)))) N ⟨slots 36 [(0, .ptr 1 0), (1, .int .i64 x1)], [.row false true 5 1 x2, .var [.own 0 x3]], 2⟩) = (g10_l1 N  N) from funext fun x1 => funext fun x2 => funext fun x3 => g10_l1_eq N N x1 x2 x3]
def okW (c : List AV) (k x : Nat) : Bool := decide (k = c.length) && decide (c.length + x ≤ 140737488355000)
def selW : List AV → Hp → List Nat := fun args _ => match args with
  | .ptr id _ :: _ => [id - 1, id]
  | _ => []
def p10 : Prim := fun args H => match args, H with
  | [.ptr 1 0, .int .i64 n], [.row false true 5 1 c, .var [.own 0 k]] => .ite (okW c k 10 && decide (n ≤ 9223372036854775807)) (.leaf (.ret (.ptr 1 0)) [.row false true 5 1 (c ++ encB (wn n)), .var [.own 0 (k + (wn n).length)]]) .bad
  | _, _ => .bad
theorem g10_l1_run (N : Nat) : ∀ (f m x : Nat) (c : List AV) (k : Nat), f ≤ m → 0 < f → x < 128 ^ f → x < 2 ^ 63 → k = c.length → k + f ≤ 140737488355328 →
    g10_l1 N m (x : Int) c k = some (.ret (.ptr 1 0), [.row false true 5 1 (c ++ encB (wnF f x)), .var [.own 0 (k + (wnF f x).length)]])
  | 0, m, x, c, k, hf, h0, _, _, _, _ => by omega
  | f + 1, 0, x, c, k, hf, _, _, _, _, _ => by omega
  | f + 1, m + 1, x, c, k, hf, _, hx, hx63, hk, hb => by
    subst hk
    simp only [g10_l1, g10_l1T, wnF]
    by_cases h : x > 127
    · have h1 : ((x : Int) > 127) := by omega
      rw [decide_eq_true h1, decide_eq_true h, cond_true, cond_true]
      rw [guardK_d (by simp), guardK_d (by simp; omega), and127 x hx63, or128 _ (Nat.mod_lt _ (by decide)), shr7]
      have hw : wrp .u8 ((x % 128 + 128 : Nat) : Int) = ((x % 128 + 128 : Nat) : Int) := w8 (by omega) (by have := Nat.mod_lt x (show 0 < 128 by decide); omega)
      rw [hw, g10_l1_run N f m (x / 128) _ _ (by omega) (by
        rcases Nat.eq_zero_or_pos f with q | q
        · subst q; omega
        · exact q) (by rw [Nat.pow_succ] at hx; exact Nat.div_lt_of_lt_mul (by rw [Nat.mul_comm]; exact hx)) (by omega) (by simp) (by omega)]
      rw [encB_cons _ (by have := Nat.mod_lt x (show 0 < 128 by decide); omega)]
      simp
      omega
    · have h1 : ¬ ((x : Int) > 127) := by omega
      rw [decide_eq_false h1, decide_eq_false h, cond_false, cond_false]
      rw [guardK_d (by simp), guardK_d (by simp; omega), w8 (by omega) (by omega), encB_one x (by omega)]
      rfl
theorem g10_run {N : Nat} {c : List AV} {k : Nat} {n : Int} (hN : 10 ≤ N) (hn : n ≤ 9223372036854775807) (hk : k = c.length) (hb : c.length + 10 ≤ 140737488355000) : g10 N c k n = some (.ret (.ptr 1 0), [.row false true 5 1 (c ++ encB (wn n)), .var [.own 0 (k + (wn n).length)]]) := by
  unfold g10 g10T wn
  have : (if (0 : Int) > n then 0 else n) = (n.toNat : Int) := by split <;> omega
  rw [this]
  exact g10_l1_run N 10 N n.toNat c k hN (by decide) (by omega) (by omega) hk (by omega)
theorem ok10 {P : Program} (hc : chkFun P s10 (chkD P s10) 10 a10 = true) : OkA P 10 p10 := by
  refine okA_code (l := []) trivial hc (fun _ _ => 10) fun args H r hr => ?_
  unfold p10 at hr
  split at hr
  · rename_i n c k
    simp only [Alt.run] at hr
    cases hq : (okW c k 10 && decide (n ≤ 9223372036854775807)) with
    | false => rw [hq] at hr; simp at hr
    | true =>
      rw [hq] at hr
      simp only [okW, Bool.and_eq_true, decide_eq_true_eq] at hq
      rw [g10_eq, g10_run (Nat.le_refl _) hq.2 hq.1.1 hq.1.2]
      exact hr
  · simp [Alt.run] at hr

def wt (s : List UInt8) : List UInt8 := wn (s.length : Int) ++ s
def c9_0 : ACode := .seq (.region [⟨(some 4), .move (.c (.nilPtr)), none⟩]) (.seq (.region [⟨(some 5), .move (.tmp 0), none⟩, ⟨(some 6), .move (.tmp 1), none⟩, ⟨(some 7), .len true (.tmp 6), none⟩, ⟨(some 8), .call (.c (.func (.func 10) [] [])) [(.tmp 5), (.tmp 7)], none⟩]) (.seq (.region [⟨(some 9), .move (.tmp 0), none⟩, ⟨(some 10), .move (.tmp 0), none⟩, ⟨(some 11), .nilCheck (.tmp 10), none⟩, ⟨(some 12), .fieldAddr 0 (.tmp 11), none⟩, ⟨(some 13), .load 1 false (.tmp 12), none⟩, ⟨(some 14), .move (.tmp 1), none⟩, ⟨(some 15), .appendS 5 (.tmp 13) (.tmp 14), none⟩, ⟨(some 16), .nilCheck (.tmp 9), none⟩, ⟨(some 17), .fieldAddr 0 (.tmp 16), none⟩, ⟨none, .store 1 (.tmp 17) (.tmp 15), none⟩]) (.seq (.region [⟨(some 18), .move (.tmp 0), none⟩, ⟨(some 4), .move (.tmp 18), none⟩]) (.ret))))
/-- (*florin/wire.Writer).Text -/
def a9 : AFun := ⟨19, [.tmp 4], c9_0, false⟩
def s9 (_ : Nat) : Bool := false
def g9T (N : Nat)  (c : List AV) (k : Nat) (s : List UInt8) : R :=
 bif (okW c k 10 && decide ((s.length : Int) ≤ 9223372036854775807)) then
  guardK (decide ((k + (wn (s.length : Int)).length) * 1 = (c ++ encB (wn (s.length : Int))).length)) <|
  guardK (decide (5 = 5 ∧ 1 = 1 ∧ ((k + (wn (s.length : Int)).length) + s.length) * 1 ≤ 140737488355328 ∧ (0 < 2 → (true || belowL (0 + 1) (encB s)) = true))) <|
  some (.ret (.ptr 1 0), [.row false true 5 1 ((c ++ encB (wn (s.length : Int))) ++ (encB s)), .var [.own 0 ((k + (wn (s.length : Int)).length) + s.length)]])
 else
  none
def g9 (N : Nat) (c : List AV) (k : Nat) (s : List UInt8) : R := g9T N  c k s
theorem g9_eq (N : Nat) (c : List AV) (k : Nat) (s : List UInt8) : runQ (rhoL [(10, liftA selW p10)]) N a9 [.ptr 1 0, .str s] [.row false true 5 1 c, .var [.own 0 k]] = g9 N c k s := by
  have step : runQ (rhoL [(10, liftA selW p10)]) N a9 [.ptr 1 0, .str s] [.row false true 5 1 c, .var [.own 0 k]] = g9T N  c k s := by kernel_rfl
  exact step
def p9 : Prim := fun args H => match args, H with
  | [.ptr 1 0, .str s], [.row false true 5 1 c, .var [.own 0 k]] => .ite (okW c k (10 + s.length)) (.leaf (.ret (.ptr 1 0)) [.row false true 5 1 (c ++ encB (wt s)), .var [.own 0 (k + (wt s).length)]]) .bad
  | _, _ => .bad
theorem wnF_len : ∀ (f x : Nat), (wnF f x).length ≤ f
  | 0, _ => by simp [wnF]
  | f + 1, x => by
    simp only [wnF]
    have := wnF_len f (x / 128)
    cases decide (x > 127) <;> simp <;> omega
theorem wn_len (n : Int) : (wn n).length ≤ 10 := wnF_len 10 _
theorem g9_run {N : Nat} {c : List AV} {k : Nat} {s : List UInt8} (hk : k = c.length) (hb : c.length + (10 + s.length) ≤ 140737488355000) : g9 N c k s = some (.ret (.ptr 1 0), [.row false true 5 1 (c ++ encB (wt s)), .var [.own 0 (k + (wt s).length)]]) := by
  unfold g9 g9T
  have h1 := wn_len (s.length : Int)
  have h2 : (okW c k 10 && decide ((s.length : Int) ≤ 9223372036854775807)) = true := by
    simp only [okW, Bool.and_eq_true, decide_eq_true_eq]; omega
  rw [h2, cond_true, guardK_d (by simp [encB_len, hk]), guardK_d (by simp; omega)]
  simp only [wt, encB_append, List.append_assoc, List.length_append, Nat.add_assoc]
theorem ok9 {P : Program} (h10 : OkA P 10 p10) (hc : chkFun P s9 (chkD P s9) 9 a9 = true) : OkA P 9 p9 := by
  refine okA_code (l := [(10, liftA selW p10)]) ⟨okA_lift _ h10, trivial⟩ hc (fun _ _ => 0) fun args H r hr => ?_
  unfold p9 at hr
  split at hr
  · rename_i s c k
    simp only [Alt.run] at hr
    cases hq : okW c k (10 + s.length) with
    | false => rw [hq] at hr; simp at hr
    | true =>
      rw [hq] at hr
      simp only [okW, Bool.and_eq_true, decide_eq_true_eq] at hq
      rw [g9_eq, g9_run hq.1 hq.2]
      exact hr
  · simp [Alt.run] at hr

def c11_0 : ACode := .seq (.region [⟨(some 2), .move (.c (.str [])), none⟩]) (.seq (.region [⟨(some 3), .move (.tmp 0), none⟩, ⟨(some 4), .nilCheck (.tmp 3), none⟩, ⟨(some 5), .fieldAddr 0 (.tmp 4), none⟩, ⟨(some 6), .load 1 false (.tmp 5), none⟩, ⟨(some 7), .conv .b2s (.tmp 6), none⟩, ⟨(some 2), .move (.tmp 7), none⟩]) (.ret))
/-- (*florin/wire.Writer).String -/
def a11 : AFun := ⟨8, [.tmp 2], c11_0, false⟩
def s11 (_ : Nat) : Bool := false
def g11T (N : Nat)  (c : List AV) (k : Nat) : R :=
 guardK (decide (k = c.length)) <|
 optK (bytesOf c) fun r1 =>
 some (.ret (.str r1), [.row false true 5 1 c, .var [.own 0 k]])
def g11 (N : Nat) (c : List AV) (k : Nat) : R := g11T N  c k
theorem g11_eq (N : Nat) (c : List AV) (k : Nat) : runQ (rhoL []) N a11 [.ptr 1 0] [.row false true 5 1 c, .var [.own 0 k]] = g11 N c k := by
  have step : runQ (rhoL []) N a11 [.ptr 1 0] [.row false true 5 1 c, .var [.own 0 k]] = g11T N  c k := by kernel_rfl
  exact step
def p11 : Prim := fun args H => match args, H with
  | [.ptr 1 0], [.row false true 5 1 c, .var [.own 0 k]] => .ite (decide (k = c.length) && (bytesOf c).isSome) (.leaf (.ret (.str ((bytesOf c).getD []))) [.row false true 5 1 c, .var [.own 0 k]]) .bad
  | _, _ => .bad
theorem ok11 {P : Program} (hc : chkFun P s11 (chkD P s11) 11 a11 = true) : OkA P 11 p11 := by
  refine okA_code (l := []) trivial hc (fun _ _ => 0) fun args H r hr => ?_
  unfold p11 at hr
  split at hr
  · rename_i c k
    simp only [Alt.run] at hr
    cases hq : (decide (k = c.length) && (bytesOf c).isSome) with
    | false => rw [hq] at hr; simp at hr
    | true =>
      rw [hq] at hr
      simp only [Bool.and_eq_true, decide_eq_true_eq] at hq
      obtain ⟨b, hb⟩ := Option.isSome_iff_exists.1 hq.2
      rw [g11_eq]
      unfold g11 g11T
      rw [guardK_d hq.1, hb]
      rw [hb] at hr
      exact hr
  · simp [Alt.run] at hr

end Go.Proofs.YtdhlgbnljhgabaaGreatDoor.AM

set_option maxRecDepth 100000
set_option linter.unusedVariables false
namespace Go.Proofs.YtdhlgbnljhgabaaGreatDoor.AM
open Go
def c16_2 : ACode := .seq (.seq (.region [⟨(some 6), .move (.tmp 0), none⟩, ⟨(some 7), .nilCheck (.tmp 6), none⟩, ⟨(some 8), .fieldAddr 2 (.tmp 7), none⟩, ⟨(some 9), .load 1 false (.tmp 8), none⟩, ⟨(some 10), .un .not (.tmp 9), none⟩]) (.cond (.tmp 10) (.skip) (.exit 0))) (.block 1 (.seq (.seq (.draw [⟨⟨(some 11), .move (.tmp 0), none⟩, none, []⟩, ⟨⟨(some 12), .nilCheck (.tmp 11), none⟩, none, [0]⟩, ⟨⟨(some 13), .fieldAddr 1 (.tmp 12), none⟩, none, [1, 0]⟩, ⟨⟨(some 14), .load 1 false (.tmp 13), none⟩, none, [2, 1, 0]⟩, ⟨⟨(some 15), .move (.tmp 0), none⟩, none, []⟩, ⟨⟨(some 16), .nilCheck (.tmp 15), none⟩, none, [4]⟩, ⟨⟨(some 17), .fieldAddr 0 (.tmp 16), none⟩, none, [5, 4]⟩, ⟨⟨(some 18), .load 1 false (.tmp 17), none⟩, none, [6, 5, 4]⟩, ⟨⟨(some 19), .len true (.tmp 18), none⟩, none, [7, 6, 5, 4]⟩, ⟨⟨(some 20), .bin .eql 0 (.tmp 14) (.tmp 19), none⟩, none, [3, 8, 2, 1, 0, 7, 6, 5, 4]⟩, ⟨⟨(some 21), .move (.tmp 20), none⟩, none, [9, 3, 8, 2, 1, 0, 7, 6, 5, 4]⟩, ⟨⟨(some 22), .move (.tmp 4), (some (21, false))⟩, none, [10, 9, 3, 8, 2, 1, 0, 7, 6, 5, 4]⟩, ⟨⟨(some 23), .bin .gtr 0 (.tmp 22) (.c (.int .i64 56)), (some (21, false))⟩, none, [11, 10, 9, 3, 8, 2, 1, 0, 7, 6, 5, 4]⟩, ⟨⟨(some 24), .pick (.tmp 21) (.c (.bool true)) (.tmp 23), none⟩, none, [10, 12, 9, 3, 8, 2, 1, 0, 7, 6, 5, 4, 11]⟩]) (.cond (.tmp 24) (.seq (.region [⟨(some 25), .move (.tmp 0), none⟩, ⟨(some 26), .nilCheck (.tmp 25), none⟩, ⟨(some 27), .fieldAddr 2 (.tmp 26), none⟩, ⟨none, .store 1 (.tmp 27) (.c (.bool true)), none⟩]) (.exit 0)) (.skip))) (.seq (.draw [⟨⟨(some 28), .move (.tmp 0), none⟩, none, []⟩, ⟨⟨(some 29), .nilCheck (.tmp 28), none⟩, none, [0]⟩, ⟨⟨(some 30), .fieldAddr 0 (.tmp 29), none⟩, none, [1, 0]⟩, ⟨⟨(some 31), .load 1 false (.tmp 30), none⟩, none, [2, 1, 0]⟩, ⟨⟨(some 32), .move (.tmp 0), none⟩, none, []⟩, ⟨⟨(some 33), .nilCheck (.tmp 32), none⟩, none, [4]⟩, ⟨⟨(some 34), .fieldAddr 1 (.tmp 33), none⟩, none, [5, 4]⟩, ⟨⟨(some 35), .load 1 false (.tmp 34), none⟩, none, [6, 5, 4]⟩, ⟨⟨(some 36), .index .str false (.tmp 31) (.tmp 35), none⟩, none, [3, 7, 2, 1, 0, 6, 5, 4]⟩, ⟨⟨(some 5), .move (.tmp 36), none⟩, none, [8, 0, 1, 2, 3, 4, 5, 6, 7]⟩]) (.seq (.region [⟨(some 37), .move (.tmp 0), none⟩, ⟨(some 38), .nilCheck (.tmp 37), none⟩, ⟨(some 39), .fieldAddr 1 (.tmp 38), none⟩, ⟨(some 40), .load 1 false (.tmp 39), none⟩, ⟨(some 41), .bin .add 0 (.tmp 40) (.c (.int .i64 1)), none⟩, ⟨(some 42), .nilCheck (.tmp 37), none⟩, ⟨(some 43), .fieldAddr 1 (.tmp 42), none⟩, ⟨none, .store 1 (.tmp 43) (.tmp 41), none⟩]) (.seq (.region [⟨(some 44), .move (.tmp 3), none⟩, ⟨(some 45), .move (.tmp 5), none⟩, ⟨(some 46), .bin .and 0 (.tmp 45) (.c (.int .u8 127)), none⟩, ⟨(some 47), .conv (.int .i64) (.tmp 46), none⟩, ⟨(some 48), .move (.tmp 4), none⟩, ⟨(some 49), .bin .shl 0 (.tmp 47) (.tmp 48), none⟩, ⟨(some 50), .bin .or 0 (.tmp 44) (.tmp 49), none⟩, ⟨(some 3), .move (.tmp 50), none⟩]) (.seq (.seq (.region [⟨(some 51), .move (.tmp 5), none⟩, ⟨(some 52), .bin .lss 0 (.tmp 51) (.c (.int .u8 128)), none⟩]) (.cond (.tmp 52) (.seq (.region [⟨(some 53), .move (.tmp 0), none⟩, ⟨(some 54), .move (.tmp 5), none⟩, ⟨(some 55), .bin .eql 0 (.tmp 54) (.c (.int .u8 0)), none⟩, ⟨(some 56), .move (.tmp 55), none⟩, ⟨(some 57), .move (.tmp 4), (some (56, true))⟩, ⟨(some 58), .bin .gtr 0 (.tmp 57) (.c (.int .i64 0)), (some (56, true))⟩, ⟨(some 59), .pick (.tmp 56) (.tmp 58) (.c (.bool false)), none⟩, ⟨(some 60), .nilCheck (.tmp 53), none⟩, ⟨(some 61), .fieldAddr 2 (.tmp 60), none⟩, ⟨none, .store 1 (.tmp 61) (.tmp 59), none⟩]) (.exit 0)) (.skip))) (.region [⟨(some 62), .move (.tmp 4), none⟩, ⟨(some 63), .bin .add 0 (.tmp 62) (.c (.int .i64 7)), none⟩, ⟨(some 4), .move (.tmp 63), none⟩])))))))
def c16_1 : ACode := .seq (.seq (.region [⟨(some 64), .move (.tmp 0), none⟩, ⟨(some 65), .nilCheck (.tmp 64), none⟩, ⟨(some 66), .fieldAddr 2 (.tmp 65), none⟩, ⟨(some 67), .load 1 false (.tmp 66), none⟩]) (.cond (.tmp 67) (.seq (.region [⟨(some 2), .move (.c (.int .i64 0)), none⟩]) (.ret)) (.skip))) (.seq (.region [⟨(some 68), .move (.tmp 3), none⟩, ⟨(some 2), .move (.tmp 68), none⟩]) (.ret))
def c16_0 : ACode := .seq (.region [⟨(some 2), .move (.c (.int .i64 0)), none⟩]) (.seq (.region [⟨(some 3), .move (.c (.int .i64 0)), none⟩, ⟨(some 4), .move (.c (.int .i64 0)), none⟩]) (.seq (.block 0 (.loop (lives 69 [0, 3, 4]) (c16_2))) (c16_1)))
/-- (*florin/wire.Reader).Num -/
def a16 : AFun := ⟨69, [.tmp 2], c16_0, false⟩
def s16 (_ : Nat) : Bool := false
def g16_l1T (N : Nat) (L1 : Int → Int → List UInt8 → Int → Bool → R) (x1 : Int) (x2 : Int) (x3 : List UInt8) (x4 : Int) (x5 : Bool) : R :=
 bif (!x5) then
  bif (x4 == (x3.length : Int)) then
   some (.ret (.int .i64 0), [.var [.str x3, .int .i64 x4, .bool true]])
  else
   bif (decide (x2 > 56)) then
    some (.ret (.int .i64 0), [.var [.str x3, .int .i64 x4, .bool true]])
   else
    guardK (decide (0 ≤ x4)) <|
    optK (x3[x4.toNat]?) fun b1 =>
    guardK (decide (0 ≤ x2)) <|
    bif (decide ((b1.toNat : Int) < 128)) then
     bif ((b1.toNat : Int) == 0) then
      bif (decide (x2 > 0)) then
       some (.ret (.int .i64 0), [.var [.str x3, .int .i64 (wrp .i64 (x4 + 1)), .bool (decide (x2 > 0))]])
      else
       some (.ret (.int .i64 (orI .i64 x1 (shlI .i64 (wrp .i64 (andI .u8 (b1.toNat : Int) 127)) x2))), [.var [.str x3, .int .i64 (wrp .i64 (x4 + 1)), .bool (decide (x2 > 0))]])
     else
      some (.ret (.int .i64 (orI .i64 x1 (shlI .i64 (wrp .i64 (andI .u8 (b1.toNat : Int) 127)) x2))), [.var [.str x3, .int .i64 (wrp .i64 (x4 + 1)), .bool false]])
    else
     L1 (orI .i64 x1 (shlI .i64 (wrp .i64 (andI .u8 (b1.toNat : Int) 127)) x2)) (wrp .i64 (x2 + 7)) x3 (wrp .i64 (x4 + 1)) x5
 else
  bif x5 then
   some (.ret (.int .i64 0), [.var [.str x3, .int .i64 x4, .bool x5]])
  else
   some (.ret (.int .i64 x1), [.var [.str x3, .int .i64 x4, .bool x5]])
def g16T (N : Nat) (L1 : Int → Int → List UInt8 → Int → Bool → R) (s : List UInt8) (p : Int) (bad : Bool) : R :=
 L1 0 0 s p bad
def g16_l1 (N : Nat)  : Nat → Int → Int → List UInt8 → Int → Bool → R
  | 0, _, _, _, _, _ => none
  | n + 1, x1, x2, x3, x4, x5 => g16_l1T N (g16_l1 N  n) x1 x2 x3 x4 x5
def g16 (N : Nat) (s : List UInt8) (p : Int) (bad : Bool) : R := g16T N (g16_l1 N  N) s p bad
theorem g16_l1_eq (N : Nat)  : ∀ (n1 : Nat) (x1 : Int) (x2 : Int) (x3 : List UInt8) (x4 : Int) (x5 : Bool), loopQ (execQ (rhoL []) N c16_2) (lives 69 [0, 3, 4]) (kBase 1 (kBlock 0 (kSeq (execQ (rhoL []) N c16_1) (kEnd a16 1)))) n1 ⟨slots 69 [(0, .ptr 0 0), (3, .int .i64 x1), (4, .int .i64 x2)], [.var [.str x3, .int .i64 x4, .bool x5]], 1⟩ = g16_l1 N  n1 x1 x2 x3 x4 x5 := by
  intro n1
  induction n1 with
  | zero => intros; rfl
  | succ n1 ih =>
    intro x1 x2 x3 x4 x5
    have step : loopQ (execQ (rhoL []) N c16_2) (lives 69 [0, 3, 4]) (kBase 1 (kBlock 0 (kSeq (execQ (rhoL []) N c16_1) (kEnd a16 1)))) (n1 + 1) ⟨slots 69 [(0, .ptr 0 0), (3, .int .i64 x1), (4, .int .i64 x2)], [.var [.str x3, .int .i64 x4, .bool x5]], 1⟩ = g16_l1T N (fun x1 x2 x3 x4 x5 => loopQ (execQ (rhoL []) N c16_2) (lives 69 [0, 3, 4]) (kBase 1 (kBlock 0 (kSeq (execQ (rhoL []) N c16_1) (kEnd a16 1)))) n1 ⟨slots 69 [(0, .ptr 0 0), (3, .int .i64 x1), (4, .int .i64 x2)], [.var [.str x3, .int .i64 x4, .bool x5]], 1⟩) x1 x2 x3 x4 x5 := by kernel_rfl
    rw [step]
    show _ = g16_l1T N (g16_l1 N  n1) x1 x2 x3 x4 x5
    rw [show (fun x1 x2 x3 x4 x5 => loopQ (execQ (rhoL []) N c16_2) (lives 69 [0, 3, 4]) (kBase 1 (kBlock 0 (kSeq (execQ (rhoL []) N c16_1) (kEnd a16 1)))) n1 ⟨slots 69 [(0, .ptr 0 0), (3, .int .i64 x1), (4, .int .i64 x2)], [.var [.str x3, .int .i64 x4, .bool x5]], 1⟩) = (g16_l1 N  n1) from funext fun x1 => funext fun x2 => funext fun x3 => funext fun x4 => funext fun x5 => ih x1 x2 x3 x4 x5]
theorem g16_eq (N : Nat) (s : List UInt8) (p : Int) (bad : Bool) : runQ (rhoL []) N a16 [.ptr 0 0] [.var [.str s, .int .i64 p, .bool bad]] = g16 N s p bad := by
  have step : runQ (rhoL []) N a16 [.ptr 0 0] [.var [.str s, .int .i64 p, .bool bad]] = g16T N (fun x1 x2 x3 x4 x5 => loopQ (execQ (rhoL []) N c16_2) (lives 69 [0, 3, 4]) (kBase 1 (kBlock 0 (kSeq (execQ (rhoL []) N c16_1) (kEnd a16 1)))) N ⟨slots 69 [(0, .ptr 0 0), (3, .int .i64 x1), (4, .int .i64 x2)], [.var [.str x3, .int .i64 x4, .bool x5]], 1⟩) s p bad := by kernel_rfl
  rw [step]
  show _ = g16T N (g16_l1 N  N) s p bad
  rw [show (fun x1 x2 x3 x4 x5 => loopQ (execQ (rhoL []) N c16_2) (lives 69 [0, 3, 4]) (kBase 1 (kBlock 0 (kSeq (execQ (rhoL []) N c16_1) (kEnd a16 1)))) N ⟨slots 69 [(0, .ptr 0 0), (3, .int .i64 x1), (4, .int .i64 x2)], [.var [.str x3, .int .i64 x4, .bool x5]], 1⟩) = (g16_l1 N  N) from funext fun x1 => funext fun x2 => funext fun x3 => funext fun x4 => funext fun x5 => g16_l1_eq N N x1 x2 x3 x4 x5]
def okR (s : List UInt8) (p : Int) : Bool := decide (0 ≤ p) && decide (p ≤ (s.length : Int)) && decide (s.length ≤ 4611686018427387904)
def selR : List AV → Hp → List Nat := fun args _ => match args with
  | .ptr id _ :: _ => [id]
  | _ => []
def p16 : Prim := fun args H => match args, H with
  | [.ptr 0 0], [.var [.str s, .int .i64 p, .bool bad]] => .ite (okR s p) (.leaf (.ret (.int .i64 ((rn s p.toNat bad).1 : Int))) [.var [.str s, .int .i64 ((rn s p.toNat bad).2.1 : Int), .bool (rn s p.toNat bad).2.2]]) .bad
  | _, _ => .bad
theorem g16_l1_bad {N m : Nat} {x1 x2 : Int} {s : List UInt8} {p : Int} : g16_l1 N (m + 1) x1 x2 s p true = some (.ret (.int .i64 0), [.var [.str s, .int .i64 p, .bool true]]) := rfl
theorem g16_l1_run (N : Nat) (s : List UInt8) (hs : s.length ≤ 4611686018427387904) : ∀ (f m n sh p : Nat), f ≤ m → 0 < f → p ≤ s.length → n < 2 ^ sh → sh = 7 * (10 - f) → f ≤ 10 →
    g16_l1 N m (n : Int) (sh : Int) s (p : Int) false = some (.ret (.int .i64 ((rnF s f n sh p).1 : Int)), [.var [.str s, .int .i64 ((rnF s f n sh p).2.1 : Int), .bool (rnF s f n sh p).2.2]])
  | 0, m, n, sh, p, hf, h0, _, _, _, _ => by omega
  | f + 1, 0, n, sh, p, hf, _, _, _, _, _ => by omega
  | f + 1, m + 1, n, sh, p, hf, _, hp, hn, hsh, hf10 => by
    simp only [g16_l1, g16_l1T, rnF, Bool.not_false, cond_true]
    by_cases h1 : p = s.length
    · have e1 : ((p : Int) == (s.length : Int)) = true := by simp [h1]
      have e2 : (p == s.length) = true := by simp [h1]
      rw [e1, e2]; rfl
    · have e1 : ((p : Int) == (s.length : Int)) = false := by simp; omega
      have e2 : (p == s.length) = false := by simpa using h1
      rw [e1, e2, cond_false, cond_false]
      by_cases h2 : sh > 56
      · rw [decide_eq_true (show (sh : Int) > 56 by omega), decide_eq_true h2]; rfl
      · rw [decide_eq_false (show ¬ (sh : Int) > 56 by omega), decide_eq_false h2, cond_false, cond_false]
        rw [guardK_d (by omega)]
        have hp2 : p < s.length := by omega
        have e3 : s[(p : Int).toNat]? = some (s.getD p 0) := by
          rw [Int.toNat_natCast, List.getD_eq_getElem?_getD, List.getElem?_eq_getElem hp2]; rfl
        rw [e3]
        simp only [optK]
        rw [guardK_d (by omega)]
        generalize hb : (s.getD p 0) = b0
        have hb2 : b0.toNat < 256 := b0.toNat_lt
        generalize b0.toNat = b at hb2
        have hm := Nat.mod_lt b (show 0 < 128 by decide)
        rw [and127_8 b hb2, w64 (n := ((b % 128 : Nat) : Int)) (by omega) (by omega), shl_nat _ sh hm (by omega), or_shl n _ sh hn hm (by omega)]
        rw [w64 (n := (p : Int) + 1) (by omega) (by omega), w64 (n := (sh : Int) + 7) (by omega) (by omega)]
        by_cases h5 : b < 128
        · rw [decide_eq_true (show ((b : Nat) : Int) < 128 by omega), decide_eq_true h5, cond_true, cond_true]
          by_cases h6 : b = 0
          · have e6 : (((b : Nat) : Int) == 0) = true := by simp [h6]
            have e7 : (b == 0) = true := by simp [h6]
            rw [e6, e7, cond_true, Bool.true_and]
            by_cases h7 : sh > 0
            · rw [decide_eq_true (show (sh : Int) > 0 by omega), decide_eq_true h7]; rfl
            · rw [decide_eq_false (show ¬ (sh : Int) > 0 by omega), decide_eq_false h7]; rfl
          · have e6 : (((b : Nat) : Int) == 0) = false := by simp; omega
            have e7 : (b == 0) = false := by simpa using h6
            rw [e6, e7, cond_false, Bool.false_and, cond_false]
            rfl
        · rw [decide_eq_false (show ¬ ((b : Nat) : Int) < 128 by omega), decide_eq_false h5, cond_false, cond_false]
          have h3 : b % 128 * 2 ^ sh ≤ 127 * 2 ^ sh := Nat.mul_le_mul_right _ (by omega)
          exact g16_l1_run N s hs f m (n + b % 128 * 2 ^ sh) (sh + 7) (p + 1) (by omega) (by omega) (by omega) (by rw [Nat.pow_add]; omega) (by omega) (by omega)
theorem g16_run {N : Nat} {s : List UInt8} {p : Int} {bad : Bool} (hN : 10 ≤ N) (h : okR s p = true) : g16 N s p bad = some (.ret (.int .i64 ((rn s p.toNat bad).1 : Int)), [.var [.str s, .int .i64 ((rn s p.toNat bad).2.1 : Int), .bool (rn s p.toNat bad).2.2]]) := by
  simp only [okR, Bool.and_eq_true, decide_eq_true_eq] at h
  obtain ⟨⟨h1, h2⟩, h3⟩ := h
  unfold g16 g16T rn
  cases bad with
  | true =>
    obtain ⟨m, rfl⟩ : ∃ m, N = m + 1 := ⟨N - 1, by omega⟩
    rw [g16_l1_bad]
    simp only [cond_true]
    rw [Int.toNat_of_nonneg h1]
    rfl
  | false =>
    have := g16_l1_run N s h3 10 N 0 0 p.toNat hN (by decide) (by omega) (by decide) (by decide) (by decide)
    rw [Int.toNat_of_nonneg h1] at this
    exact this
theorem ok16 {P : Program} (hc : chkFun P s16 (chkD P s16) 16 a16 = true) : OkA P 16 p16 := by
  refine okA_code (l := []) trivial hc (fun _ _ => 10) fun args H r hr => ?_
  unfold p16 at hr
  split at hr
  · rename_i s p bad
    simp only [Alt.run] at hr
    cases hq : okR s p with
    | false => rw [hq] at hr; simp at hr
    | true =>
      rw [hq] at hr
      rw [g16_eq, g16_run (Nat.le_refl _) hq]
      exact hr
  · simp [Alt.run] at hr

def c13_0 : ACode := .seq (.region [⟨(some 2), .move (.c (.str [])), none⟩]) (.seq (.region [⟨(some 4), .move (.tmp 0), none⟩, ⟨(some 5), .call (.c (.func (.func 16) [] [])) [(.tmp 4)], none⟩, ⟨(some 3), .move (.tmp 5), none⟩]) (.seq (.seq (.draw [⟨⟨(some 6), .move (.tmp 3), none⟩, none, []⟩, ⟨⟨(some 7), .move (.tmp 0), none⟩, none, []⟩, ⟨⟨(some 8), .nilCheck (.tmp 7), none⟩, none, [1]⟩, ⟨⟨(some 9), .fieldAddr 0 (.tmp 8), none⟩, none, [2, 1]⟩, ⟨⟨(some 10), .load 1 false (.tmp 9), none⟩, none, [3, 2, 1]⟩, ⟨⟨(some 11), .len true (.tmp 10), none⟩, none, [4, 3, 2, 1]⟩, ⟨⟨(some 12), .move (.tmp 0), none⟩, none, []⟩, ⟨⟨(some 13), .nilCheck (.tmp 12), none⟩, none, [6]⟩, ⟨⟨(some 14), .fieldAddr 1 (.tmp 13), none⟩, none, [7, 6]⟩, ⟨⟨(some 15), .load 1 false (.tmp 14), none⟩, none, [8, 7, 6]⟩, ⟨⟨(some 16), .bin .sub 0 (.tmp 11) (.tmp 15), none⟩, none, [5, 9, 4, 3, 2, 1, 8, 7, 6]⟩, ⟨⟨(some 17), .bin .gtr 0 (.tmp 6) (.tmp 16), none⟩, none, [0, 10, 5, 9, 4, 3, 2, 1, 8, 7, 6]⟩]) (.cond (.tmp 17) (.region [⟨(some 18), .move (.tmp 0), none⟩, ⟨(some 19), .nilCheck (.tmp 18), none⟩, ⟨(some 20), .fieldAddr 2 (.tmp 19), none⟩, ⟨none, .store 1 (.tmp 20) (.c (.bool true)), none⟩]) (.skip))) (.seq (.seq (.region [⟨(some 21), .move (.tmp 0), none⟩, ⟨(some 22), .nilCheck (.tmp 21), none⟩, ⟨(some 23), .fieldAddr 2 (.tmp 22), none⟩, ⟨(some 24), .load 1 false (.tmp 23), none⟩]) (.cond (.tmp 24) (.seq (.region [⟨(some 2), .move (.c (.str [])), none⟩]) (.ret)) (.skip))) (.seq (.region [⟨(some 25), .move (.tmp 0), none⟩, ⟨(some 26), .nilCheck (.tmp 25), none⟩, ⟨(some 27), .fieldAddr 1 (.tmp 26), none⟩, ⟨(some 28), .load 1 false (.tmp 27), none⟩, ⟨(some 29), .move (.tmp 3), none⟩, ⟨(some 30), .bin .add 0 (.tmp 28) (.tmp 29), none⟩, ⟨(some 31), .nilCheck (.tmp 25), none⟩, ⟨(some 32), .fieldAddr 1 (.tmp 31), none⟩, ⟨none, .store 1 (.tmp 32) (.tmp 30), none⟩]) (.seq (.draw [⟨⟨(some 33), .move (.tmp 0), none⟩, none, []⟩, ⟨⟨(some 34), .nilCheck (.tmp 33), none⟩, none, [0]⟩, ⟨⟨(some 35), .fieldAddr 0 (.tmp 34), none⟩, none, [1, 0]⟩, ⟨⟨(some 36), .load 1 false (.tmp 35), none⟩, none, [2, 1, 0]⟩, ⟨⟨(some 37), .move (.tmp 0), none⟩, none, []⟩, ⟨⟨(some 38), .nilCheck (.tmp 37), none⟩, none, [4]⟩, ⟨⟨(some 39), .fieldAddr 1 (.tmp 38), none⟩, none, [5, 4]⟩, ⟨⟨(some 40), .load 1 false (.tmp 39), none⟩, none, [6, 5, 4]⟩, ⟨⟨(some 41), .move (.tmp 3), none⟩, none, []⟩, ⟨⟨(some 42), .bin .sub 0 (.tmp 40) (.tmp 41), none⟩, none, [7, 8, 6, 5, 4]⟩, ⟨⟨(some 43), .move (.tmp 0), none⟩, none, []⟩, ⟨⟨(some 44), .nilCheck (.tmp 43), none⟩, none, [10]⟩, ⟨⟨(some 45), .fieldAddr 1 (.tmp 44), none⟩, none, [11, 10]⟩, ⟨⟨(some 46), .load 1 false (.tmp 45), none⟩, none, [12, 11, 10]⟩, ⟨⟨(some 47), .slice .str (.tmp 36) (some (.tmp 42)) (some (.tmp 46)), none⟩, none, [3, 9, 13, 2, 1, 0, 7, 8, 6, 5, 4, 12, 11, 10]⟩, ⟨⟨(some 2), .move (.tmp 47), none⟩, none, [14, 0, 1, 2, 3, 4, 5, 6, 7, 8, 9, 10, 11, 12, 13]⟩]) (.ret))))))
/-- (*florin/wire.Reader).Text -/
def a13 : AFun := ⟨48, [.tmp 2], c13_0, false⟩
def s13 (_ : Nat) : Bool := false
def g13T (N : Nat)  (s : List UInt8) (p : Int) (bad : Bool) : R :=
 bif (okR s p) then
  bif (decide (((rn s p.toNat bad).1 : Int) > (wrp .i64 ((s.length : Int) - ((rn s p.toNat bad).2.1 : Int))))) then
   some (.ret (.str []), [.var [.str s, .int .i64 ((rn s p.toNat bad).2.1 : Int), .bool true]])
  else
   bif (rn s p.toNat bad).2.2 then
    some (.ret (.str []), [.var [.str s, .int .i64 ((rn s p.toNat bad).2.1 : Int), .bool (rn s p.toNat bad).2.2]])
   else
    guardK (decide (0 ≤ (wrp .i64 ((wrp .i64 (((rn s p.toNat bad).2.1 : Int) + ((rn s p.toNat bad).1 : Int))) - ((rn s p.toNat bad).1 : Int))) ∧ (wrp .i64 ((wrp .i64 (((rn s p.toNat bad).2.1 : Int) + ((rn s p.toNat bad).1 : Int))) - ((rn s p.toNat bad).1 : Int))) ≤ (wrp .i64 (((rn s p.toNat bad).2.1 : Int) + ((rn s p.toNat bad).1 : Int))) ∧ (wrp .i64 (((rn s p.toNat bad).2.1 : Int) + ((rn s p.toNat bad).1 : Int))) ≤ s.length)) <|
    some (.ret (.str ((s.drop (wrp .i64 ((wrp .i64 (((rn s p.toNat bad).2.1 : Int) + ((rn s p.toNat bad).1 : Int))) - ((rn s p.toNat bad).1 : Int))).toNat).take ((wrp .i64 (((rn s p.toNat bad).2.1 : Int) + ((rn s p.toNat bad).1 : Int))).toNat - (wrp .i64 ((wrp .i64 (((rn s p.toNat bad).2.1 : Int) + ((rn s p.toNat bad).1 : Int))) - ((rn s p.toNat bad).1 : Int))).toNat))), [.var [.str s, .int .i64 (wrp .i64 (((rn s p.toNat bad).2.1 : Int) + ((rn s p.toNat bad).1 : Int))), .bool (rn s p.toNat bad).2.2]])
 else
  none
def g13 (N : Nat) (s : List UInt8) (p : Int) (bad : Bool) : R := g13T N  s p bad
theorem g13_eq (N : Nat) (s : List UInt8) (p : Int) (bad : Bool) : runQ (rhoL [(16, liftA selR p16)]) N a13 [.ptr 0 0] [.var [.str s, .int .i64 p, .bool bad]] = g13 N s p bad := by
  have step : runQ (rhoL [(16, liftA selR p16)]) N a13 [.ptr 0 0] [.var [.str s, .int .i64 p, .bool bad]] = g13T N  s p bad := by kernel_rfl
  exact step
def p13 : Prim := fun args H => match args, H with
  | [.ptr 0 0], [.var [.str s, .int .i64 p, .bool bad]] => .ite (okR s p) (.leaf (.ret (.str (rt s p.toNat bad).1)) [.var [.str s, .int .i64 ((rt s p.toNat bad).2.1 : Int), .bool (rt s p.toNat bad).2.2]]) .bad
  | _, _ => .bad
theorem rnF_zero {s : List UInt8} : ∀ (f n sh p : Nat), (rnF s f n sh p).2.2 = true → (rnF s f n sh p).1 = 0
  | 0, n, sh, p, h => rfl
  | f + 1, n, sh, p, h => by
    simp only [rnF] at h ⊢
    cases e1 : (p == s.length) with
    | true => rfl
    | false =>
      rw [e1, cond_false] at h
      rw [cond_false]
      cases e2 : decide (sh > 56) with
      | true => rfl
      | false =>
        rw [e2, cond_false] at h
        rw [cond_false]
        cases e3 : decide ((s.getD p 0).toNat < 128) with
        | true =>
          rw [e3, cond_true] at h
          rw [cond_true]
          cases e4 : ((s.getD p 0).toNat == 0 && decide (sh > 0)) with
          | true => rfl
          | false => rw [e4] at h; simp at h
        | false =>
          rw [e3, cond_false] at h
          rw [cond_false]
          exact rnF_zero f _ _ _ h
theorem rn_zero {s : List UInt8} {p : Nat} {bad : Bool} (h : (rn s p bad).2.2 = true) : (rn s p bad).1 = 0 := by
  unfold rn at h ⊢
  cases bad with
  | true => rfl
  | false => exact rnF_zero _ _ _ _ h
theorem g13_run {N : Nat} {s : List UInt8} {p : Int} {bad : Bool} (h : okR s p = true) : g13 N s p bad = some (.ret (.str (rt s p.toNat bad).1), [.var [.str s, .int .i64 ((rt s p.toNat bad).2.1 : Int), .bool (rt s p.toNat bad).2.2]]) := by
  unfold g13 g13T
  rw [h, cond_true]
  simp only [okR, Bool.and_eq_true, decide_eq_true_eq] at h
  obtain ⟨⟨h1, h2⟩, h3⟩ := h
  have hb := rn_bounds (s := s) (p := p.toNat) (bad := bad) (by omega)
  have hz := rn_zero (s := s) (p := p.toNat) (bad := bad)
  unfold rt
  simp only
  generalize hr : rn s p.toNat bad = r at hb hz ⊢
  obtain ⟨n, q, b⟩ := r
  simp only at hb hz ⊢
  rw [w64 (n := (s.length : Int) - (q : Int)) (by omega) (by omega)]
  by_cases h4 : s.length < q + n
  · rw [decide_eq_true (show (n : Int) > (s.length : Int) - (q : Int) by omega), decide_eq_true h4, Bool.or_true]; rfl
  · rw [decide_eq_false (show ¬ (n : Int) > (s.length : Int) - (q : Int) by omega), decide_eq_false h4, Bool.or_false, cond_false]
    cases b with
    | true => rfl
    | false =>
      simp only [cond_false]
      rw [w64 (n := (q : Int) + (n : Int)) (by omega) (by omega), w64 (n := (q : Int) + (n : Int) - (n : Int)) (by omega) (by omega), guardK_d (by omega)]
      have e1 : ((q : Int) + (n : Int) - (n : Int)).toNat = q := by omega
      have e2 : ((q : Int) + (n : Int)).toNat = q + n := by omega
      rw [e1, e2, show q + n - q = n by omega]
      rfl
theorem ok13 {P : Program} (h16 : OkA P 16 p16) (hc : chkFun P s13 (chkD P s13) 13 a13 = true) : OkA P 13 p13 := by
  refine okA_code (l := [(16, liftA selR p16)]) ⟨okA_lift _ h16, trivial⟩ hc (fun _ _ => 10) fun args H r hr => ?_
  unfold p13 at hr
  split at hr
  · rename_i s p bad
    simp only [Alt.run] at hr
    cases hq : okR s p with
    | false => rw [hq] at hr; simp at hr
    | true =>
      rw [hq] at hr
      rw [g13_eq, g13_run hq]
      exact hr
  · simp [Alt.run] at hr
/-- A count. -/
def rc (s : List UInt8) (p : Nat) (bad : Bool) (m : Int) : Nat × Nat × Bool :=
  let r := rn s p bad
  bif decide ((r.1 : Int) > m) then (0, r.2.1, true) else r

def c14_0 : ACode := .seq (.region [⟨(some 4), .move (.c (.int .i64 0)), none⟩]) (.seq (.region [⟨(some 6), .move (.tmp 0), none⟩, ⟨(some 7), .call (.c (.func (.func 16) [] [])) [(.tmp 6)], none⟩, ⟨(some 5), .move (.tmp 7), none⟩]) (.seq (.seq (.region [⟨(some 8), .move (.tmp 5), none⟩, ⟨(some 9), .move (.tmp 1), none⟩, ⟨(some 10), .bin .gtr 0 (.tmp 8) (.tmp 9), none⟩]) (.cond (.tmp 10) (.seq (.region [⟨(some 11), .move (.tmp 0), none⟩, ⟨(some 12), .nilCheck (.tmp 11), none⟩, ⟨(some 13), .fieldAddr 2 (.tmp 12), none⟩, ⟨none, .store 1 (.tmp 13) (.c (.bool true)), none⟩]) (.seq (.region [⟨(some 4), .move (.c (.int .i64 0)), none⟩]) (.ret))) (.skip))) (.seq (.region [⟨(some 14), .move (.tmp 5), none⟩, ⟨(some 4), .move (.tmp 14), none⟩]) (.ret))))
/-- (*florin/wire.Reader).Count -/
def a14 : AFun := ⟨15, [.tmp 4], c14_0, false⟩
def s14 (_ : Nat) : Bool := false
def g14T (N : Nat)  (s : List UInt8) (p : Int) (bad : Bool) (m : Int) : R :=
 bif (okR s p) then
  bif (decide (((rn s p.toNat bad).1 : Int) > m)) then
   some (.ret (.int .i64 0), [.var [.str s, .int .i64 ((rn s p.toNat bad).2.1 : Int), .bool true]])
  else
   some (.ret (.int .i64 ((rn s p.toNat bad).1 : Int)), [.var [.str s, .int .i64 ((rn s p.toNat bad).2.1 : Int), .bool (rn s p.toNat bad).2.2]])
 else
  none
def g14 (N : Nat) (s : List UInt8) (p : Int) (bad : Bool) (m : Int) : R := g14T N  s p bad m
theorem g14_eq (N : Nat) (s : List UInt8) (p : Int) (bad : Bool) (m : Int) : runQ (rhoL [(16, liftA selR p16)]) N a14 [.ptr 0 0, .int .i64 m] [.var [.str s, .int .i64 p, .bool bad]] = g14 N s p bad m := by
  have step : runQ (rhoL [(16, liftA selR p16)]) N a14 [.ptr 0 0, .int .i64 m] [.var [.str s, .int .i64 p, .bool bad]] = g14T N  s p bad m := by kernel_rfl
  exact step
def c15_0 : ACode := .seq (.region [⟨(some 2), .move (.c (.bool false)), none⟩]) (.seq (.region [⟨(some 3), .move (.tmp 0), none⟩, ⟨(some 4), .nilCheck (.tmp 3), none⟩, ⟨(some 5), .fieldAddr 2 (.tmp 4), none⟩, ⟨(some 6), .load 1 false (.tmp 5), none⟩, ⟨(some 7), .un .not (.tmp 6), none⟩, ⟨(some 2), .move (.tmp 7), none⟩]) (.ret))
/-- (*florin/wire.Reader).OK -/
def a15 : AFun := ⟨8, [.tmp 2], c15_0, false⟩
def s15 (_ : Nat) : Bool := false
def g15T (N : Nat)  (s : List UInt8) (p : Int) (bad : Bool) : R :=
 some (.ret (.bool (!bad)), [.var [.str s, .int .i64 p, .bool bad]])
def g15 (N : Nat) (s : List UInt8) (p : Int) (bad : Bool) : R := g15T N  s p bad
theorem g15_eq (N : Nat) (s : List UInt8) (p : Int) (bad : Bool) : runQ (rhoL []) N a15 [.ptr 0 0] [.var [.str s, .int .i64 p, .bool bad]] = g15 N s p bad := by
  have step : runQ (rhoL []) N a15 [.ptr 0 0] [.var [.str s, .int .i64 p, .bool bad]] = g15T N  s p bad := by kernel_rfl
  exact step
def c17_0 : ACode := .seq (.region [⟨(some 2), .move (.c (.bool false)), none⟩]) (.seq (.draw [⟨⟨(some 3), .move (.tmp 0), none⟩, none, []⟩, ⟨⟨(some 4), .nilCheck (.tmp 3), none⟩, none, [0]⟩, ⟨⟨(some 5), .fieldAddr 2 (.tmp 4), none⟩, none, [1, 0]⟩, ⟨⟨(some 6), .load 1 false (.tmp 5), none⟩, none, [2, 1, 0]⟩, ⟨⟨(some 7), .un .not (.tmp 6), none⟩, none, [3, 2, 1, 0]⟩, ⟨⟨(some 8), .move (.tmp 7), none⟩, none, [4, 3, 2, 1, 0]⟩, ⟨⟨(some 9), .move (.tmp 0), (some (8, true))⟩, none, [5, 4, 3, 2, 1, 0]⟩, ⟨⟨(some 10), .nilCheck (.tmp 9), (some (8, true))⟩, none, [6, 5, 4, 3, 2, 1, 0]⟩, ⟨⟨(some 11), .fieldAddr 1 (.tmp 10), (some (8, true))⟩, none, [7, 5, 6, 4, 3, 2, 1, 0]⟩, ⟨⟨(some 12), .load 1 false (.tmp 11), (some (8, true))⟩, none, [8, 5, 7, 6, 4, 3, 2, 1, 0]⟩, ⟨⟨(some 13), .move (.tmp 0), (some (8, true))⟩, none, [5, 4, 3, 2, 1, 0]⟩, ⟨⟨(some 14), .nilCheck (.tmp 13), (some (8, true))⟩, none, [10, 5, 4, 3, 2, 1, 0]⟩, ⟨⟨(some 15), .fieldAddr 0 (.tmp 14), (some (8, true))⟩, none, [11, 5, 10, 4, 3, 2, 1, 0]⟩, ⟨⟨(some 16), .load 1 false (.tmp 15), (some (8, true))⟩, none, [12, 5, 11, 10, 4, 3, 2, 1, 0]⟩, ⟨⟨(some 17), .len true (.tmp 16), (some (8, true))⟩, none, [13, 5, 12, 11, 10, 4, 3, 2, 1, 0]⟩, ⟨⟨(some 18), .bin .eql 0 (.tmp 12) (.tmp 17), (some (8, true))⟩, none, [9, 14, 5, 8, 7, 6, 4, 3, 2, 1, 0, 13, 12, 11, 10]⟩, ⟨⟨(some 19), .pick (.tmp 8) (.tmp 18) (.c (.bool false)), none⟩, none, [5, 15, 4, 3, 2, 1, 0, 9, 14, 8, 7, 6, 13, 12, 11, 10]⟩, ⟨⟨(some 2), .move (.tmp 19), none⟩, none, [16, 5, 0, 1, 2, 3, 4, 6, 7, 8, 9, 10, 11, 12, 13, 14, 15]⟩]) (.ret))
/-- (*florin/wire.Reader).Done -/
def a17 : AFun := ⟨20, [.tmp 2], c17_0, false⟩
def s17 (_ : Nat) : Bool := false
def g17T (N : Nat)  (s : List UInt8) (p : Int) (bad : Bool) : R :=
 bif (!bad) then
  some (.ret (.bool (p == (s.length : Int))), [.var [.str s, .int .i64 p, .bool bad]])
 else
  some (.ret (.bool false), [.var [.str s, .int .i64 p, .bool bad]])
def g17 (N : Nat) (s : List UInt8) (p : Int) (bad : Bool) : R := g17T N  s p bad
theorem g17_eq (N : Nat) (s : List UInt8) (p : Int) (bad : Bool) : runQ (rhoL []) N a17 [.ptr 0 0] [.var [.str s, .int .i64 p, .bool bad]] = g17 N s p bad := by
  have step : runQ (rhoL []) N a17 [.ptr 0 0] [.var [.str s, .int .i64 p, .bool bad]] = g17T N  s p bad := by kernel_rfl
  exact step
def p14 : Prim := fun args H => match args, H with
  | [.ptr 0 0, .int .i64 m], [.var [.str s, .int .i64 p, .bool bad]] => .ite (okR s p) (.leaf (.ret (.int .i64 ((rc s p.toNat bad m).1 : Int))) [.var [.str s, .int .i64 ((rc s p.toNat bad m).2.1 : Int), .bool (rc s p.toNat bad m).2.2]]) .bad
  | _, _ => .bad
theorem ok14 {P : Program} (h16 : OkA P 16 p16) (hc : chkFun P s14 (chkD P s14) 14 a14 = true) : OkA P 14 p14 := by
  refine okA_code (l := [(16, liftA selR p16)]) ⟨okA_lift _ h16, trivial⟩ hc (fun _ _ => 10) fun args H r hr => ?_
  unfold p14 at hr
  split at hr
  · rename_i m s p bad
    simp only [Alt.run] at hr
    cases hq : okR s p with
    | false => rw [hq] at hr; simp at hr
    | true =>
      rw [hq] at hr
      rw [g14_eq]
      unfold g14 g14T
      rw [hq, cond_true]
      simp only [rc] at hr
      cases hd : decide (((rn s p.toNat bad).1 : Int) > m) with
      | true => rw [hd] at hr; exact hr
      | false => rw [hd] at hr; exact hr
  · simp [Alt.run] at hr
def p15 : Prim := fun args H => match args, H with
  | [.ptr 0 0], [.var [.str s, .int .i64 p, .bool bad]] => .leaf (.ret (.bool (!bad))) [.var [.str s, .int .i64 p, .bool bad]]
  | _, _ => .bad
theorem ok15 {P : Program} (hc : chkFun P s15 (chkD P s15) 15 a15 = true) : OkA P 15 p15 := by
  refine okA_code (l := []) trivial hc (fun _ _ => 0) fun args H r hr => ?_
  unfold p15 at hr
  split at hr
  · rw [g15_eq]; exact hr
  · simp [Alt.run] at hr
def p17 : Prim := fun args H => match args, H with
  | [.ptr 0 0], [.var [.str s, .int .i64 p, .bool bad]] => .leaf (.ret (.bool (!bad && p == (s.length : Int)))) [.var [.str s, .int .i64 p, .bool bad]]
  | _, _ => .bad
theorem ok17 {P : Program} (hc : chkFun P s17 (chkD P s17) 17 a17 = true) : OkA P 17 p17 := by
  refine okA_code (l := []) trivial hc (fun _ _ => 0) fun args H r hr => ?_
  unfold p17 at hr
  split at hr
  · rename_i s p bad
    rw [g17_eq]
    cases bad <;> exact hr
  · simp [Alt.run] at hr

end Go.Proofs.YtdhlgbnljhgabaaGreatDoor.AM

set_option maxRecDepth 100000
set_option linter.unusedVariables false
namespace Go.Proofs.YtdhlgbnljhgabaaGreatDoor.AM
open Go
def z34 : AV := .agg [.str [], .str [], .str [], .str [], .str [], .str [], .str [], .str [], .str [], .str [], .str [], .str [], .str [], .str [], .str [], .str [], .int .i64 0, .str [], .str [], .str [], .str [], .str [], .list [] 0, .list [] 0, .list [] 0, .list [] 0, .list [] 0, .list [] 0, .str [], .str [], .str [], .str [], .str [], .str []]
def c12_0 : ACode := .seq (.region [⟨(some 2), .move (.c (.nilPtr)), none⟩]) (.seq (.region [⟨(some 3), .move (.tmp 0), none⟩, ⟨(some 4), .mk [.str [], .int .i64 0, .bool false] [(0, 1, (.tmp 3))], none⟩, ⟨(some 5), .boxH (.tmp 4) [], none⟩, ⟨(some 2), .move (.tmp 5), none⟩]) (.ret))
/-- florin/wire.New -/
def a12 : AFun := ⟨6, [.tmp 2], c12_0, true⟩
def s12 (_ : Nat) : Bool := false
def g12T (N : Nat)  (s : List UInt8) : R :=
 some (.ret (.ptr 0 0), [.var [.str s, .int .i64 0, .bool false]])
def g12 (N : Nat) (s : List UInt8) : R := g12T N  s
theorem g12_eq (N : Nat) (s : List UInt8) : runQ (rhoL []) N a12 [.str s] [] = g12 N s := by
  have step : runQ (rhoL []) N a12 [.str s] [] = g12T N  s := by kernel_rfl
  exact step
def c20_1 : ACode := .skip
def c20_2 : ACode := .seq (.region [⟨(some 12), .move (.tmp 0), none⟩, ⟨(some 13), .call (.c (.func (.func 12) [] [])) [(.tmp 12)], none⟩, ⟨(some 4), .allocH [.nilPtr] [], none⟩, ⟨none, .store 1 (.tmp 4) (.tmp 13), none⟩]) (.seq (.region [⟨(some 5), .allocH [.str [], .str [], .str [], .str [], .str [], .str [], .str [], .str [], .str [], .str [], .str [], .str [], .str [], .str [], .str [], .str [], .int .i64 0, .str [], .str [], .str [], .str [], .str [], .nilS, .nilS, .nilS, .nilS, .nilS, .nilS, .str [], .str [], .str [], .str [], .str [], .str []] [], none⟩]) (.seq (.seq (.region [⟨(some 14), .call (.c (.func (.func 29) [] [])) [(.tmp 5)], none⟩, ⟨(some 15), .len false (.tmp 14), none⟩, ⟨(some 16), .move (.c (.int .i64 0)), none⟩]) (.block 0 (.loop (lives 53 [2, 4, 5, 14, 15, 16]) (.seq (.region [⟨(some 17), .bin .lss 0 (.tmp 16) (.tmp 15), none⟩]) (.seq (.cond (.tmp 17) (c20_1) (.exit 0)) (.seq (.block 1 (.seq (.region [⟨(some 18), .indexAddr (.sl 1) (.tmp 14) (.tmp 16), none⟩, ⟨(some 19), .load 1 false (.tmp 18), none⟩, ⟨(some 7), .move (.tmp 19), none⟩]) (.region [⟨(some 20), .move (.tmp 7), none⟩, ⟨(some 21), .load 1 false (.tmp 4), none⟩, ⟨(some 22), .call (.c (.func (.func 13) [] [])) [(.tmp 21)], none⟩, ⟨(some 23), .nilCheck (.tmp 20), none⟩, ⟨none, .store 1 (.tmp 23) (.tmp 22), none⟩]))) (.region [⟨(some 24), .bin .add 0 (.tmp 16) (.c (.int .i64 1)), none⟩, ⟨(some 16), .move (.tmp 24), none⟩]))))))) (.seq (.region [⟨(some 25), .load 1 false (.tmp 4), none⟩, ⟨(some 26), .call (.c (.func (.func 16) [] [])) [(.tmp 25)], none⟩, ⟨(some 27), .fieldAddr 16 (.tmp 5), none⟩, ⟨none, .store 1 (.tmp 27) (.tmp 26), none⟩]) (.seq (.draw [⟨⟨(some 28), .load 1 false (.tmp 4), none⟩, none, []⟩, ⟨⟨(some 29), .call (.c (.func (.func 30) [] [])) [(.tmp 28)], none⟩, none, [0]⟩, ⟨⟨(some 30), .load 1 false (.tmp 4), none⟩, none, []⟩, ⟨⟨(some 31), .call (.c (.func (.func 30) [] [])) [(.tmp 30)], none⟩, none, [2, 1, 0]⟩, ⟨⟨(some 32), .load 1 false (.tmp 4), none⟩, none, []⟩, ⟨⟨(some 33), .call (.c (.func (.func 30) [] [])) [(.tmp 32)], none⟩, none, [4, 3, 2, 1, 0]⟩, ⟨⟨(some 34), .fieldAddr 22 (.tmp 5), none⟩, none, [0, 1, 3, 5, 2, 4]⟩, ⟨⟨none, .store 1 (.tmp 34) (.tmp 29), none⟩, none, [6, 1, 5, 0, 3, 2, 4]⟩, ⟨⟨(some 35), .fieldAddr 23 (.tmp 5), none⟩, none, [0, 1, 2, 3, 5, 6, 7, 4]⟩, ⟨⟨none, .store 1 (.tmp 35) (.tmp 31), none⟩, none, [8, 3, 7, 0, 1, 2, 5, 6, 4]⟩, ⟨⟨(some 36), .fieldAddr 24 (.tmp 5), none⟩, none, [0, 1, 2, 3, 4, 5, 6, 7, 8, 9]⟩, ⟨⟨none, .store 1 (.tmp 36) (.tmp 33), none⟩, none, [10, 5, 9, 0, 1, 2, 3, 4, 6, 7, 8]⟩]) (.seq (.region [⟨(some 37), .load 1 false (.tmp 4), none⟩, ⟨(some 38), .mkFunc (.func 32) [] [(.tmp 4)], none⟩, ⟨(some 39), .call (.c (.func (.func 31) [] [])) [(.tmp 37), (.tmp 38)], none⟩, ⟨(some 40), .fieldAddr 25 (.tmp 5), none⟩, ⟨none, .store 1 (.tmp 40) (.tmp 39), none⟩]) (.seq (.region [⟨(some 41), .load 1 false (.tmp 4), none⟩, ⟨(some 42), .mkFunc (.func 35) [] [(.tmp 4)], none⟩, ⟨(some 43), .call (.c (.func (.func 34) [] [])) [(.tmp 41), (.tmp 42)], none⟩, ⟨(some 44), .fieldAddr 26 (.tmp 5), none⟩, ⟨none, .store 1 (.tmp 44) (.tmp 43), none⟩]) (.seq (.region [⟨(some 45), .load 1 false (.tmp 4), none⟩, ⟨(some 46), .call (.c (.func (.func 33) [] [])) [(.tmp 45)], none⟩, ⟨(some 47), .fieldAddr 27 (.tmp 5), none⟩, ⟨none, .store 1 (.tmp 47) (.tmp 46), none⟩]) (.seq (.seq (.region [⟨(some 48), .load 1 false (.tmp 4), none⟩, ⟨(some 49), .call (.c (.func (.func 17) [] [])) [(.tmp 48)], none⟩, ⟨(some 50), .un .not (.tmp 49), none⟩]) (.cond (.tmp 50) (.seq (.region [⟨(some 51), .mk [.str [], .str [], .str [], .str [], .str [], .str [], .str [], .str [], .str [], .str [], .str [], .str [], .str [], .str [], .str [], .str [], .int .i64 0, .str [], .str [], .str [], .str [], .str [], .nilS, .nilS, .nilS, .nilS, .nilS, .nilS, .str [], .str [], .str [], .str [], .str [], .str []] [], none⟩, ⟨none, .store 34 (.tmp 2) (.tmp 51), none⟩, ⟨(some 3), .move (.c (.int .i64 1)), none⟩]) (.ret)) (c20_1))) (.seq (.region [⟨(some 52), .load 34 true (.tmp 5), none⟩, ⟨none, .store 34 (.tmp 2) (.tmp 52), none⟩, ⟨(some 3), .move (.c (.int .i64 0)), none⟩]) (.ret))))))))))
def c20_0 : ACode := .seq (.region [⟨(some 2), .allocL [.str [], .str [], .str [], .str [], .str [], .str [], .str [], .str [], .str [], .str [], .str [], .str [], .str [], .str [], .str [], .str [], .int .i64 0, .str [], .str [], .str [], .str [], .str [], .nilS, .nilS, .nilS, .nilS, .nilS, .nilS, .str [], .str [], .str [], .str [], .str [], .str []], none⟩, ⟨(some 3), .move (.c (.int .i64 0)), none⟩]) (.seq (.seq (.region [⟨(some 8), .move (.tmp 0), none⟩, ⟨(some 9), .len true (.tmp 8), none⟩, ⟨(some 10), .bin .gtr 0 (.tmp 9) (.c (.int .i64 65536)), none⟩]) (.cond (.tmp 10) (.seq (.region [⟨(some 11), .mk [.str [], .str [], .str [], .str [], .str [], .str [], .str [], .str [], .str [], .str [], .str [], .str [], .str [], .str [], .str [], .str [], .int .i64 0, .str [], .str [], .str [], .str [], .str [], .nilS, .nilS, .nilS, .nilS, .nilS, .nilS, .str [], .str [], .str [], .str [], .str [], .str []] [], none⟩, ⟨none, .store 34 (.tmp 2) (.tmp 11), none⟩, ⟨(some 3), .move (.c (.int .i64 4)), none⟩]) (.ret)) (c20_1))) (c20_2))
/-- florin/table.Decode -/
def a20 : AFun := ⟨53, [.cell 2 34 true, .tmp 3], c20_0, false⟩
def s20 (x : Nat) : Bool := [2].contains x
def g20T (N : Nat)  (s : List UInt8) : R :=
 bif (decide ((s.length : Int) > 65536)) then
  some (.ret (.tuple [.agg [.str [], .str [], .str [], .str [], .str [], .str [], .str [], .str [], .str [], .str [], .str [], .str [], .str [], .str [], .str [], .str [], .int .i64 0, .str [], .str [], .str [], .str [], .str [], .list [] 0, .list [] 0, .list [] 0, .list [] 0, .list [] 0, .list [] 0, .str [], .str [], .str [], .str [], .str [], .str []], .int .i64 4]), [])
 else
  execQ (rhoL []) N c20_1 (⟨slots 53 [(0, .str s), (2, .lvar [.str [], .str [], .str [], .str [], .str [], .str [], .str [], .str [], .str [], .str [], .str [], .str [], .str [], .str [], .str [], .str [], .int .i64 0, .str [], .str [], .str [], .str [], .str [], .nilS, .nilS, .nilS, .nilS, .nilS, .nilS, .str [], .str [], .str [], .str [], .str [], .str []]), (3, .int .i64 0), (8, .str s), (9, .int .i64 (s.length : Int)), (10, .bool (decide ((s.length : Int) > 65536)))], [], 0⟩) (kSeq (execQ (rhoL []) N c20_2) (kEnd a20 0))
def g20 (N : Nat) (s : List UInt8) : R := g20T N  s
theorem g20_eq (N : Nat) (s : List UInt8) : runQ (rhoL []) N a20 [.str s] [] = g20 N s := by
  have step : runQ (rhoL []) N a20 [.str s] [] = g20T N  s := by kernel_rfl
  exact step
def p12 : Prim := fun args H => match args with
  | [.str s] => .leaf (.ret (.ptr H.length 0)) (H ++ [.var [.str s, .int .i64 0, .bool false]])
  | _ => .bad
def sp20 : List AV → Alt := fun args => match args with
  | [.str s] => .ite (decide ((s.length : Int) > 65536)) (.leaf (.ret (.tuple [z34, .int .i64 4])) []) .bad
  | _ => .bad
theorem run_ite {c : Bool} {o o' : Out} {H H' : Hp} (h : (Alt.ite c (.leaf o' H') .bad).run = some (o, H)) : c = true ∧ o' = o ∧ H' = H := by
  cases c with
  | true => simp only [Alt.run, cond_true, Option.some.injEq, Prod.mk.injEq] at h; exact ⟨rfl, h.1, h.2⟩
  | false => simp [Alt.run] at h
theorem ok12 {P : Program} (hc : chkFun P s12 (chkD P s12) 12 a12 = true) : OkA P 12 p12 := by
  refine okA_code (l := []) trivial hc (fun _ _ => 0) fun args H r hr => ?_
  unfold p12 at hr
  split at hr
  · rename_i s
    have h : runQ (rhoL []) 0 a12 [.str s] H = guardK (belowL (H ++ [] ++ [AObj.var [.str s, .int .i64 0, .bool false]]).length [.ptr (H.length + ([] : Hp).length) 0]) (some (.ret (.ptr (H.length + ([] : Hp).length) 0), H ++ [] ++ [AObj.var [.str s, .int .i64 0, .bool false]])) := by kernel_rfl
    rw [h, guardK_t (by simp [belowL, below])]
    simpa [Alt.run] using hr
  · simp [Alt.run] at hr
theorem ok20 {P : Program} (hc : chkFun P s20 (chkD P s20) 20 a20 = true) : OkA P 20 (pureA sp20) :=
  okA_pure (l := []) trivial hc (fun _ => 0) fun args o H hp hs => by
    unfold sp20 at hs
    split at hs
    · rename_i s
      obtain ⟨h1, rfl, rfl⟩ := run_ite hs
      rw [g20_eq]; unfold g20 g20T
      rw [h1]; rfl
    · simp [Alt.run] at hs

def c18_0 : ACode := .seq (.region [⟨(some 2), .move (.c (.nilPtr)), none⟩, ⟨(some 3), .move (.c (.int .i64 0)), none⟩]) (.seq (.region [⟨(some 7), .move (.tmp 0), none⟩, ⟨(some 8), .call (.c (.func (.func 20) [] [])) [(.tmp 7)], none⟩, ⟨(some 6), .move (.tmp 8), none⟩, ⟨(some 9), .extract (.tmp 6) 0, none⟩, ⟨(some 10), .extract (.tmp 6) 1, none⟩, ⟨(some 4), .allocL [.str [], .str [], .str [], .str [], .str [], .str [], .str [], .str [], .str [], .str [], .str [], .str [], .str [], .str [], .str [], .str [], .int .i64 0, .str [], .str [], .str [], .str [], .str [], .nilS, .nilS, .nilS, .nilS, .nilS, .nilS, .str [], .str [], .str [], .str [], .str [], .str []], none⟩, ⟨none, .store 34 (.tmp 4) (.tmp 9), none⟩, ⟨(some 5), .move (.tmp 10), none⟩]) (.seq (.seq (.region [⟨(some 11), .move (.tmp 5), none⟩, ⟨(some 12), .bin .neq 0 (.tmp 11) (.c (.int .i64 0)), none⟩]) (.cond (.tmp 12) (.seq (.region [⟨(some 2), .move (.c (.nilPtr)), none⟩, ⟨(some 3), .move (.c (.int .i64 5)), none⟩]) (.ret)) (.skip))) (.seq (.region [⟨(some 13), .load 34 true (.tmp 4), none⟩, ⟨(some 14), .call (.c (.func (.func 21) [] [])) [(.tmp 13)], none⟩, ⟨(some 15), .extract (.tmp 14) 0, none⟩, ⟨(some 16), .extract (.tmp 14) 1, none⟩, ⟨(some 2), .move (.tmp 15), none⟩, ⟨(some 3), .move (.tmp 16), none⟩]) (.ret))))
/-- florin/locale.Load -/
def a18 : AFun := ⟨17, [.tmp 2, .tmp 3], c18_0, false⟩
def s18 (x : Nat) : Bool := [4].contains x
def g18T (N : Nat)  (s : List UInt8) : R :=
 bif (decide ((s.length : Int) > 65536)) then
  some (.ret (.tuple [.nilPtr, .int .i64 5]), [])
 else
  none
def g18 (N : Nat) (s : List UInt8) : R := g18T N  s
theorem g18_eq (N : Nat) (s : List UInt8) : runQ (rhoL [(20, pureA sp20)]) N a18 [.str s] [] = g18 N s := by
  have step : runQ (rhoL [(20, pureA sp20)]) N a18 [.str s] [] = g18T N  s := by kernel_rfl
  exact step
def sp18 : List AV → Alt := fun args => match args with
  | [.str s] => .ite (decide ((s.length : Int) > 65536)) (.leaf (.ret (.tuple [.nilPtr, .int .i64 5])) []) .bad
  | _ => .bad
theorem ok18 {P : Program} (h20 : OkA P 20 (pureA sp20)) (hc : chkFun P s18 (chkD P s18) 18 a18 = true) : OkA P 18 (pureA sp18) :=
  okA_pure (l := [(20, pureA sp20)]) ⟨h20, trivial⟩ hc (fun _ => 0) fun args o H hp hs => by
    unfold sp18 at hs
    split at hs
    · rename_i s
      obtain ⟨h1, rfl, rfl⟩ := run_ite hs
      rw [g18_eq]; unfold g18 g18T
      rw [h1]; rfl
    · simp [Alt.run] at hs

def c8_1 : ACode := .seq (.region [⟨(some 33), .move (.tmp 6), none⟩, ⟨(some 2), .move (.tmp 33), none⟩]) (.ret)
def c8_0 : ACode := .seq (.region [⟨(some 1), .boxL (.tmp 0), none⟩, ⟨(some 2), .move (.c (.list [] 0)), none⟩]) (.seq (.region [⟨(some 10), .fieldAddr 0 (.tmp 1), none⟩, ⟨(some 11), .load 1 false (.tmp 10), none⟩, ⟨(some 12), .call (.c (.func (.func 18) [] [])) [(.tmp 11)], none⟩, ⟨(some 9), .move (.tmp 12), none⟩, ⟨(some 13), .extract (.tmp 9) 0, none⟩, ⟨(some 14), .extract (.tmp 9) 1, none⟩, ⟨(some 3), .move (.tmp 13), none⟩, ⟨(some 4), .move (.tmp 14), none⟩]) (.seq (.region [⟨(some 15), .fieldAddr 0 (.tmp 1), none⟩, ⟨(some 16), .load 1 false (.tmp 15), none⟩, ⟨(some 17), .move (.tmp 3), none⟩, ⟨(some 18), .mk [.str [], .nilPtr] [(0, 1, (.tmp 16)), (1, 1, (.tmp 17))], none⟩, ⟨(some 5), .allocL [.str [], .nilPtr], none⟩, ⟨none, .store 2 (.tmp 5) (.tmp 18), none⟩]) (.seq (.region [⟨(some 6), .newRow 9 1, none⟩]) (.seq (.seq (.region [⟨(some 19), .fieldAddr 1 (.tmp 1), none⟩, ⟨(some 20), .load 1 false (.tmp 19), none⟩, ⟨(some 21), .len false (.tmp 20), none⟩, ⟨(some 22), .move (.c (.int .i64 0)), none⟩]) (.block 0 (.loop (lives 34 [5, 6, 20, 21, 22]) (.seq (.region [⟨(some 23), .bin .lss 0 (.tmp 22) (.tmp 21), none⟩]) (.seq (.cond (.tmp 23) (.skip) (.exit 0)) (.seq (.block 1 (.seq (.region [⟨(some 24), .indexAddr (.sl 3) (.tmp 20) (.tmp 22), none⟩, ⟨(some 25), .load 3 true (.tmp 24), none⟩, ⟨(some 8), .allocL [.int .i64 0, .str [], .str []], none⟩, ⟨none, .store 3 (.tmp 8) (.tmp 25), none⟩]) (.region [⟨(some 26), .move (.tmp 6), none⟩, ⟨(some 27), .load 2 true (.tmp 5), none⟩, ⟨(some 28), .load 3 true (.tmp 8), none⟩, ⟨(some 29), .call (.c (.func (.func 19) [] [])) [(.tmp 27), (.tmp 28)], none⟩, ⟨(some 30), .mkList 1 1 [.str []] [(0, (.tmp 29))], none⟩, ⟨(some 31), .append 9 1 16 (.tmp 26) (.tmp 30), none⟩, ⟨(some 6), .move (.tmp 31), none⟩]))) (.region [⟨(some 32), .bin .add 0 (.tmp 22) (.c (.int .i64 1)), none⟩, ⟨(some 22), .move (.tmp 32), none⟩]))))))) (c8_1)))))
/-- (florin/script.Script).Do -/
def a8 : AFun := ⟨34, [.tmp 2], c8_0, false⟩
def s8 (x : Nat) : Bool := [1, 5, 8].contains x
def g8T   (t : List UInt8) : R :=
 bif (decide ((t.length : Int) > 65536)) then
  some (.ret (.list [] 0), [])
 else
  none
def g8  (t : List UInt8) : R := g8T   t
theorem g8_eq  (t : List UInt8) : runQ (rhoL [(18, pureA sp18)]) 5 a8 [.agg [.str t, .list [] 0]] [] = g8  t := by
  have step : runQ (rhoL [(18, pureA sp18)]) 5 a8 [.agg [.str t, .list [] 0]] [] = g8T   t := by kernel_rfl
  exact step
def sp8 : List AV → Alt := fun args => match args with
  | [.agg [.str t, .list [] 0]] => .ite (decide ((t.length : Int) > 65536)) (.leaf (.ret (.list [] 0)) []) .bad
  | _ => .bad
theorem ok8 {P : Program} (h18 : OkA P 18 (pureA sp18)) (hc : chkFun P s8 (chkD P s8) 8 a8 = true) : OkA P 8 (pureA sp8) :=
  okA_pure (l := [(18, pureA sp18)]) ⟨h18, trivial⟩ hc (fun _ => 5) fun args o H hp hs => by
    unfold sp8 at hs
    split at hs
    · rename_i t
      obtain ⟨h1, rfl, rfl⟩ := run_ite hs
      rw [g8_eq]; unfold g8 g8T
      rw [h1]; rfl
    · simp [Alt.run] at hs

def c5_1 : ACode := .seq (.region [⟨(some 34), .move (.tmp 3), none⟩, ⟨(some 35), .call (.c (.func (.func 11) [] [])) [(.tmp 34)], none⟩, ⟨(some 2), .move (.tmp 35), none⟩]) (.ret)
def c5_0 : ACode := .seq (.region [⟨(some 1), .boxL (.tmp 0), none⟩, ⟨(some 2), .move (.c (.str [])), none⟩]) (.seq (.region [⟨(some 6), .mk [.nilS] [], none⟩, ⟨(some 7), .boxH (.tmp 6) [(0, 5, 1)], none⟩, ⟨(some 3), .move (.tmp 7), none⟩]) (.seq (.draw [⟨⟨(some 8), .move (.tmp 3), none⟩, none, []⟩, ⟨⟨(some 9), .fieldAddr 0 (.tmp 1), none⟩, none, []⟩, ⟨⟨(some 10), .load 1 false (.tmp 9), none⟩, (some 1), [1]⟩, ⟨⟨(some 11), .call (.c (.func (.func 9) [] [])) [(.tmp 8), (.tmp 10)], none⟩, none, [0, 2, 1]⟩, ⟨⟨(some 12), .fieldAddr 1 (.tmp 1), none⟩, none, []⟩, ⟨⟨(some 13), .load 1 false (.tmp 12), none⟩, (some 1), [4]⟩, ⟨⟨(some 14), .len false (.tmp 13), none⟩, none, [5, 4]⟩, ⟨⟨(some 15), .call (.c (.func (.func 10) [] [])) [(.tmp 11), (.tmp 14)], none⟩, none, [3, 6, 0, 2, 1, 5, 4]⟩]) (.seq (.seq (.region [⟨(some 16), .fieldAddr 1 (.tmp 1), none⟩, ⟨(some 17), .load 1 false (.tmp 16), none⟩, ⟨(some 18), .len false (.tmp 17), none⟩, ⟨(some 19), .move (.c (.int .i64 0)), none⟩]) (.block 0 (.loop (lives 36 [3, 17, 18, 19]) (.seq (.region [⟨(some 20), .bin .lss 0 (.tmp 19) (.tmp 18), none⟩]) (.seq (.cond (.tmp 20) (.skip) (.exit 0)) (.seq (.block 1 (.seq (.region [⟨(some 21), .indexAddr (.sl 3) (.tmp 17) (.tmp 19), none⟩, ⟨(some 22), .load 3 true (.tmp 21), none⟩, ⟨(some 5), .allocL [.int .i64 0, .str [], .str []], none⟩, ⟨none, .store 3 (.tmp 5) (.tmp 22), none⟩]) (.draw [⟨⟨(some 23), .move (.tmp 3), none⟩, none, []⟩, ⟨⟨(some 24), .fieldAddr 0 (.tmp 5), none⟩, none, []⟩, ⟨⟨(some 25), .load 1 false (.tmp 24), none⟩, (some 5), [1]⟩, ⟨⟨(some 26), .call (.c (.func (.func 10) [] [])) [(.tmp 23), (.tmp 25)], none⟩, none, [0, 2, 1]⟩, ⟨⟨(some 27), .fieldAddr 1 (.tmp 5), none⟩, none, []⟩, ⟨⟨(some 28), .load 1 false (.tmp 27), none⟩, (some 5), [4]⟩, ⟨⟨(some 29), .call (.c (.func (.func 9) [] [])) [(.tmp 26), (.tmp 28)], none⟩, none, [3, 5, 0, 2, 1, 4]⟩, ⟨⟨(some 30), .fieldAddr 2 (.tmp 5), none⟩, none, []⟩, ⟨⟨(some 31), .load 1 false (.tmp 30), none⟩, (some 5), [7]⟩, ⟨⟨(some 32), .call (.c (.func (.func 9) [] [])) [(.tmp 29), (.tmp 31)], none⟩, none, [6, 8, 3, 5, 0, 2, 1, 4, 7]⟩]))) (.region [⟨(some 33), .bin .add 0 (.tmp 19) (.c (.int .i64 1)), none⟩, ⟨(some 19), .move (.tmp 33), none⟩]))))))) (c5_1))))
/-- (florin/script.Script).Encode -/
def a5 : AFun := ⟨36, [.tmp 2], c5_0, false⟩
def s5 (x : Nat) : Bool := [1, 5].contains x
def g5T   (t : List UInt8) : R :=
 bif (okW ([] : List AV) 0 (10 + t.length)) then
  bif (okW (([] : List AV) ++ encB (wt t)) (0 + (wt t).length) 10 && decide (0 ≤ 9223372036854775807)) then
   bif (decide (((0 + (wt t).length) + (wn 0).length) = ((([] : List AV) ++ encB (wt t)) ++ encB (wn 0)).length) && (bytesOf ((([] : List AV) ++ encB (wt t)) ++ encB (wn 0))).isSome) then
    some (.ret (.str ((bytesOf ((([] : List AV) ++ encB (wt t)) ++ encB (wn 0))).getD [])), [])
   else
    none
  else
   none
 else
  none
def g5  (t : List UInt8) : R := g5T   t
theorem g5_eq  (t : List UInt8) : runQ (rhoL [(9, liftA selW p9), (10, liftA selW p10), (11, liftA selW p11)]) 5 a5 [.agg [.str t, .list [] 0]] [] = g5  t := by
  have step : runQ (rhoL [(9, liftA selW p9), (10, liftA selW p10), (11, liftA selW p11)]) 5 a5 [.agg [.str t, .list [] 0]] [] = g5T   t := by kernel_rfl
  exact step
def sp5 : List AV → Alt := fun args => match args with
  | [.agg [.str t, .list [] 0]] => .ite (decide (t.length ≤ 1000000)) (.leaf (.ret (.str (wt t ++ wn 0))) []) .bad
  | _ => .bad
def tx (x : List UInt8) : List UInt8 := (rt x 0 false).1
def okD (x : List UInt8) : Bool := (rc x (rt x 0 false).2.1 (rt x 0 false).2.2 200).1 == 0 && (!(rc x (rt x 0 false).2.1 (rt x 0 false).2.2 200).2.2 && (rc x (rt x 0 false).2.1 (rt x 0 false).2.2 200).2.1 == x.length)
theorem ok5 {P : Program} (h9 : OkA P 9 p9) (h10 : OkA P 10 p10) (h11 : OkA P 11 p11) (hc : chkFun P s5 (chkD P s5) 5 a5 = true) : OkA P 5 (pureA sp5) :=
  okA_pure (l := [(9, liftA selW p9), (10, liftA selW p10), (11, liftA selW p11)]) ⟨okA_lift _ h9, okA_lift _ h10, okA_lift _ h11, trivial⟩ hc (fun _ => 5) fun args o H hp hs => by
    unfold sp5 at hs
    split at hs
    · rename_i t
      obtain ⟨h1, rfl, rfl⟩ := run_ite hs
      simp only [decide_eq_true_eq] at h1
      rw [g5_eq]; unfold g5 g5T
      have hl := wn_len (t.length : Int)
      have e1 : okW [] 0 (10 + t.length) = true := by simp [okW]; omega
      have e2 : (okW (([] : List AV) ++ encB (wt t)) (0 + (wt t).length) 10 && decide (0 ≤ 9223372036854775807)) = true := by simp [okW, encB_len, wt]; omega
      have e3 : bytesOf (([] ++ encB (wt t)) ++ encB (wn 0)) = some (wt t ++ wn 0) := by rw [List.nil_append, ← encB_append, bytesOf_enc]
      rw [e1, cond_true, e2, cond_true, e3]
      have e4 : decide (0 + (wt t).length + (wn 0).length = (([] : List AV) ++ encB (wt t) ++ encB (wn 0)).length) = true := by simp [encB_len]
      rw [e4]
      rfl
    · simp [Alt.run] at hs

end Go.Proofs.YtdhlgbnljhgabaaGreatDoor.AM

set_option maxRecDepth 100000
set_option linter.unusedVariables false
namespace Go.Proofs.YtdhlgbnljhgabaaGreatDoor.AM
open Go
def c6_1 : ACode := .seq (.seq (.region [⟨(some 38), .move (.tmp 4), none⟩, ⟨(some 39), .call (.c (.func (.func 17) [] [])) [(.tmp 38)], none⟩, ⟨(some 40), .un .not (.tmp 39), none⟩]) (.cond (.tmp 40) (.seq (.region [⟨(some 41), .mk [.str [], .nilS] [], none⟩, ⟨none, .store 2 (.tmp 2) (.tmp 41), none⟩, ⟨(some 3), .move (.c (.int .i64 8)), none⟩]) (.ret)) (.skip))) (.seq (.region [⟨(some 42), .load 2 true (.tmp 5), none⟩, ⟨none, .store 2 (.tmp 2) (.tmp 42), none⟩, ⟨(some 3), .move (.c (.int .i64 0)), none⟩]) (.ret))
def c6_0 : ACode := .seq (.region [⟨(some 2), .allocL [.str [], .nilS], none⟩, ⟨(some 3), .move (.c (.int .i64 0)), none⟩]) (.seq (.seq (.region [⟨(some 7), .move (.tmp 0), none⟩, ⟨(some 8), .len true (.tmp 7), none⟩, ⟨(some 9), .bin .gtr 0 (.tmp 8) (.c (.int .i64 131072)), none⟩]) (.cond (.tmp 9) (.seq (.region [⟨(some 10), .mk [.str [], .nilS] [], none⟩, ⟨none, .store 2 (.tmp 2) (.tmp 10), none⟩, ⟨(some 3), .move (.c (.int .i64 4)), none⟩]) (.ret)) (.skip))) (.seq (.region [⟨(some 11), .move (.tmp 0), none⟩, ⟨(some 12), .call (.c (.func (.func 12) [] [])) [(.tmp 11)], none⟩, ⟨(some 4), .move (.tmp 12), none⟩]) (.seq (.region [⟨(some 13), .move (.tmp 4), none⟩, ⟨(some 14), .call (.c (.func (.func 13) [] [])) [(.tmp 13)], none⟩, ⟨(some 15), .mk [.str [], .nilS] [(0, 1, (.tmp 14))], none⟩, ⟨(some 5), .allocL [.str [], .nilS], none⟩, ⟨none, .store 2 (.tmp 5) (.tmp 15), none⟩]) (.seq (.seq (.region [⟨(some 16), .move (.tmp 4), none⟩, ⟨(some 17), .call (.c (.func (.func 14) [] [])) [(.tmp 16), (.c (.int .i64 200))], none⟩, ⟨(some 6), .move (.tmp 17), none⟩]) (.block 0 (.loop (lives 43 [2, 4, 5, 6]) (.seq (.seq (.region [⟨(some 18), .move (.tmp 6), none⟩, ⟨(some 19), .bin .gtr 0 (.tmp 18) (.c (.int .i64 0)), none⟩, ⟨(some 20), .move (.tmp 19), none⟩, ⟨(some 21), .move (.tmp 4), (some (20, true))⟩, ⟨(some 22), .call (.c (.func (.func 15) [] [])) [(.tmp 21)], (some (20, true))⟩, ⟨(some 23), .pick (.tmp 20) (.tmp 22) (.c (.bool false)), none⟩]) (.cond (.tmp 23) (.skip) (.exit 0))) (.seq (.block 1 (.draw [⟨⟨(some 26), .fieldAddr 1 (.tmp 5), none⟩, none, []⟩, ⟨⟨(some 27), .load 1 false (.tmp 26), none⟩, (some 5), [0]⟩, ⟨⟨(some 28), .move (.tmp 4), none⟩, none, []⟩, ⟨⟨(some 29), .call (.c (.func (.func 16) [] [])) [(.tmp 28)], none⟩, none, [2]⟩, ⟨⟨(some 30), .move (.tmp 4), none⟩, none, []⟩, ⟨⟨(some 31), .call (.c (.func (.func 13) [] [])) [(.tmp 30)], none⟩, none, [4, 3, 2]⟩, ⟨⟨(some 32), .move (.tmp 4), none⟩, none, []⟩, ⟨⟨(some 33), .call (.c (.func (.func 13) [] [])) [(.tmp 32)], none⟩, none, [6, 5, 4, 3, 2]⟩, ⟨⟨(some 34), .mk [.int .i64 0, .str [], .str []] [(0, 1, (.tmp 29)), (1, 1, (.tmp 31)), (2, 1, (.tmp 33))], none⟩, none, [3, 5, 7, 2, 4, 6]⟩, ⟨⟨(some 35), .mkList 3 1 [.int .i64 0, .str [], .str []] [(0, (.tmp 34))], none⟩, none, [8, 3, 5, 7, 2, 4, 6]⟩, ⟨⟨(some 36), .append 37 3 40 (.tmp 27) (.tmp 35), none⟩, none, [1, 9, 7, 0, 8, 3, 5, 2, 4, 6]⟩, ⟨⟨(some 37), .fieldAddr 1 (.tmp 5), none⟩, none, [0, 1, 2, 3, 4, 5, 6, 7, 8, 9, 10]⟩, ⟨⟨none, .store 1 (.tmp 37) (.tmp 36), none⟩, (some 5), [11, 10, 0, 1, 2, 3, 4, 5, 6, 7, 8, 9]⟩])) (.region [⟨(some 24), .move (.tmp 6), none⟩, ⟨(some 25), .bin .sub 0 (.tmp 24) (.c (.int .i64 1)), none⟩, ⟨(some 6), .move (.tmp 25), none⟩])))))) (c6_1)))))
/-- florin/script.Decode -/
def a6 : AFun := ⟨43, [.cell 2 2 true, .tmp 3], c6_0, false⟩
def s6 (x : Nat) : Bool := [2, 5].contains x
def g6T   (x : List UInt8) : R :=
 bif (decide ((x.length : Int) > 131072)) then
  some (.ret (.tuple [.agg [.str [], .list [] 0], .int .i64 4]), [])
 else
  bif (okR x 0) then
   bif (okR x ((rt x (0 : Int).toNat false).2.1 : Int)) then
    bif (decide (((rc x ((rt x (0 : Int).toNat false).2.1 : Int).toNat ((rt x (0 : Int).toNat false).2.2) 200).1 : Int) > 0)) then
     none
    else
     bif (!(!(rc x ((rt x (0 : Int).toNat false).2.1 : Int).toNat ((rt x (0 : Int).toNat false).2.2) 200).2.2 && ((rc x ((rt x (0 : Int).toNat false).2.1 : Int).toNat ((rt x (0 : Int).toNat false).2.2) 200).2.1 : Int) == (x.length : Int))) then
      some (.ret (.tuple [.agg [.str [], .list [] 0], .int .i64 8]), [])
     else
      some (.ret (.tuple [.agg [.str (rt x (0 : Int).toNat false).1, .list [] 0], .int .i64 0]), [])
   else
    none
  else
   none
def g6  (x : List UInt8) : R := g6T   x
theorem g6_eq  (x : List UInt8) : runQ (rhoL [(12, p12), (13, liftA selR p13), (14, liftA selR p14), (17, liftA selR p17)]) 5 a6 [.str x] [] = g6  x := by
  have step : runQ (rhoL [(12, p12), (13, liftA selR p13), (14, liftA selR p14), (17, liftA selR p17)]) 5 a6 [.str x] [] = g6T   x := by kernel_rfl
  exact step
def sp6 : List AV → Alt := fun args => match args with
  | [.str x] => .ite (decide ((x.length : Int) > 131072)) (.leaf (.ret (.tuple [.agg [.str [], .list [] 0], .int .i64 4])) []) (.ite (okD x) (.leaf (.ret (.tuple [.agg [.str (tx x), .list [] 0], .int .i64 0])) []) .bad)
  | _ => .bad
theorem rc_bounds {s : List UInt8} {p : Nat} {bad : Bool} {m : Int} (hp : p ≤ s.length) : p ≤ (rc s p bad m).2.1 ∧ (rc s p bad m).2.1 ≤ s.length := by
  have h := rn_bounds (s := s) (bad := bad) hp
  unfold rc
  simp only
  cases decide (((rn s p bad).1 : Int) > m) <;> simp <;> omega
theorem ok6 {P : Program} (h12 : OkA P 12 p12) (h13 : OkA P 13 p13) (h14 : OkA P 14 p14) (h17 : OkA P 17 p17) (hc : chkFun P s6 (chkD P s6) 6 a6 = true) : OkA P 6 (pureA sp6) :=
  okA_pure (l := [(12, p12), (13, liftA selR p13), (14, liftA selR p14), (17, liftA selR p17)]) ⟨h12, okA_lift _ h13, okA_lift _ h14, okA_lift _ h17, trivial⟩ hc (fun _ => 5) fun args o H hp hs => by
    unfold sp6 at hs
    split at hs
    · rename_i x
      rw [g6_eq]; unfold g6 g6T
      cases h1 : decide ((x.length : Int) > 131072) with
      | true =>
        rw [h1] at hs
        simp only [Alt.run, cond_true, Option.some.injEq, Prod.mk.injEq] at hs
        obtain ⟨rfl, rfl⟩ := hs
        rfl
      | false =>
        rw [h1] at hs
        have hs2 := run_ite (show (Alt.ite (okD x) _ .bad).run = _ from hs)
        obtain ⟨h2, rfl, rfl⟩ := hs2
        simp only [decide_eq_false_iff_not] at h1
        have b1 := rt_bounds (s := x) (p := 0) (bad := false) (by omega)
        have e1 : okR x 0 = true := by simp [okR]; omega
        have z : (0 : Int).toNat = 0 := rfl
        have e2 : okR x ((rt x 0 false).2.1 : Int) = true := by simp only [okR, Bool.and_eq_true, decide_eq_true_eq]; omega
        rw [cond_false, e1, cond_true, z, e2, cond_true, Int.toNat_natCast]
        simp only [okD, Bool.and_eq_true, beq_iff_eq, Bool.not_eq_true'] at h2
        obtain ⟨h3, h4, h5⟩ := h2
        rw [h3, h4, h5]
        rw [decide_eq_false (show ¬ ((0 : Nat) : Int) > 0 by omega), cond_false]
        simp
        rfl
    · simp [Alt.run] at hs

def c7_0 : ACode := .seq (.region [⟨(some 2), .move (.c (.list [] 0)), none⟩, ⟨(some 3), .move (.c (.int .i64 0)), none⟩]) (.seq (.region [⟨(some 7), .move (.tmp 0), none⟩, ⟨(some 8), .call (.c (.func (.func 6) [] [])) [(.tmp 7)], none⟩, ⟨(some 6), .move (.tmp 8), none⟩, ⟨(some 9), .extract (.tmp 6) 0, none⟩, ⟨(some 10), .extract (.tmp 6) 1, none⟩, ⟨(some 4), .allocL [.str [], .nilS], none⟩, ⟨none, .store 2 (.tmp 4) (.tmp 9), none⟩, ⟨(some 5), .move (.tmp 10), none⟩]) (.seq (.seq (.region [⟨(some 11), .move (.tmp 5), none⟩, ⟨(some 12), .bin .neq 0 (.tmp 11) (.c (.int .i64 0)), none⟩]) (.cond (.tmp 12) (.seq (.region [⟨(some 13), .move (.tmp 5), none⟩, ⟨(some 2), .move (.c (.list [] 0)), none⟩, ⟨(some 3), .move (.tmp 13), none⟩]) (.ret)) (.skip))) (.seq (.region [⟨(some 14), .load 2 true (.tmp 4), none⟩, ⟨(some 15), .call (.c (.func (.func 8) [] [])) [(.tmp 14)], none⟩, ⟨(some 2), .move (.tmp 15), none⟩, ⟨(some 3), .move (.c (.int .i64 0)), none⟩]) (.ret))))
/-- florin/script.Run -/
def a7 : AFun := ⟨16, [.tmp 2, .tmp 3], c7_0, false⟩
def s7 (x : Nat) : Bool := [4].contains x
def g7T (N : Nat)  (x : List UInt8) : R :=
 bif (decide ((x.length : Int) > 131072)) then
  some (.ret (.tuple [.list [] 0, .int .i64 4]), [])
 else
  bif (okD x) then
   bif (decide (((tx x).length : Int) > 65536)) then
    some (.ret (.tuple [.list [] 0, .int .i64 0]), [])
   else
    none
  else
   none
def g7 (N : Nat) (x : List UInt8) : R := g7T N  x
theorem g7_eq (N : Nat) (x : List UInt8) : runQ (rhoL [(6, pureA sp6), (8, pureA sp8)]) N a7 [.str x] [] = g7 N x := by
  have step : runQ (rhoL [(6, pureA sp6), (8, pureA sp8)]) N a7 [.str x] [] = g7T N  x := by kernel_rfl
  exact step
def sp7 : List AV → Alt := fun args => match args with
  | [.str x] => .ite (decide ((x.length : Int) > 131072)) (.leaf (.ret (.tuple [.list [] 0, .int .i64 4])) []) (.ite (okD x && decide (((tx x).length : Int) > 65536)) (.leaf (.ret (.tuple [.list [] 0, .int .i64 0])) []) .bad)
  | _ => .bad
theorem ok7 {P : Program} (h6 : OkA P 6 (pureA sp6)) (h8 : OkA P 8 (pureA sp8)) (hc : chkFun P s7 (chkD P s7) 7 a7 = true) : OkA P 7 (pureA sp7) :=
  okA_pure (l := [(6, pureA sp6), (8, pureA sp8)]) ⟨h6, h8, trivial⟩ hc (fun _ => 0) fun args o H hp hs => by
    unfold sp7 at hs
    split at hs
    · rename_i x
      rw [g7_eq]; unfold g7 g7T
      cases h1 : decide ((x.length : Int) > 131072) with
      | true =>
        rw [h1] at hs
        simp only [Alt.run, cond_true, Option.some.injEq, Prod.mk.injEq] at hs
        obtain ⟨rfl, rfl⟩ := hs
        rfl
      | false =>
        rw [h1] at hs
        have hs2 := run_ite (show (Alt.ite (okD x && decide (((tx x).length : Int) > 65536)) _ .bad).run = _ from hs)
        obtain ⟨h2, rfl, rfl⟩ := hs2
        rw [Bool.and_eq_true] at h2
        rw [h2.1, h2.2]
        rfl
    · simp [Alt.run] at hs
def sp4 : List AV → Alt := fun args => match args with
  | [] => .leaf (.ret (.bool true)) []
  | _ => .bad

def c3_0 : ACode := .seq (.region [⟨(some 2), .move (.c (.bool false)), none⟩]) (.seq (.seq (.region [⟨(some 9), .call (.c (.func (.func 4) [] [])) [], none⟩, ⟨(some 10), .un .not (.tmp 9), none⟩]) (.cond (.tmp 10) (.seq (.region [⟨(some 2), .move (.c (.bool false)), none⟩]) (.ret)) (.skip))) (.seq (.region [⟨(some 11), .move (.tmp 0), none⟩, ⟨(some 12), .bin .and 0 (.tmp 11) (.c (.int .i64 15)), none⟩, ⟨(some 13), .bin .add 0 (.c (.int .i64 131064)) (.tmp 12), none⟩, ⟨(some 0), .move (.tmp 13), none⟩]) (.seq (.region [⟨(some 14), .move (.tmp 0), none⟩, ⟨(some 15), .makeRow 5 1 1 [.int .u8 0] (.tmp 14), none⟩, ⟨(some 3), .move (.tmp 15), none⟩]) (.seq (.region [⟨(some 16), .move (.tmp 3), none⟩, ⟨(some 17), .conv .b2s (.tmp 16), none⟩, ⟨(some 18), .mk [.str [], .nilS] [(0, 1, (.tmp 17))], none⟩, ⟨(some 19), .call (.c (.func (.func 5) [] [])) [(.tmp 18)], none⟩, ⟨(some 4), .move (.tmp 19), none⟩]) (.seq (.region [⟨(some 21), .move (.tmp 4), none⟩, ⟨(some 22), .call (.c (.func (.func 6) [] [])) [(.tmp 21)], none⟩, ⟨(some 20), .move (.tmp 22), none⟩, ⟨(some 23), .extract (.tmp 20) 0, none⟩, ⟨(some 24), .extract (.tmp 20) 1, none⟩, ⟨(some 5), .allocL [.str [], .nilS], none⟩, ⟨none, .store 2 (.tmp 5) (.tmp 23), none⟩, ⟨(some 6), .move (.tmp 24), none⟩]) (.seq (.region [⟨(some 26), .move (.tmp 4), none⟩, ⟨(some 27), .call (.c (.func (.func 7) [] [])) [(.tmp 26)], none⟩, ⟨(some 25), .move (.tmp 27), none⟩, ⟨(some 28), .extract (.tmp 25) 0, none⟩, ⟨(some 29), .extract (.tmp 25) 1, none⟩, ⟨(some 7), .move (.tmp 28), none⟩, ⟨(some 8), .move (.tmp 29), none⟩]) (.seq (.region [⟨(some 30), .move (.tmp 6), none⟩, ⟨(some 31), .bin .eql 0 (.tmp 30) (.c (.int .i64 0)), none⟩, ⟨(some 32), .move (.tmp 4), none⟩, ⟨(some 33), .len true (.tmp 32), none⟩, ⟨(some 34), .bin .leq 0 (.tmp 33) (.c (.int .i64 131072)), none⟩, ⟨(some 35), .bin .eql 1 (.tmp 31) (.tmp 34), none⟩, ⟨(some 36), .move (.tmp 35), none⟩, ⟨(some 37), .move (.tmp 6), (some (36, true))⟩, ⟨(some 38), .bin .eql 0 (.tmp 37) (.c (.int .i64 0)), (some (36, true))⟩, ⟨(some 39), .move (.tmp 38), (some (36, true))⟩, ⟨(some 40), .move (.tmp 6), (some (39, false))⟩, ⟨(some 41), .bin .eql 0 (.tmp 40) (.c (.int .i64 4)), (some (39, false))⟩, ⟨(some 42), .pick (.tmp 39) (.c (.bool true)) (.tmp 41), (some (36, true))⟩, ⟨(some 43), .pick (.tmp 36) (.tmp 42) (.c (.bool false)), none⟩, ⟨(some 44), .move (.tmp 43), none⟩, ⟨(some 45), .move (.tmp 8), (some (44, true))⟩, ⟨(some 46), .move (.tmp 6), (some (44, true))⟩, ⟨(some 47), .bin .eql 0 (.tmp 45) (.tmp 46), (some (44, true))⟩, ⟨(some 48), .pick (.tmp 44) (.tmp 47) (.c (.bool false)), none⟩, ⟨(some 49), .move (.tmp 48), none⟩, ⟨(some 50), .move (.tmp 7), (some (49, true))⟩, ⟨(some 51), .len false (.tmp 50), (some (49, true))⟩, ⟨(some 52), .bin .eql 0 (.tmp 51) (.c (.int .i64 0)), (some (49, true))⟩, ⟨(some 53), .pick (.tmp 49) (.tmp 52) (.c (.bool false)), none⟩, ⟨(some 2), .move (.tmp 53), none⟩]) (.ret))))))))
/-- florin/florinlaw26.ScriptLong -/
def a3 : AFun := ⟨54, [.tmp 2], c3_0, false⟩
def s3 (x : Nat) : Bool := [5].contains x
def g3T (N : Nat)  (n : Int) : R :=
 guardK (decide (0 ≤ (wrp .i64 (131064 + (andI .i64 n 15))) ∧ (wrp .i64 (131064 + (andI .i64 n 15))) ≤ 9223372036854775807 ∧ (wrp .i64 (131064 + (andI .i64 n 15))).toNat * 1 ≤ 140737488355328)) <|
 guardK (decide ((wrp .i64 (131064 + (andI .i64 n 15))).toNat = (repZ [.int .u8 0] (wrp .i64 (131064 + (andI .i64 n 15))).toNat).length)) <|
 optK (bytesOf (repZ [.int .u8 0] (wrp .i64 (131064 + (andI .i64 n 15))).toNat)) fun r1 =>
 bif (decide (r1.length ≤ 1000000)) then
  bif (decide (((wt r1 ++ wn 0).length : Int) > 131072)) then
   bif (decide (((wt r1 ++ wn 0).length : Int) > 131072)) then
    bif (false == (decide (((wt r1 ++ wn 0).length : Int) ≤ 131072))) then
     some (.ret (.bool true), [])
    else
     some (.ret (.bool false), [])
   else
    bif (okD (wt r1 ++ wn 0) && decide (((tx (wt r1 ++ wn 0)).length : Int) > 65536)) then
     bif (false == (decide (((wt r1 ++ wn 0).length : Int) ≤ 131072))) then
      some (.ret (.bool false), [])
     else
      some (.ret (.bool false), [])
    else
     none
  else
   bif (okD (wt r1 ++ wn 0)) then
    bif (decide (((wt r1 ++ wn 0).length : Int) > 131072)) then
     bif (true == (decide (((wt r1 ++ wn 0).length : Int) ≤ 131072))) then
      some (.ret (.bool false), [])
     else
      some (.ret (.bool false), [])
    else
     bif (okD (wt r1 ++ wn 0) && decide (((tx (wt r1 ++ wn 0)).length : Int) > 65536)) then
      bif (true == (decide (((wt r1 ++ wn 0).length : Int) ≤ 131072))) then
       some (.ret (.bool true), [])
      else
       some (.ret (.bool false), [])
     else
      none
   else
    none
 else
  none
def g3 (N : Nat) (n : Int) : R := g3T N  n
theorem g3_eq (N : Nat) (n : Int) : runQ (rhoL [(4, pureA sp4), (5, pureA sp5), (6, pureA sp6), (7, pureA sp7)]) N a3 [.int .i64 n] [] = g3 N n := by
  have step : runQ (rhoL [(4, pureA sp4), (5, pureA sp5), (6, pureA sp6), (7, pureA sp7)]) N a3 [.int .i64 n] [] = g3T N  n := by kernel_rfl
  exact step
theorem and15 (n : Int) : ∃ j : Nat, j < 16 ∧ andI .i64 n 15 = (j : Int) := by
  refine ⟨(BitVec.ofInt 64 n &&& 15#64).toNat, ?_, ?_⟩
  · rw [BitVec.toNat_and]
    have : (BitVec.ofInt 64 n).toNat &&& 15 = (BitVec.ofInt 64 n).toNat % 16 := Nat.and_two_pow_sub_one_eq_mod _ 4
    show (BitVec.ofInt 64 n).toNat &&& 15 < 16
    rw [this]
    exact Nat.mod_lt _ (by decide)
  · unfold andI
    have h : (BitVec.ofInt 64 n &&& 15#64).toNat < 16 := by
      rw [BitVec.toNat_and]
      have : (BitVec.ofInt 64 n).toNat &&& 15 = (BitVec.ofInt 64 n).toNat % 16 := Nat.and_two_pow_sub_one_eq_mod _ 4
      show (BitVec.ofInt 64 n).toNat &&& 15 < 16
      rw [this]
      exact Nat.mod_lt _ (by decide)
    show IntKind.i64.wrap ((BitVec.ofInt 64 n &&& 15#64).toNat : Int) = _
    exact IntWalk.i64_in _ (by omega)
theorem repZ_len (z : AV) : ∀ n, (repZ [z] n).length = n
  | 0 => rfl
  | n + 1 => by simp [repZ, repZ_len z n]
theorem bytesOf_zeros : ∀ n, bytesOf (repZ [.int .u8 0] n) = some (List.replicate n 0)
  | 0 => rfl
  | n + 1 => by
    simp only [repZ, List.singleton_append, bytesOf, bytesOf_zeros n]
    rfl
/-- What is read of three bytes ahead of others. -/
theorem rn_three (a b c : UInt8) (t : List UInt8) (ha : 128 ≤ a.toNat) (hb : 128 ≤ b.toNat) (hc : c.toNat < 128) (hc0 : c.toNat ≠ 0) : rn (a :: b :: c :: t) 0 false = (a.toNat % 128 + b.toNat % 128 * 128 + c.toNat % 128 * 16384, 3, false) := by
  simp only [rn, cond_false, rnF]
  have e0 : ∀ k, k < 3 → (k == (a :: b :: c :: t).length) = false := fun k hk => by simp; omega
  rw [e0 0 (by decide), e0 1 (by decide), e0 2 (by decide)]
  have d1 : (a :: b :: c :: t).getD 0 0 = a := rfl
  have d2 : (a :: b :: c :: t).getD (0 + 1) 0 = b := rfl
  have d3 : (a :: b :: c :: t).getD (0 + 1 + 1) 0 = c := rfl
  rw [d1, d2, d3, decide_eq_false (show ¬ a.toNat < 128 by omega), decide_eq_false (show ¬ b.toNat < 128 by omega), decide_eq_true hc]
  have e1 : (c.toNat == 0) = false := by simpa using hc0
  rw [e1]
  simp
theorem wn_three (m : Nat) (h1 : 16384 ≤ m) (h2 : m < 2097152) : wn (m : Int) = [UInt8.ofNat (m % 128 + 128), UInt8.ofNat (m / 128 % 128 + 128), UInt8.ofNat (m / 128 / 128)] := by
  simp only [wn, Int.toNat_natCast, wnF]
  rw [decide_eq_true (show m > 127 by omega), decide_eq_true (show m / 128 > 127 by omega), decide_eq_false (show ¬ m / 128 / 128 > 127 by omega)]
  rfl
theorem u8_nat (x : Nat) (h : x < 256) : (UInt8.ofNat x).toNat = x := by simp [Nat.mod_eq_of_lt h]
theorem wn_zero : wn 0 = [0] := rfl
theorem wt_okD (t : List UInt8) (h1 : 16384 ≤ t.length) (h2 : t.length < 2097152) : okD (wt t ++ wn 0) = true ∧ tx (wt t ++ wn 0) = t := by
  have hw := wn_three t.length h1 h2
  have hx : wt t ++ wn 0 = UInt8.ofNat (t.length % 128 + 128) :: UInt8.ofNat (t.length / 128 % 128 + 128) :: UInt8.ofNat (t.length / 128 / 128) :: (t ++ [0]) := by
    rw [wt, hw, wn_zero]; simp
  have m1 := Nat.mod_lt t.length (show 0 < 128 by decide)
  have m2 := Nat.mod_lt (t.length / 128) (show 0 < 128 by decide)
  have u1 : (UInt8.ofNat (t.length % 128 + 128)).toNat = t.length % 128 + 128 := u8_nat _ (by omega)
  have u2 : (UInt8.ofNat (t.length / 128 % 128 + 128)).toNat = t.length / 128 % 128 + 128 := u8_nat _ (by omega)
  have u3 : (UInt8.ofNat (t.length / 128 / 128)).toNat = t.length / 128 / 128 := u8_nat _ (by omega)
  have hr : rn (wt t ++ wn 0) 0 false = (t.length, 3, false) := by
    rw [hx, rn_three _ _ _ _ (by omega) (by omega) (by omega) (by omega), u1, u2, u3]
    refine Prod.ext ?_ rfl
    show (t.length % 128 + 128) % 128 + (t.length / 128 % 128 + 128) % 128 * 128 + t.length / 128 / 128 % 128 * 16384 = t.length
    omega
  have hl : (wt t ++ wn 0).length = t.length + 4 := by rw [hx]; simp
  have ht : rt (wt t ++ wn 0) 0 false = (t, 3 + t.length, false) := by
    unfold rt
    simp only [hr]
    rw [hl, decide_eq_false (show ¬ t.length + 4 < 3 + t.length by omega)]
    simp only [Bool.or_false, cond_false]
    rw [hx]
    simp
  have hg : rn (wt t ++ wn 0) (3 + t.length) false = (0, 3 + t.length + 1, false) := by
    simp only [rn, cond_false, rnF]
    have e0 : ((3 + t.length) == (wt t ++ wn 0).length) = false := by rw [hl]; simp; omega
    have e1 : (wt t ++ wn 0).getD (3 + t.length) 0 = 0 := by
      rw [hx, List.getD_eq_getElem?_getD, show 3 + t.length = t.length + 1 + 1 + 1 by omega]
      simp
    rw [e0, e1]
    simp
  have hc : rc (wt t ++ wn 0) (3 + t.length) false 200 = (0, 3 + t.length + 1, false) := by
    unfold rc
    simp only [hg]
    rfl
  constructor
  · unfold okD
    rw [ht]
    simp only [hc, hl]
    simp
    omega
  · unfold tx
    rw [ht]
theorem g3_run (n : Int) (N : Nat) : g3 N n = some (.ret (.bool true), []) := by
  unfold g3 g3T
  obtain ⟨j, hj, e⟩ := and15 n
  rw [e, w64 (n := 131064 + (j : Int)) (by omega) (by omega)]
  have e1 : (131064 + (j : Int)).toNat = 131064 + j := by omega
  rw [e1, guardK_d (by omega), guardK_d (by rw [repZ_len]), bytesOf_zeros]
  simp only [optK]
  generalize ht : List.replicate (131064 + j) (0 : UInt8) = t
  have hl : t.length = 131064 + j := by rw [← ht]; simp
  have hx : (wt t ++ wn 0).length = t.length + 4 := by
    rw [wt, wn_three t.length (by omega) (by omega), wn_zero]; simp
  obtain ⟨k1, k2⟩ := wt_okD t (by omega) (by omega)
  rw [decide_eq_true (show t.length ≤ 1000000 by omega), cond_true, k1, k2, hx]
  by_cases h : t.length + 4 > 131072
  · rw [decide_eq_true (show ((t.length + 4 : Nat) : Int) > 131072 by omega), decide_eq_false (show ¬ ((t.length + 4 : Nat) : Int) ≤ 131072 by omega)]
    rfl
  · rw [decide_eq_false (show ¬ ((t.length + 4 : Nat) : Int) > 131072 by omega), decide_eq_true (show ((t.length + 4 : Nat) : Int) ≤ 131072 by omega), decide_eq_true (show ((t.length : Nat) : Int) > 65536 by omega)]
    rfl
def sp3 : List AV → Alt := fun args => match args with
  | [.int .i64 _] => .leaf (.ret (.bool true)) []
  | _ => .bad
theorem ok3 {P : Program} (h4 : OkA P 4 (pureA sp4)) (h5 : OkA P 5 (pureA sp5)) (h6 : OkA P 6 (pureA sp6)) (h7 : OkA P 7 (pureA sp7)) (hc : chkFun P s3 (chkD P s3) 3 a3 = true) : OkA P 3 (pureA sp3) :=
  okA_pure (l := [(4, pureA sp4), (5, pureA sp5), (6, pureA sp6), (7, pureA sp7)]) ⟨h4, h5, h6, h7, trivial⟩ hc (fun _ => 0) fun args o H hp hs => by
    unfold sp3 at hs
    split at hs
    · rename_i n
      simp only [Alt.run, Option.some.injEq, Prod.mk.injEq] at hs
      obtain ⟨rfl, rfl⟩ := hs
      rw [g3_eq, g3_run]
    · simp [Alt.run] at hs

end Go.Proofs.YtdhlgbnljhgabaaGreatDoor.AM
