/- Proved: florinlaw26.ScriptLong returns true for every input (the listed package-level variables hold what the program's text lays; no other condition). Part 4 of 13. -/
import Derived.Test.YtdhlgbnljhgabaaGreatDoorAm3
import Derived.Tactics
/- An operation is held against its abstract one. -/
namespace Go.Proofs.YtdhlgbnljhgabaaGreatDoor.AM
open Go

def sliceEl (P : Program) (t : TypeId) : Nat := match P.underlying t with | some (.slice e) => e | _ => 0
def notIface (P : Program) (t : TypeId) : Bool := match P.underlying t with | some (.interface _) => false | some _ => true | none => false
def optOK : Option Operand → Option Opd → Bool
  | none, none => true
  | some x, some y => opdOK x y
  | _, _ => false
def bytesP (P : Program) (t : TypeId) (n : Nat) : Bool := match P.info? t with | some i => decide (i.bytes = n) | none => false
def zeroIs (P : Program) (e sz : Nat) : Bool := match P.info? e with | some i => (match i.zero with | some z => decide (z.cells.size = sz) && decide (i.size = sz) | none => false) | none => false

def isSliceOf (P : Program) (t e : TypeId) : Bool := match P.underlying t with | some (.slice e') => decide (e = e') | _ => false
theorem isSliceOf_spec {P : Program} {t e : TypeId} (h : isSliceOf P t e = true) : P.underlying t = some (.slice e) := by
  unfold isSliceOf at h
  split at h
  · rename_i e' q
    simp only [decide_eq_true_eq] at h
    subst h
    exact q
  · simp at h
theorem zeroIs_spec {P : Program} {e sz : Nat} (h : zeroIs P e sz = true) : ∃ i z, P.info? e = some i ∧ i.zero = some z ∧ z.cells.size = sz ∧ i.size = sz := by
  unfold zeroIs at h
  split at h
  · rename_i i hi
    split at h
    · rename_i z hz
      simp only [Bool.and_eq_true, decide_eq_true_eq] at h
      exact ⟨i, z, hi, hz, h.1, h.2⟩
    · simp at h
  · simp at h

def capP (P : Program) (e : TypeId) (m : Int) : Bool := match P.info? e with | some i => decide (0 < i.bytes) && decide (m.toNat * i.bytes ≤ 140737488355328) | none => false

def chkOp (P : Program) (o : Oper) : AOp → Bool
  | .move y => match o.op with
    | .move x => opdOK x y
    | .assign x => opdOK x y
    | _ => false
  | .newRow e sz => match o.op with
    | .move (.const (.slice none 0 0)) => decide (0 < sz)
    | .assign (.const (.slice none 0 0)) => decide (0 < sz)
    | .makeSlice t (.const (.int _ n)) (.const (.int _ m)) => decide (n = 0) && decide (0 ≤ m) && decide (m ≤ 140737488355328) && decide (0 < sz) && isSliceOf P t e && zeroIs P e sz && capP P e m
    | _ => false
  | .pick c x y => match o.op with
    | .pick c' x' y' => opdOK c' c && opdOK x' x && opdOK y' y
    | _ => false
  | .allocL z => match o.op with
    | .alloc t => zeroP P t z
    | _ => false
  | .allocH z rows => match o.op with
    | .alloc t => zeroP P t z && rows.all fun x => decide (0 < x.2.2)
    | _ => false
  | .boxL y => match o.op with
    | .box _ x => opdOK x y
    | _ => false
  | .boxH y rows => match o.op with
    | .box _ x => opdOK x y && rows.all fun x => decide (0 < x.2.2)
    | _ => false
  | .mk z qs => match o.op with
    | .build t ps => zeroP P t z && buildP P t && partsP P t ps.toList qs
    | _ => false
  | .mkList sz n z qs => match o.op with
    | .buildSlice t m ps => decide (n = m) && sliceTP P t (sliceEl P t) sz z && decide (0 < sz) && decide (n * sz ≤ 16777216) && partsS sz ps.toList qs
    | _ => false
  | .mkRow e sz n z qs => match o.op with
    | .buildSlice t m ps => decide (n = m) && sliceTP P t e sz z && decide (0 < sz) && decide (n * sz ≤ 16777216) && partsS sz ps.toList qs
    | _ => false
  | .load sz ag y => match o.op with
    | .load t x => opdOK x y && isAggP P t ag && (!ag || szP P t sz)
    | _ => false
  | .store sz y u => match o.op with
    | .store t x v => opdOK x y && opdOK v u && szP P t sz
    | _ => false
  | .nilCheck y => match o.op with
    | .nilCheck x => opdOK x y
    | _ => false
  | .bin op ty y u => match o.op with
    | .binOp op' t x v _ => decide (op = op') && tyP P t ty && opdOK x y && opdOK v u
    | _ => false
  | .eqAgg neg ks y u => match o.op with
    | .binOp op t x v _ => eqAggP P op t neg ks && opdOK x y && opdOK v u
    | _ => false
  | .un op y => match o.op with
    | .unOp op' _ x => decide (op = op') && opdOK x y
    | _ => false
  | .conv k y => match o.op with
    | .convert s d x => convP P s d k && opdOK x y
    | _ => false
  | .mkIface t y => match o.op with
    | .makeInterface t' x => decide (t = t') && notIface P t && opdOK x y
    | _ => false
  | .mkFunc fn f c => match o.op with
    | .makeFunc fn' f' c' => decide (fn = fn') && opdOKL f'.toList f && opdOKL c'.toList c
    | _ => false
  | .mkMap => match o.op with
    | .makeMap _ none => true
    | _ => false
  | .mapUpd m k v => match o.op with
    | .mapUpdate t m' k' v' => mapTP P t && opdOK m' m && opdOK k' k && opdOK v' v
    | _ => false
  | .lookup z ok m k => match o.op with
    | .lookup t m' k' ok' => lookTP P t z && decide (ok = ok') && opdOK m' m && opdOK k' k
    | _ => false
  | .makeRow e sz bytes z l => match o.op with
    | .makeSlice t l' c' => sliceTP P t e sz z && bytesP P e bytes && decide (0 < sz) && decide (0 < bytes) && opdOK l' l && opdOK c' l && pureL z && cell1L z
    | _ => false
  | .slice k y lo hi => match o.op with
    | .slice t x lo' hi' none => xkP P t k && opdOK x y && optOK lo' lo && optOK hi' hi
    | _ => false
  | .fieldAddr off y => match o.op with
    | .fieldAddr t x f => fieldP P t f off (szPos P) && opdOK x y
    | _ => false
  | .field off sz ag y => match o.op with
    | .field t x f => fieldP P t f off (fun u => isAggP P u ag && (!ag || szP P u sz)) && opdOK x y
    | _ => false
  | .indexAddr k y j => match o.op with
    | .indexAddr t x i => xkP P t k && opdOK x y && opdOK i j
    | _ => false
  | .index k ag y j => match o.op with
    | .index t x i => xkP P t k && xeP P t k ag && opdOK x y && opdOK i j
    | _ => false
  | .extract y j => match o.op with
    | .extract x i => decide (i = j) && opdOK x y
    | _ => false
  | .len st y => match o.op with
    | .call c => (match c.callee, c.args.toList, c.argTypes.toList with | .builtin .len, [x], [t] => lenP P t st && opdOK x y | _, _, _ => false)
    | _ => false
  | .mm mx ys => match o.op with
    | .call c => (match c.callee with | .builtin .max => mx | .builtin .min => !mx | _ => false) && opdOKL c.args.toList ys
    | _ => false
  | .append e sz bytes y u => match o.op with
    | .call c => (match c.callee, c.args.toList, c.argTypes.toList with | .builtin .append, [x, v], [t, t'] => decide (t = t') && isSliceOf P t e && zeroIs P e sz && bytesP P e bytes && decide (0 < sz) && decide (0 < bytes) && opdOK x y && opdOK v u | _, _, _ => false)
    | _ => false
  | .appendS e y u => match o.op with
    | .call c => (match c.callee, c.args.toList, c.argTypes.toList with | .builtin .append, [x, v], [t, t'] => isSliceOf P t e && strKey P t' && zeroIs P e 1 && bytesP P e 1 && opdOK x y && opdOK v u | _, _, _ => false)
    | _ => false
  | .call f as => match o.op with
    | .call c => (match c.callee with | .value f' => opdOK f' f && opdOKL c.args.toList as | _ => false)
    | _ => false
  | .panic y => match o.op with
    | .panic x => opdOK x y
    | _ => false
  | .range y => match o.op with
    | .range t x => strKey P t && opdOK x y
    | _ => false
  | .next y => match o.op with
    | .next x true => opdOK x y
    | _ => false
end Go.Proofs.YtdhlgbnljhgabaaGreatDoor.AM

/- Each operation is sound. -/
namespace Go.Proofs.YtdhlgbnljhgabaaGreatDoor.AM
open Go

/-- Slots of local structs are put by their making alone. -/
def chkDst (S : Nat → Bool) (d : Option Nat) : AOp → Bool
  | .allocL _ | .boxL _ => match d with | some x => S x | none => false
  | _ => match d with | some x => !S x | none => true

theorem chkDst_not {S : Nat → Bool} {d : Option Nat} {ao : AOp} (h : chkDst S d ao = true) (h1 : ∀ z, ao ≠ .allocL z) (h2 : ∀ x, ao ≠ .boxL x) : ∀ x, d = some x → S x = false := by
  intro x e
  subst e
  cases ao <;> first | exact absurd rfl (h1 _) | exact absurd rfl (h2 _) | (simpa [chkDst] using h)

section
variable {P : Program} {ρ : Rho} {S : Nat → Bool} {K : Kz} {s : St} {a : Act} {w : World} {o : Oper} {r : OpRes}

abbrev Goal (P : Program) (S : Nat → Bool) (K : Kz) (s : St) (a : Act) (w : World) (o : Oper) (r : OpRes) : Prop := OpW P o a w (Done S K w s o.dst r) (Pan K w s r)

theorem snd_move (h : StRel S K s a w) (hd : ∀ x, o.dst = some x → S x = false) {y : Opd} (hc : chkOp P o (.move y) = true) (hr : opA ρ (.move y) o.dst s = some r) : Goal P S K s a w o r := by
  simp only [opA, Option.some.injEq] at hr
  subst hr
  simp only [chkOp] at hc
  split at hc
  · rename_i x ho
    exact still h hd (by simp [execOp, ho]) (h.ev hc)
  · rename_i x ho
    exact still h hd (by simp [execOp, ho]) (h.ev hc)
  · simp at hc

theorem op_makeCap (h : StRel S K s a w) (hd : ∀ x, o.dst = some x → S x = false) {t e sz : Nat} {k1 k2 : IntKind} {m : Int}
    (ho : o.op = .makeSlice t (.const (.int k1 0)) (.const (.int k2 m))) (ht : isSliceOf P t e = true) (hz0 : zeroIs P e sz = true) (hsz : 0 < sz) (h0 : 0 ≤ m) (h48 : m ≤ 140737488355328) (hcap : capP P e m = true) :
    Goal P S K s a w o (.ok (.own s.H.length 0) (setH s (s.H ++ [.row false true e sz []]))) := by
  have hd' := isSliceOf_spec ht
  obtain ⟨i, v, hi, hz, h5, h6⟩ := zeroIs_spec hz0
  unfold capP at hcap
  rw [hi] at hcap
  simp only [Bool.and_eq_true, decide_eq_true_eq] at hcap
  obtain ⟨hb1, hbd⟩ := hcap
  have hbn : (i.bytes : Int) * m ≤ 281474976710656 := by
    have : m.toNat * i.bytes ≤ 281474976710656 := by omega
    have h8 : ((m.toNat * i.bytes : Nat) : Int) ≤ 281474976710656 := by omega
    rw [Int.natCast_mul, Int.toNat_of_nonneg h0, Int.mul_comm] at h8
    exact h8
  have hrun := run_make (P := P) w t e i v hd' hi hz k1 k2 0 m (Int.le_refl _) h0 hbn (by omega)
  have hb : ¬ K.tracked w.heap.size := not_tracked_new h.inv (Nat.le_refl _)
  have hle := le_addRow h.inv 0 (.slice (some ⟨w.heap.size, 0, none⟩) 0 m.toNat)
  have hsize := size_madeCells v.cells (m.toNat * i.size)
  have hml : m.toNat ≤ maxLen := by
    have : m.toNat * 1 ≤ m.toNat * i.bytes := Nat.mul_le_mul_left _ hb1
    unfold maxLen; omega
  have hown : (w.alloc (.cells (madeCells v.cells (m.toNat * i.size)) e)).ownsRow 0 e sz (.slice (some ⟨w.heap.size, 0, none⟩) 0 m.toNat) 0 [] :=
    ⟨by simp, .inr ⟨w.heap.size, m.toNat, _, rfl, Nat.zero_le _, heap_alloc_new w _, Nat.zero_le _, hml, by rw [hsize, h6], by simp⟩⟩
  have hinv := (h.alloc (.cells (madeCells v.cells (m.toNat * i.size)) e)).inv.addRow (m := 0) (v := .slice (some ⟨w.heap.size, 0, none⟩) 0 m.toNat) (fun b q => by simp [Value.ownBlock] at q; subst q; exact hb) hle false true e sz [] hsz rfl (fun _ => rfl) hown .nil
  have hrel : StRel S (K.addRow 0 (.slice (some ⟨w.heap.size, 0, none⟩) 0 m.toNat)) (setH s (s.H ++ [.row false true e sz []])) a (w.alloc (.cells (madeCells v.cells (m.toNat * i.size)) e)) := by
    refine h.toH hle rfl hinv (fun i b q => heap_alloc_old w _ b (h.slot_lt q)) (fun i b q => ?_) (by have := h.base; simp; omega) (h.bok.append h.base _)
    obtain ⟨_, q1, q2, q3, q4⟩ := h.sl i b q
    refine ⟨q1, fun j q5 => ?_, q3, q4⟩
    simp only [Kz.addRow] at q5
    split at q5
    · simp [Value.ownBlock] at q5; have := h.slot_lt q; omega
    · exact q2 j q5
  refine OpW.value (v := .slice (some ⟨w.heap.size, 0, none⟩) 0 m.toNat) (w' := w.alloc (.cells (madeCells v.cells (m.toNat * i.size)) e)) (by simp [execOp, ho, Act.eval, hrun]) ⟨_, _, _, rfl, hle.kl, Step.alloc_row K w _ 0 _ (fun b q => by simp [Value.ownBlock] at q; omega) rfl rfl rfl (by simp) (fun b hb => heap_alloc_old w _ b hb), ?_⟩
  refine ⟨hrel.put o.dst hd (.own s.H.length 0 _ ?_ ?_ (fun _ => ?_) rfl), Keeps.push h.base _⟩
  · simp [Kz.addRow, h.inv.n]
  · simp [Kz.addRow, h.inv.n]
  · simp [Kz.addRow, h.inv.n]

theorem snd_newRow (h : StRel S K s a w) (hd : ∀ x, o.dst = some x → S x = false) {e sz : Nat} (hc : chkOp P o (.newRow e sz) = true) (hr : opA ρ (.newRow e sz) o.dst s = some r) : Goal P S K s a w o r := by
  simp only [opA, Option.some.injEq] at hr
  subst hr
  simp only [chkOp] at hc
  by_cases hm : ∃ t k1 k2 m, o.op = .makeSlice t (.const (.int k1 0)) (.const (.int k2 m)) ∧ isSliceOf P t e = true ∧ zeroIs P e sz = true ∧ 0 < sz ∧ 0 ≤ m ∧ m ≤ 140737488355328 ∧ capP P e m = true
  · obtain ⟨t, k1, k2, m, ho, q1, q2, q3, q4, q5, q6⟩ := hm
    exact op_makeCap h hd ho q1 q2 q3 q4 q5 q6
  have key : (execOp a.eval o).run P w = .ok (.value (.slice none 0 0)) w ∧ 0 < sz := by
    split at hc
    · rename_i ho
      simp only [decide_eq_true_eq] at hc
      exact ⟨by simp [execOp, ho, Act.eval], hc⟩
    · rename_i ho
      simp only [decide_eq_true_eq] at hc
      exact ⟨by simp [execOp, ho, Act.eval], hc⟩
    · rename_i t k1 n k2 m ho
      simp only [Bool.and_eq_true, decide_eq_true_eq] at hc
      obtain ⟨⟨⟨⟨⟨⟨rfl, q1⟩, q2⟩, q3⟩, q4⟩, q5⟩, q6⟩ := hc
      exact absurd ⟨t, k1, k2, m, ho, q4, q5, q3, q1, q2, q6⟩ hm
    · simp at hc
  obtain ⟨hle, hst, hrel⟩ := h.newRow e sz key.2
  refine OpW.value key.1 ⟨_, _, _, rfl, hle.kl, hst, hrel.put o.dst hd (.own _ _ _ ?_ ?_ (fun _ => ?_) rfl), Keeps.push h.base _⟩
  · simp [Kz.addRow, h.inv.n]
  · simp [Kz.addRow, h.inv.n]
  · simp [Kz.addRow, h.inv.n, nilv]

theorem snd_pick (h : StRel S K s a w) (hd : ∀ x, o.dst = some x → S x = false) {c x y : Opd} (hc : chkOp P o (.pick c x y) = true) (hr : opA ρ (.pick c x y) o.dst s = some r) : Goal P S K s a w o r := by
  simp only [opA] at hr
  simp only [chkOp] at hc
  split at hc
  · rename_i c' x' y' ho
    simp only [Bool.and_eq_true] at hc
    split at hr
    · rename_i b hb
      simp only [Option.some.injEq] at hr
      subst hr
      have h1 := h.ev hc.1.1
      rw [hb] at h1
      have h1 := rep_bool h1
      refine still h hd (v' := if b then a.eval x' else a.eval y') (by simp [execOp, ho, h1, asBool]) ?_
      cases b
      · exact h.ev hc.2
      · exact h.ev hc.1.2
    · simp at hr
  · simp at hc

theorem snd_allocL (h : StRel S K s a w) {z : List AV} (hS : chkDst S o.dst (.allocL z) = true) (hc : chkOp P o (.allocL z) = true) (hr : opA ρ (.allocL z) o.dst s = some r) : Goal P S K s a w o r := by
  simp only [opA] at hr
  simp only [chkOp] at hc
  split at hc
  · rename_i t ho
    cases hdst : o.dst with
    | none => rw [hdst] at hr; simp at hr
    | some d =>
      rw [hdst] at hr hS
      simp only at hr
      split at hr
      · rename_i hq
        simp only [Option.some.injEq] at hr
        subst hr
        simp only [chkDst] at hS
        obtain ⟨v, hrun, hz⟩ := run_alloc (w := w) hc
        obtain ⟨K', k1, k2, k3⟩ := h.newSlot hS hq.2 hq.1 v t z (vOKL_rep hz K) (vOKL_cell1 hz)
        refine OpW.value (v := .pointer (some ⟨w.heap.size, 0, none⟩)) (w' := w.alloc (.cells v t)) (by simp [execOp, ho, hrun]) ⟨_, s, K', rfl, k1, k2, ?_, Keeps.refl s⟩
        rw [hdst]
        exact k3
      · simp at hr
  · simp at hc

theorem snd_boxL (h : StRel S K s a w) {y : Opd} (hS : chkDst S o.dst (.boxL y) = true) (hc : chkOp P o (.boxL y) = true) (hr : opA ρ (.boxL y) o.dst s = some r) : Goal P S K s a w o r := by
  simp only [opA] at hr
  simp only [chkOp] at hc
  split at hc
  · rename_i t x ho
    cases hdst : o.dst with
    | none => rw [hdst] at hr; simp at hr
    | some d =>
      rw [hdst] at hr hS
      simp only at hr
      split at hr
      · rename_i hq
        simp only [Option.some.injEq] at hr
        subst hr
        simp only [chkDst] at hS
        have hx := h.ev hc
        obtain ⟨K', k1, k2, k3⟩ := h.newSlot hS hq.2.1 hq.1 (a.eval x).cells t _ (hx.cells hq.2.2) hq.2.2
        refine OpW.value (v := .pointer (some ⟨w.heap.size, 0, none⟩)) (w' := w.alloc (.cells (a.eval x).cells t)) (by simp [execOp, ho, run_box]) ⟨_, s, K', rfl, k1, k2, ?_, Keeps.refl s⟩
        rw [hdst]
        exact k3
      · simp at hr
  · simp at hc

theorem snd_allocH (h : StRel S K s a w) (hd : ∀ x, o.dst = some x → S x = false) {z : List AV} {rows : List (Nat × Nat × Nat)} (hc : chkOp P o (.allocH z rows) = true) (hr : opA ρ (.allocH z rows) o.dst s = some r) : Goal P S K s a w o r := by
  simp only [opA] at hr
  simp only [chkOp] at hc
  split at hc
  · rename_i t ho
    simp only [Bool.and_eq_true, List.all_eq_true, decide_eq_true_eq] at hc
    cases hw : withRows z s.H.length rows with
    | none => rw [hw] at hr; simp at hr
    | some q =>
      obtain ⟨z', os⟩ := q
      rw [hw] at hr
      simp only [Option.map_some, Option.some.injEq] at hr
      subst hr
      obtain ⟨v, hrun, hz⟩ := run_alloc (w := w) hc.1
      exact op_heapVar (el := t) h hd (by simp [execOp, ho, hrun]) (vOKL_rep hz K) (vOKL_cell1 hz) hc.2 hw
  · simp at hc

theorem snd_boxH (h : StRel S K s a w) (hd : ∀ x, o.dst = some x → S x = false) {y : Opd} {rows : List (Nat × Nat × Nat)} (hc : chkOp P o (.boxH y rows) = true) (hr : opA ρ (.boxH y rows) o.dst s = some r) : Goal P S K s a w o r := by
  simp only [opA] at hr
  simp only [chkOp] at hc
  split at hc
  · rename_i t x ho
    simp only [Bool.and_eq_true, List.all_eq_true, decide_eq_true_eq] at hc
    split at hr
    · rename_i hq
      cases hw : withRows (ev s.t y).cells s.H.length rows with
      | none => rw [hw] at hr; simp at hr
      | some q =>
        obtain ⟨z', os⟩ := q
        rw [hw] at hr
        simp only [Option.map_some, Option.some.injEq] at hr
        subst hr
        exact op_heapVar (el := t) h hd (by simp [execOp, ho, run_box]) ((h.ev hc.1).cells hq) hq hc.2 hw
    · simp at hr
  · simp at hc

theorem snd_mk (h : StRel S K s a w) (hd : ∀ x, o.dst = some x → S x = false) {z : List AV} {qs : List (Nat × Nat × Opd)} (hc : chkOp P o (.mk z qs) = true) (hr : opA ρ (.mk z qs) o.dst s = some r) : Goal P S K s a w o r := by
  simp only [opA] at hr
  simp only [chkOp] at hc
  split at hc
  · rename_i t ps ho
    simp only [Bool.and_eq_true] at hc
    cases hf : fillP z (qs.map fun p => (p.1, p.2.1, ev s.t p.2.2)) with
    | none => rw [hf] at hr; simp at hr
    | some c =>
      rw [hf] at hr
      simp only [Option.map_some, Option.some.injEq] at hr
      subst hr
      obtain ⟨v', hrun, hv⟩ := run_build h hc.1.1 hc.1.2 hc.2 hf
      exact still h hd (by simp [execOp, ho, hrun]) hv
  · simp at hc

theorem snd_mkList (h : StRel S K s a w) (hd : ∀ x, o.dst = some x → S x = false) {sz n : Nat} {z : List AV} {qs : List (Nat × Opd)} (hc : chkOp P o (.mkList sz n z qs) = true) (hr : opA ρ (.mkList sz n z qs) o.dst s = some r) : Goal P S K s a w o r := by
  simp only [opA] at hr
  simp only [chkOp] at hc
  split at hc
  · rename_i t m ps ho
    simp only [Bool.and_eq_true, decide_eq_true_eq] at hc
    obtain ⟨⟨⟨⟨rfl, h1⟩, h2⟩, h3⟩, h4⟩ := hc
    cases hf : fillP (repZ z n) (qs.map fun p => (p.1 * sz, sz, ev s.t p.2)) with
    | none => rw [hf] at hr; simp at hr
    | some c =>
      rw [hf] at hr
      simp only [Option.bind_some] at hr
      split at hr
      · rename_i hq
        simp only [Option.some.injEq] at hr
        subst hr
        exact op_mkList h hd ho h1 h2 h3 h4 hf hq.1
      · simp at hr
  · simp at hc

theorem snd_mkRow (h : StRel S K s a w) (hd : ∀ x, o.dst = some x → S x = false) {e sz n : Nat} {z : List AV} {qs : List (Nat × Opd)} (hc : chkOp P o (.mkRow e sz n z qs) = true) (hr : opA ρ (.mkRow e sz n z qs) o.dst s = some r) : Goal P S K s a w o r := by
  simp only [opA] at hr
  simp only [chkOp] at hc
  split at hc
  · rename_i t m ps ho
    simp only [Bool.and_eq_true, decide_eq_true_eq] at hc
    obtain ⟨⟨⟨⟨rfl, h1⟩, h2⟩, h3⟩, h4⟩ := hc
    cases hf : fillP (repZ z n) (qs.map fun p => (p.1 * sz, sz, ev s.t p.2)) with
    | none => rw [hf] at hr; simp at hr
    | some c =>
      rw [hf] at hr
      simp only [Option.bind_some] at hr
      split at hr
      · rename_i hq
        simp only [Option.some.injEq] at hr
        subst hr
        exact op_mkRow h hd ho h1 h2 h3 h4 hf hq
      · simp at hr
  · simp at hc

theorem snd_load (h : StRel S K s a w) (hd : ∀ x, o.dst = some x → S x = false) {sz : Nat} {ag : Bool} {y : Opd} (hc : chkOp P o (.load sz ag y) = true) (hr : opA ρ (.load sz ag y) o.dst s = some r) : Goal P S K s a w o r := by
  simp only [opA] at hr
  simp only [chkOp] at hc
  split at hc
  · rename_i t x ho
    simp only [Bool.and_eq_true, Bool.or_eq_true, Bool.not_eq_true'] at hc
    cases hl : loadA s sz ag (ev s.t y) with
    | none => rw [hl] at hr; simp at hr
    | some v =>
      rw [hl] at hr
      simp only [Option.map_some, Option.some.injEq] at hr
      subst hr
      obtain ⟨b, off, c, e1, hat, hrd⟩ := loadA_at h (h.ev hc.1.1) hl
      obtain ⟨v', hrun, hv⟩ := run_loadVar_at (P := P) hat hrd hc.1.2 (fun e => by rcases hc.2 with q | q <;> simp_all)
      exact still h hd (by simp [execOp, ho, Instr.loadAt, e1, Instr.sureAddr, hrun]) hv
  · simp at hc

theorem snd_store (h : StRel S K s a w) (hd : ∀ x, o.dst = some x → S x = false) {sz : Nat} {y u : Opd} (hc : chkOp P o (.store sz y u) = true) (hr : opA ρ (.store sz y u) o.dst s = some r) : Goal P S K s a w o r := by
  simp only [opA] at hr
  simp only [chkOp] at hc
  split at hc
  · rename_i t x v ho
    simp only [Bool.and_eq_true] at hc
    cases hs : storeA s sz (ev s.t y) (ev s.t u) with
    | none => rw [hs] at hr; simp at hr
    | some s' =>
      rw [hs] at hr
      simp only [Option.map_some, Option.some.injEq] at hr
      subst hr
      exact op_store h hd ho hc.2 rfl rfl (h.ev hc.1.1) (h.ev hc.1.2) hs
  · simp at hc

theorem snd_nilCheck (h : StRel S K s a w) (hd : ∀ x, o.dst = some x → S x = false) {y : Opd} (hc : chkOp P o (.nilCheck y) = true) (hr : opA ρ (.nilCheck y) o.dst s = some r) : Goal P S K s a w o r := by
  simp only [opA] at hr
  simp only [chkOp] at hc
  split at hc
  · rename_i x ho
    have hx := h.ev hc
    split at hr
    · rename_i q; rw [q] at hx
      simp only [Option.some.injEq] at hr; subst hr
      obtain ⟨p, hp⟩ := rep_ptr hx rfl
      rw [hp] at hx
      exact still h hd (by simp [execOp, ho, hp]) hx
    · rename_i q; rw [q] at hx
      simp only [Option.some.injEq] at hr; subst hr
      obtain ⟨p, hp⟩ := rep_ptr hx rfl
      rw [hp] at hx
      exact still h hd (by simp [execOp, ho, hp]) hx
    · rename_i id off n q; rw [q] at hx
      split at hr
      · rename_i hrow
        simp only [Option.some.injEq] at hr; subst hr
        obtain ⟨_, b, cap, _, hp⟩ := h.inv.rptr hx hrow
        rw [hp] at hx
        exact still h hd (by simp [execOp, ho, hp]) hx
      · simp at hr
    · rename_i q; rw [q] at hx
      simp only [Option.some.injEq] at hr; subst hr
      obtain ⟨p, hp⟩ := rep_ptr hx rfl
      rw [hp] at hx
      exact still h hd (by simp [execOp, ho, hp]) hx
    · rename_i f c1 c2 q; rw [q] at hx
      simp only [Option.some.injEq] at hr; subst hr
      cases hq : a.eval x with
      | func fn v1 v2 =>
        rw [hq] at hx
        have hfn : fn = .func f := by cases hx; rfl
        subst hfn
        exact still h hd (by simp [execOp, ho, hq]) hx
      | _ => rw [hq] at hx; cases hx
    · simp at hr
  · simp at hc

theorem snd_bin (h : StRel S K s a w) (hd : ∀ x, o.dst = some x → S x = false) {op : BinOp} {ty : Nat} {y u : Opd} (hc : chkOp P o (.bin op ty y u) = true) (hr : opA ρ (.bin op ty y u) o.dst s = some r) : Goal P S K s a w o r := by
  simp only [opA] at hr
  simp only [chkOp] at hc
  split at hc
  · rename_i op' t x v yt ho
    simp only [Bool.and_eq_true, decide_eq_true_eq] at hc
    obtain ⟨⟨⟨rfl, h1⟩, h2⟩, h3⟩ := hc
    cases hb : binV op ty (ev s.t y) (ev s.t u) with
    | none => rw [hb] at hr; simp at hr
    | some z =>
      rw [hb] at hr
      simp only [Option.map_some, Option.some.injEq] at hr
      subst hr
      obtain ⟨v', hrun, hv⟩ := run_bin (P := P) (w := w) (ox := x) (oy := v) h1 (h.ev h2) (h.ev h3) hb
      refine still h hd ?_ hv
      simp only [execOp, ho]
      rw [Sem.run_bind, hrun]
      rfl
  · simp at hc

theorem snd_eqAgg (h : StRel S K s a w) (hd : ∀ x, o.dst = some x → S x = false) {neg : Bool} {ks : List Nat} {y u : Opd} (hc : chkOp P o (.eqAgg neg ks y u) = true) (hr : opA ρ (.eqAgg neg ks y u) o.dst s = some r) : Goal P S K s a w o r := by
  simp only [opA] at hr
  simp only [chkOp] at hc
  split at hc
  · rename_i op' t x v yt ho
    simp only [Bool.and_eq_true] at hc
    split at hr
    · rename_i c1 c2 e1 e2
      cases hb : eqLeaves ks c1 c2 with
      | none => rw [hb] at hr; simp at hr
      | some q =>
        rw [hb] at hr
        simp only [Option.map_some, Option.some.injEq] at hr
        subst hr
        have hx := h.ev hc.1.2
        have hy := h.ev hc.2
        rw [e1] at hx
        rw [e2] at hy
        have hrun := run_eqAgg (P := P) (w := w) (ox := x) (oy := v) hc.1.1 hx hy hb
        refine still h hd (v' := .bool (bif neg then !q else q)) ?_ (.bool _)
        simp only [execOp, ho]
        rw [Sem.run_bind, hrun]
        rfl
    · simp at hr
  · simp at hc

theorem snd_un (h : StRel S K s a w) (hd : ∀ x, o.dst = some x → S x = false) {op : UnOp} {y : Opd} (hc : chkOp P o (.un op y) = true) (hr : opA ρ (.un op y) o.dst s = some r) : Goal P S K s a w o r := by
  simp only [opA] at hr
  simp only [chkOp] at hc
  split at hc
  · rename_i op' t x ho
    simp only [Bool.and_eq_true, decide_eq_true_eq] at hc
    obtain ⟨rfl, h1⟩ := hc
    cases hb : unV op (ev s.t y) with
    | none => rw [hb] at hr; simp at hr
    | some z =>
      rw [hb] at hr
      simp only [Option.map_some, Option.some.injEq] at hr
      subst hr
      obtain ⟨v', hrun, hv⟩ := run_un (P := P) (w := w) (h.ev h1) hb
      exact still h hd (by simp [execOp, ho, hrun]) hv
  · simp at hc

theorem snd_conv (h : StRel S K s a w) (hd : ∀ x, o.dst = some x → S x = false) {k : CK} {y : Opd} (hc : chkOp P o (.conv k y) = true) (hr : opA ρ (.conv k y) o.dst s = some r) : Goal P S K s a w o r := by
  simp only [opA] at hr
  simp only [chkOp] at hc
  split at hc
  · rename_i src dst x ho
    simp only [Bool.and_eq_true] at hc
    cases hb : convV k (ev s.t y) s.H with
    | none => rw [hb] at hr; simp at hr
    | some z =>
      rw [hb] at hr
      simp only [Option.map_some, Option.some.injEq] at hr
      subst hr
      by_cases hk : ∃ e, k = .s2b e
      · obtain ⟨e, rfl⟩ := hk
        unfold convV at hb
        split at hb <;> first | (simp at *; done) | skip
        rename_i l e1 e2
        simp only [Option.some.injEq] at hb
        subst hb
        have hx := h.ev hc.2
        rw [e2] at hx
        exact op_s2b h hd ho hc.1 rfl hx
      · obtain ⟨v', hrun, hv⟩ := run_conv (P := P) h hc.1 (h.ev hc.2) (fun e q => hk ⟨e, q⟩) hb
        exact still h hd (by simp [execOp, ho, hrun]) hv
  · simp at hc
end
end Go.Proofs.YtdhlgbnljhgabaaGreatDoor.AM

/- Each operation is sound: the rest. -/
namespace Go.Proofs.YtdhlgbnljhgabaaGreatDoor.AM
open Go
section
variable {P : Program} {ρ : Rho} {S : Nat → Bool} {K : Kz} {s : St} {a : Act} {w : World} {o : Oper} {r : OpRes}

theorem snd_mkIface (h : StRel S K s a w) (hd : ∀ x, o.dst = some x → S x = false) {t : TypeId} {y : Opd} (hc : chkOp P o (.mkIface t y) = true) (hr : opA ρ (.mkIface t y) o.dst s = some r) : Goal P S K s a w o r := by
  simp only [opA, Option.map_some, Option.some.injEq] at hr
  subst hr
  simp only [chkOp] at hc
  split at hc
  · rename_i t' x ho
    simp only [Bool.and_eq_true, decide_eq_true_eq] at hc
    obtain ⟨⟨rfl, h1⟩, h2⟩ := hc
    refine still h hd (v' := .iface t (a.eval x)) ?_ (.iface t _ _ (h.ev h2))
    unfold notIface at h1
    cases hu : P.underlying t with
    | none => rw [hu] at h1; simp at h1
    | some d =>
      rw [hu] at h1
      have : (Instr.makeInterface t (a.eval x)).run P w = .ok (.iface t (a.eval x)) w := by
        simp only [Instr.makeInterface, Sem.run_bind, run_underlying hu, Result.andThen_ok]
        cases d <;> first | rfl | (simp at h1; done)
      simp [execOp, ho, this]
  · simp at hc

theorem snd_mkFunc (h : StRel S K s a w) (hd : ∀ x, o.dst = some x → S x = false) {fn : Fn} {f c : List Opd} (hc : chkOp P o (.mkFunc fn f c) = true) (hr : opA ρ (.mkFunc fn f c) o.dst s = some r) : Goal P S K s a w o r := by
  simp only [opA, Option.map_some, Option.some.injEq] at hr
  subst hr
  simp only [chkOp] at hc
  split at hc
  · rename_i fn' f' c' ho
    simp only [Bool.and_eq_true, decide_eq_true_eq] at hc
    obtain ⟨⟨rfl, h1⟩, h2⟩ := hc
    have hv := Rep.func (K := K) fn _ _ _ _ (h.evL h1) (h.evL h2)
    refine still h hd (v' := .func fn (f'.map a.eval) (c'.map a.eval)) (by simp [execOp, ho, Instr.makeFunc]) ?_
    have e1 : (List.map a.eval f'.toList).toArray = f'.map a.eval := by apply Array.ext'; simp
    have e2 : (List.map a.eval c'.toList).toArray = c'.map a.eval := by apply Array.ext'; simp
    rw [e1, e2] at hv
    exact hv
  · simp at hc

theorem snd_mkMap (h : StRel S K s a w) (hd : ∀ x, o.dst = some x → S x = false) (hc : chkOp P o .mkMap = true) (hr : opA ρ .mkMap o.dst s = some r) : Goal P S K s a w o r := by
  simp only [opA, Option.some.injEq] at hr
  subst hr
  simp only [chkOp] at hc
  split at hc
  · rename_i t ho
    exact op_mkMap h hd ho
  · simp at hc

theorem snd_mapUpd (h : StRel S K s a w) (hd : ∀ x, o.dst = some x → S x = false) {m k v : Opd} (hc : chkOp P o (.mapUpd m k v) = true) (hr : opA ρ (.mapUpd m k v) o.dst s = some r) : Goal P S K s a w o r := by
  simp only [opA] at hr
  simp only [chkOp] at hc
  split at hc
  · rename_i t m' k' v' ho
    simp only [Bool.and_eq_true] at hc
    have hm := h.ev hc.1.1.2
    have hk := h.ev hc.1.2
    have hv := h.ev hc.2
    split at hr
    · rename_i b id e1 e2
      rw [e1] at hk
      rw [e2] at hm
      split at hr
      · rename_i kvs hH
        split at hr
        · rename_i hl
          split at hr
          · rename_i hq
            simp only [Option.some.injEq] at hr
            subst hr
            exact op_mapUpd h hd ho hc.1.1.1 rfl rfl rfl hm hk hv hq.1 hH hl
          · simp at hr
        · simp at hr
      · simp at hr
    · simp at hr
  · simp at hc

theorem snd_lookup (h : StRel S K s a w) (hd : ∀ x, o.dst = some x → S x = false) {z : AV} {ok : Bool} {m k : Opd} (hc : chkOp P o (.lookup z ok m k) = true) (hr : opA ρ (.lookup z ok m k) o.dst s = some r) : Goal P S K s a w o r := by
  simp only [opA] at hr
  simp only [chkOp] at hc
  split at hc
  · rename_i t m' k' ok' ho
    simp only [Bool.and_eq_true, decide_eq_true_eq] at hc
    obtain ⟨⟨⟨h1, rfl⟩, h2⟩, h3⟩ := hc
    have hm := h.ev h2
    have hk := h.ev h3
    split at hr
    · rename_i b kvs e1 e2
      rw [e1] at hk
      have hmm : (ev s.t m = .nilMap ∧ kvs = []) ∨ (ev s.t m = .fmap kvs) ∨ (∃ id, ev s.t m = .map id ∧ s.H[id]? = some (.map kvs)) := by
        unfold mapOf at e2
        split at e2
        · rename_i id q
          split at e2
          · rename_i kvs' q2
            simp only [Option.some.injEq] at e2
            subst e2
            exact .inr (.inr ⟨id, q, q2⟩)
          · simp at e2
        · rename_i q
          simp only [Option.some.injEq] at e2
          subst e2
          exact .inr (.inl q)
        · rename_i q
          simp only [Option.some.injEq] at e2
          exact .inl ⟨q, e2.symm⟩
        · simp at e2
      split at hr
      · rename_i v hl
        simp only [Option.some.injEq] at hr
        subst hr
        exact op_lookup h hd ho h1 rfl rfl hm hk hmm hl rfl
      · rename_i hl
        simp only [Option.some.injEq] at hr
        subst hr
        exact op_lookup h hd ho h1 rfl rfl hm hk hmm hl rfl
      · simp at hr
    · simp at hr
  · simp at hc

theorem snd_makeRow (h : StRel S K s a w) (hd : ∀ x, o.dst = some x → S x = false) {e sz bytes : Nat} {z : List AV} {l : Opd} (hc : chkOp P o (.makeRow e sz bytes z l) = true) (hr : opA ρ (.makeRow e sz bytes z l) o.dst s = some r) : Goal P S K s a w o r := by
  simp only [opA] at hr
  simp only [chkOp] at hc
  split at hc
  · rename_i t l' c' ho
    simp only [Bool.and_eq_true, decide_eq_true_eq] at hc
    obtain ⟨⟨⟨⟨⟨⟨⟨h1, h2⟩, h3⟩, h4⟩, h5⟩, h6⟩, h7⟩, h8⟩ := hc
    split at hr
    · rename_i k n e1
      split at hr
      · rename_i hq
        simp only [Option.some.injEq] at hr
        subst hr
        have hl := h.ev h5
        have hcc := h.ev h6
        rw [e1] at hl hcc
        exact op_makeRow h hd ho h1 h2 h3 h4 (rep_int hl) (rep_int hcc) hq.1 hq.2.1 hq.2.2 h7 h8
      · simp at hr
    · simp at hr
  · simp at hc

theorem bnd_ok (h : StRel S K s a w) {d : Nat} {lo : Option Operand} {lo' : Option Opd} {n : Int} (hc : optOK lo lo' = true) (hb : bnd d s.t lo' = some n) : BndOK d (lo.map a.eval) n := by
  unfold optOK at hc
  split at hc
  · simp only [bnd, Option.some.injEq] at hb
    exact hb.symm
  · rename_i x y
    simp only [bnd] at hb
    split at hb
    · rename_i k m e
      simp only [Option.some.injEq] at hb
      subst hb
      have hx := h.ev hc
      rw [e] at hx
      exact ⟨k, rep_int hx⟩
    · simp at hb
  · simp at hc

theorem snd_slice (h : StRel S K s a w) (hd : ∀ x, o.dst = some x → S x = false) {k : XK} {y : Opd} {lo hi : Option Opd} (hc : chkOp P o (.slice k y lo hi) = true) (hr : opA ρ (.slice k y lo hi) o.dst s = some r) : Goal P S K s a w o r := by
  simp only [opA] at hr
  simp only [chkOp] at hc
  split at hc
  · rename_i t x lo' hi' ho
    simp only [Bool.and_eq_true] at hc
    obtain ⟨⟨⟨h1, h2⟩, h3⟩, h4⟩ := hc
    split at hr
    · rename_i l hl
      split at hr
      · rename_i hh hhb
        cases hs : sliceV k (ev s.t y) l hh with
        | none => rw [hs] at hr; simp at hr
        | some v =>
          rw [hs] at hr
          simp only [Option.map_some, Option.some.injEq] at hr
          subst hr
          obtain ⟨v', hrun, hv⟩ := run_slice (P := P) h.inv (h.ev h2) h1 (bnd_ok h h3 hl) (bnd_ok h h4 hhb) hs
          exact still h hd (by simp [execOp, ho, hrun]) hv
      · simp at hr
    · simp at hr
  · simp at hc

theorem snd_fieldAddr (h : StRel S K s a w) (hd : ∀ x, o.dst = some x → S x = false) {off : Nat} {y : Opd} (hc : chkOp P o (.fieldAddr off y) = true) (hr : opA ρ (.fieldAddr off y) o.dst s = some r) : Goal P S K s a w o r := by
  simp only [opA] at hr
  simp only [chkOp] at hc
  split at hc
  · rename_i t x f ho
    simp only [Bool.and_eq_true] at hc
    cases hs : offBy s.H off (ev s.t y) with
    | none => rw [hs] at hr; simp at hr
    | some v =>
      rw [hs] at hr
      simp only [Option.map_some, Option.some.injEq] at hr
      subst hr
      obtain ⟨v', hrun, hv⟩ := run_fieldAt (P := P) h.inv (h.ev hc.2) hc.1 hs
      exact still h hd (by simp [execOp, ho, hrun]) hv
  · simp at hc

theorem snd_field (h : StRel S K s a w) (hd : ∀ x, o.dst = some x → S x = false) {off sz : Nat} {ag : Bool} {y : Opd} (hc : chkOp P o (.field off sz ag y) = true) (hr : opA ρ (.field off sz ag y) o.dst s = some r) : Goal P S K s a w o r := by
  simp only [opA] at hr
  simp only [chkOp] at hc
  split at hc
  · rename_i t x f ho
    simp only [Bool.and_eq_true] at hc
    split at hr
    · rename_i c e1
      cases hs : rd c off sz ag with
      | none => rw [hs] at hr; simp at hr
      | some v =>
        rw [hs] at hr
        simp only [Option.map_some, Option.some.injEq] at hr
        subst hr
        have hx := h.ev hc.2
        rw [e1] at hx
        obtain ⟨v', hrun, hv⟩ := run_field (P := P) (w := w) hx hc.1 hs
        exact still h hd (by simp [execOp, ho, hrun]) hv
    · simp at hr
  · simp at hc

theorem snd_indexAddr (h : StRel S K s a w) (hd : ∀ x, o.dst = some x → S x = false) {k : XK} {y j : Opd} (hc : chkOp P o (.indexAddr k y j) = true) (hr : opA ρ (.indexAddr k y j) o.dst s = some r) : Goal P S K s a w o r := by
  simp only [opA] at hr
  simp only [chkOp] at hc
  split at hc
  · rename_i t x i ho
    simp only [Bool.and_eq_true] at hc
    cases hs : indexA s.H k (ev s.t y) (ev s.t j) with
    | none => rw [hs] at hr; simp at hr
    | some v =>
      rw [hs] at hr
      simp only [Option.map_some, Option.some.injEq] at hr
      subst hr
      obtain ⟨v', hrun, hv⟩ := run_indexAt (P := P) h.inv (h.ev hc.1.2) (h.ev hc.2) hc.1.1 hs
      exact still h hd (by simp [execOp, ho, hrun]) hv
  · simp at hc

theorem snd_index (h : StRel S K s a w) (hd : ∀ x, o.dst = some x → S x = false) {k : XK} {ag : Bool} {y j : Opd} (hc : chkOp P o (.index k ag y j) = true) (hr : opA ρ (.index k ag y j) o.dst s = some r) : Goal P S K s a w o r := by
  simp only [opA] at hr
  simp only [chkOp] at hc
  split at hc
  · rename_i t x i ho
    simp only [Bool.and_eq_true] at hc
    cases hs : indexV k ag (ev s.t y) (ev s.t j) with
    | none => rw [hs] at hr; simp at hr
    | some v =>
      rw [hs] at hr
      simp only [Option.map_some, Option.some.injEq] at hr
      subst hr
      obtain ⟨v', hrun, hv⟩ := run_index (P := P) (w := w) (h.ev hc.1.2) (h.ev hc.2) hc.1.1.1 hc.1.1.2 hs
      exact still h hd (by simp [execOp, ho, hrun]) hv
  · simp at hc

theorem snd_extract (h : StRel S K s a w) (hd : ∀ x, o.dst = some x → S x = false) {y : Opd} {j : Nat} (hc : chkOp P o (.extract y j) = true) (hr : opA ρ (.extract y j) o.dst s = some r) : Goal P S K s a w o r := by
  simp only [opA] at hr
  simp only [chkOp] at hc
  split at hc
  · rename_i x i ho
    simp only [Bool.and_eq_true, decide_eq_true_eq] at hc
    obtain ⟨rfl, h1⟩ := hc
    split at hr
    · rename_i vs e1
      cases hs : vs[i]? with
      | none => rw [hs] at hr; simp at hr
      | some v =>
        rw [hs] at hr
        simp only [Option.map_some, Option.some.injEq] at hr
        subst hr
        have hx := h.ev h1
        rw [e1] at hx
        obtain ⟨v', hrun, hv⟩ := run_extract (P := P) (w := w) hx hs
        exact still h hd (by simp [execOp, ho, hrun]) hv
    · simp at hr
  · simp at hc

theorem toList1 {α : Type} {xs : Array α} {x : α} (h : xs.toList = [x]) : xs = #[x] := by
  apply Array.ext'; simpa using h
theorem toList2 {α : Type} {xs : Array α} {x y : α} (h : xs.toList = [x, y]) : xs = #[x, y] := by
  apply Array.ext'; simpa using h

theorem snd_len (h : StRel S K s a w) (hd : ∀ x, o.dst = some x → S x = false) {st : Bool} {y : Opd} (hc : chkOp P o (.len st y) = true) (hr : opA ρ (.len st y) o.dst s = some r) : Goal P S K s a w o r := by
  simp only [opA] at hr
  simp only [chkOp] at hc
  split at hc
  · rename_i c ho
    split at hc
    · rename_i x t h1 h2 h3
      simp only [Bool.and_eq_true] at hc
      cases hs : lenV st s.H (ev s.t y) with
      | none => rw [hs] at hr; simp at hr
      | some v =>
        rw [hs] at hr
        simp only [Option.map_some, Option.some.injEq] at hr
        subst hr
        obtain ⟨v', hrun, hv⟩ := run_len (P := P) (ty := o.type) h.inv (h.ev hc.2) hc.1 hs
        obtain ⟨cc, ca, ct⟩ := c
        simp only at h1 h2 h3
        subst h1
        have := toList1 h2; subst this
        have := toList1 h3; subst this
        exact still h hd (by simp [execOp, ho, resolve, invoke, builtin, hrun]) hv
    · simp at hc
  · simp at hc

theorem snd_mm (h : StRel S K s a w) (hd : ∀ x, o.dst = some x → S x = false) {mx : Bool} {ys : List Opd} (hc : chkOp P o (.mm mx ys) = true) (hr : opA ρ (.mm mx ys) o.dst s = some r) : Goal P S K s a w o r := by
  simp only [opA] at hr
  simp only [chkOp] at hc
  split at hc
  · rename_i c ho
    simp only [Bool.and_eq_true] at hc
    obtain ⟨h1, h2⟩ := hc
    have hl := h.evL h2
    split at hr
    · rename_i x rest e1
      rw [e1] at hl
      cases hs : mmV mx x rest with
      | none => rw [hs] at hr; simp at hr
      | some v =>
        rw [hs] at hr
        simp only [Option.map_some, Option.some.injEq] at hr
        subst hr
        obtain ⟨cc, ca, ct⟩ := c
        simp only at h1 h2 hl
        generalize hvs : ca.toList.map a.eval = vs at hl
        cases hl with
        | cons u _ us _ hu hl =>
          obtain ⟨v', hrun, hv⟩ := run_mm (P := P) (w := w) hu hl hs
          have hargs : ca.map a.eval = (u :: us).toArray := by
            apply Array.ext'
            simpa using hvs
          split at h1
          · subst h1
            simp only [if_true] at hrun
            refine still h hd (v' := v') ?_ hv
            simp only [execOp, ho, resolve, Sem.run_bind, Sem.run_pure, Result.andThen_ok, invoke, builtin, hargs, Builtin.max_]
            rw [hrun]; rfl
          · simp only [Bool.not_eq_true'] at h1
            subst h1
            simp only [Bool.false_eq_true, if_false] at hrun
            refine still h hd (v' := v') ?_ hv
            simp only [execOp, ho, resolve, Sem.run_bind, Sem.run_pure, Result.andThen_ok, invoke, builtin, hargs, Builtin.min_]
            rw [hrun]; rfl
          · simp at h1
    · simp at hr
  · simp at hc
end
end Go.Proofs.YtdhlgbnljhgabaaGreatDoor.AM

/- Each operation is sound: appends, calls, iterators; all together. -/
namespace Go.Proofs.YtdhlgbnljhgabaaGreatDoor.AM
open Go
section
variable {P : Program} {ρ : Rho} {S : Nat → Bool} {K : Kz} {s : St} {a : Act} {w : World} {o : Oper} {r : OpRes}

theorem source_cells {w : World} {b off cap m sz : Nat} {ns : List Value} (hl : ns.length = m * sz) (h : ∀ j u, ns[j]? = some u → w.cell? ((⟨b, off, none⟩ : Addr).add j) = some u) : Source P w (.slice (some ⟨b, off, none⟩) m cap) sz m ns := by
  refine ⟨fun W => rfl, fun W hW => ?_⟩
  have := run_loadCells_list (P := P) W ⟨b, off, none⟩ ns (fun j u e => by
    have := h j u e
    unfold World.cell? at this ⊢
    rw [hW]
    exact this)
  rw [hl] at this
  exact this

theorem source_nil {w : World} {sz : Nat} : Source P w (.slice none 0 0) sz 0 [] := ⟨fun _ => rfl, fun _ _ => rfl⟩

theorem source_str {w : World} (b : List UInt8) : Source P w (.string ⟨b.toArray⟩) 1 b.length (b.map fun x => Value.int .u8 (x.toNat : Int)) := by
  refine ⟨fun W => by simp [Builtin.lenOf, size_str], fun W hW => ?_⟩
  have : (ByteArray.mk b.toArray).extract 0 b.length = ByteArray.mk b.toArray := by
    apply ByteArray.ext
    simp
  simp [Builtin.firstCells, this]

theorem snd_append (h : StRel S K s a w) (hd : ∀ x, o.dst = some x → S x = false) {e sz bytes : Nat} {y u : Opd} (hc : chkOp P o (.append e sz bytes y u) = true) (hr : opA ρ (.append e sz bytes y u) o.dst s = some r) : Goal P S K s a w o r := by
  simp only [opA] at hr
  simp only [chkOp] at hc
  split at hc
  · rename_i c ho
    split at hc
    · rename_i x v t t' h1 h2 h3
      simp only [Bool.and_eq_true, decide_eq_true_eq] at hc
      obtain ⟨⟨⟨⟨⟨⟨⟨rfl, c1⟩, c2⟩, c3⟩, c4⟩, c5⟩, c6⟩, c7⟩ := hc
      obtain ⟨cc, ca, ct⟩ := c
      simp only at h1 h2 h3
      subst h1
      have := toList2 h2; subst this
      have := toList2 h3; subst this
      have ht := isSliceOf_spec c1
      obtain ⟨i, z, hi, hz, hzs, hsz⟩ := zeroIs_spec c2
      have hby : i.bytes = bytes := by
        unfold bytesP at c3
        rw [hi] at c3
        simpa using c3
      have hx := h.ev c6
      have hy := h.ev c7
      cases hn : newCells s.H sz (ev s.t u) with
      | none => rw [hn] at hr; simp at hr
      | some q =>
        obtain ⟨m, news, pn⟩ := q
        rw [hn] at hr
        simp only [Option.bind_some] at hr
        have key : ∃ ns, Source P w (a.eval v) sz m ns ∧ RepL K ns news ∧ news.length = m * sz ∧ cell1L news = true ∧ (pn = true → pureL news = true) := by
          unfold newCells at hn
          split at hn
          · rename_i cl n e1
            split at hn
            · rename_i hq
              simp only [Option.some.injEq, Prod.mk.injEq] at hn
              obtain ⟨rfl, rfl, rfl⟩ := hn
              rw [e1] at hy
              rcases list_at h.inv hy with ⟨q1, rfl, rfl⟩ | ⟨b, off, cap, f, q1, q2, q3, q4, q5⟩
              · rw [q1]; exact ⟨[], source_nil, .nil, hq.1, hq.2, fun _ => rfl⟩
              · obtain ⟨vs, k1, k2⟩ := q3.cells q4
                rw [q1]
                refine ⟨vs, source_cells (by rw [k1.length]; exact hq.1) k2, k1, hq.1, hq.2, fun _ => ?_⟩
                have hpf := (h.inv.fz b f q5).1
                obtain ⟨pp, qq, rfl, _⟩ := q4
                rw [pureL_append, pureL_append, Bool.and_eq_true, Bool.and_eq_true] at hpf
                exact hpf.1.2
            · simp at hn
          · rename_i id n e1
            cases hro : rowOf s.H id n with
            | none => rw [hro] at hn; simp at hn
            | some rr =>
              rw [hro] at hn
              simp only [Option.bind_some] at hn
              split at hn
              · rename_i hsz2
                simp only [Option.some.injEq, Prod.mk.injEq] at hn
                obtain ⟨rfl, rfl, rfl⟩ := hn
                rw [e1] at hy
                obtain ⟨q1, q2, q3, xs, q4, q5⟩ := h.inv.own hy hro
                obtain ⟨g1, g2⟩ := rowOf_some hro
                obtain ⟨_, _, g3, g4, _⟩ := h.inv.obj _ _ g1
                rw [hsz2] at g2 q4
                rcases ownsRow_cells q4 with ⟨k1, k2, k3⟩ | ⟨b, cap, k1, k2, k3⟩
                · rw [k1, k2]
                  rw [k3] at q5
                  exact ⟨[], source_nil, q5, by rw [← q5.length]; simp, g3, g4⟩
                · rw [k1]
                  exact ⟨xs, source_cells (by rw [q5.length]; exact g2.symm) k3, q5, g2.symm, g3, g4⟩
              · simp at hn
          · rename_i e1
            simp only [Option.some.injEq, Prod.mk.injEq] at hn
            obtain ⟨rfl, rfl, rfl⟩ := hn
            rw [e1] at hy
            have := rep_nilS hy
            rw [this]
            exact ⟨[], source_nil, .nil, by simp, rfl, fun _ => rfl⟩
          · simp at hn
        obtain ⟨ns, hsrc, hns, hlen, hcell, hpn⟩ := key
        refine appendV_sound (ty := o.type) h hd ht ht (.inl rfl) hi hz (by rw [hzs, hsz]) hsz c4 hby c5 hx hsrc hns hlen hcell hpn hr fun v' w' hrun => ?_
        simp only [execOp, ho, resolve, Sem.run_bind, Sem.run_pure, Result.andThen_ok, invoke, builtin]
        have : Array.map a.eval #[x, v] = #[a.eval x, a.eval v] := by simp
        rw [this, hrun]
        rfl
    · simp at hc
  · simp at hc

theorem snd_appendS (h : StRel S K s a w) (hd : ∀ x, o.dst = some x → S x = false) {e : Nat} {y u : Opd} (hc : chkOp P o (.appendS e y u) = true) (hr : opA ρ (.appendS e y u) o.dst s = some r) : Goal P S K s a w o r := by
  simp only [opA] at hr
  simp only [chkOp] at hc
  split at hc
  · rename_i c ho
    split at hc
    · rename_i x v t t' h1 h2 h3
      simp only [Bool.and_eq_true] at hc
      obtain ⟨⟨⟨⟨⟨c1, c2⟩, c3⟩, c4⟩, c5⟩, c6⟩ := hc
      obtain ⟨cc, ca, ct⟩ := c
      simp only at h1 h2 h3
      subst h1
      have := toList2 h2; subst this
      have := toList2 h3; subst this
      have ht := isSliceOf_spec c1
      have hst : P.underlying t' = some .string := by
        unfold strKey at c2
        split at c2 <;> simp_all
      obtain ⟨i, z, hi, hz, hzs, hsz⟩ := zeroIs_spec c3
      have hby : i.bytes = 1 := by
        unfold bytesP at c4
        rw [hi] at c4
        simpa using c4
      have hx := h.ev c5
      have hy := h.ev c6
      split at hr
      · rename_i b e1
        rw [e1] at hy
        have hyv := rep_str hy
        have hsrc := source_str (P := P) (w := w) b
        refine appendV_sound (ty := o.type) (yv := .string ⟨b.toArray⟩) h hd ht hst (.inr rfl) hi hz (by rw [hzs, hsz]) hsz (by omega) hby (by omega) hx hsrc (encB_rep b) (by rw [encB_length]; simp) (encB_cell1 b) (fun _ => encB_pure b) hr fun v' w' hrun => ?_
        simp only [execOp, ho, resolve, Sem.run_bind, Sem.run_pure, Result.andThen_ok, invoke, builtin]
        have : Array.map a.eval #[x, v] = #[a.eval x, .string ⟨b.toArray⟩] := by simp [hyv]
        rw [this, hrun]
        rfl
      · simp at hr
    · simp at hc
  · simp at hc

theorem snd_call (hρ : RhoOK P ρ) (h : StRel S K s a w) (hd : ∀ x, o.dst = some x → S x = false) {f : Opd} {ys : List Opd} (hc : chkOp P o (.call f ys) = true) (hr : opA ρ (.call f ys) o.dst s = some r) : Goal P S K s a w o r := by
  simp only [opA] at hr
  simp only [chkOp] at hc
  split at hc
  · rename_i c ho
    split at hc
    · rename_i f' h1
      simp only [Bool.and_eq_true] at hc
      obtain ⟨cc, ca, ct⟩ := c
      simp only at h1 hc
      subst h1
      have hf := h.ev hc.1
      have ha := h.evL hc.2
      split at hr
      · rename_i g first cap e1
        rw [e1] at hf
        cases hv : viewL (first ++ ys.map (ev s.t) ++ cap) s.H with
        | none => rw [hv] at hr; simp at hr
        | some q =>
          obtain ⟨args, H'⟩ := q
          rw [hv] at hr
          simp only [Option.bind_some] at hr
          exact op_call hρ h hd ho rfl hf (vas := ca.toList.map a.eval) (by apply Array.ext'; simp) ha hv hr
      · simp at hr
    · simp at hc
  · simp at hc

theorem snd_panic (h : StRel S K s a w) {y : Opd} (hc : chkOp P o (.panic y) = true) (hr : opA ρ (.panic y) o.dst s = some r) : Goal P S K s a w o r := by
  simp only [opA] at hr
  simp only [chkOp] at hc
  split at hc
  · rename_i x ho
    split at hr
    · rename_i t v e1
      split at hr
      · simp only [Option.some.injEq] at hr
        subst hr
        have hx := h.ev hc
        rw [e1] at hx
        exact op_panic h ho rfl hx
      · simp at hr
    · simp at hr
  · simp at hc

theorem snd_range (h : StRel S K s a w) (hd : ∀ x, o.dst = some x → S x = false) {y : Opd} (hc : chkOp P o (.range y) = true) (hr : opA ρ (.range y) o.dst s = some r) : Goal P S K s a w o r := by
  simp only [opA] at hr
  simp only [chkOp] at hc
  split at hc
  · rename_i t x ho
    simp only [Bool.and_eq_true] at hc
    split at hr
    · rename_i b e1
      simp only [Option.some.injEq] at hr
      subst hr
      have hx := h.ev hc.2
      rw [e1] at hx
      exact op_range h hd ho hc.1 rfl hx
    · simp at hr
  · simp at hc

theorem snd_next (h : StRel S K s a w) (hd : ∀ x, o.dst = some x → S x = false) {y : Opd} (hc : chkOp P o (.next y) = true) (hr : opA ρ (.next y) o.dst s = some r) : Goal P S K s a w o r := by
  simp only [opA] at hr
  simp only [chkOp] at hc
  split at hc
  · rename_i x ho
    split at hr
    · rename_i id e1
      split at hr
      · rename_i b pos hH
        have hx := h.ev hc
        rw [e1] at hx
        refine op_next h hd ho rfl hx hH ?_
        split at hr
        · rename_i hlt
          rw [if_pos hlt]
          simp only [Option.some.injEq] at hr
          exact hr.symm
        · rename_i hlt
          rw [if_neg hlt]
          simp only [Option.some.injEq] at hr
          exact hr.symm
      · simp at hr
    · simp at hr
  · simp at hc
end

theorem op_sound {P : Program} {ρ : Rho} {S : Nat → Bool} {K : Kz} {s : St} {a : Act} {w : World} {o : Oper} {r : OpRes} (hρ : RhoOK P ρ) (h : StRel S K s a w) {ao : AOp} (hc : chkOp P o ao = true) (hS : chkDst S o.dst ao = true) (hr : opA ρ ao o.dst s = some r) : Goal P S K s a w o r := by
  have hd (h1 : ∀ z, ao ≠ .allocL z) (h2 : ∀ x, ao ≠ .boxL x) := chkDst_not hS h1 h2
  cases ao with
  | allocL z => exact snd_allocL h hS hc hr
  | boxL x => exact snd_boxL h hS hc hr
  | move => exact snd_move h (hd (by simp) (by simp)) hc hr
  | pick => exact snd_pick h (hd (by simp) (by simp)) hc hr
  | allocH => exact snd_allocH h (hd (by simp) (by simp)) hc hr
  | boxH => exact snd_boxH h (hd (by simp) (by simp)) hc hr
  | newRow => exact snd_newRow h (hd (by simp) (by simp)) hc hr
  | mk => exact snd_mk h (hd (by simp) (by simp)) hc hr
  | mkList => exact snd_mkList h (hd (by simp) (by simp)) hc hr
  | mkRow => exact snd_mkRow h (hd (by simp) (by simp)) hc hr
  | load => exact snd_load h (hd (by simp) (by simp)) hc hr
  | store => exact snd_store h (hd (by simp) (by simp)) hc hr
  | nilCheck => exact snd_nilCheck h (hd (by simp) (by simp)) hc hr
  | bin => exact snd_bin h (hd (by simp) (by simp)) hc hr
  | eqAgg => exact snd_eqAgg h (hd (by simp) (by simp)) hc hr
  | un => exact snd_un h (hd (by simp) (by simp)) hc hr
  | conv => exact snd_conv h (hd (by simp) (by simp)) hc hr
  | mkIface => exact snd_mkIface h (hd (by simp) (by simp)) hc hr
  | mkFunc => exact snd_mkFunc h (hd (by simp) (by simp)) hc hr
  | mkMap => exact snd_mkMap h (hd (by simp) (by simp)) hc hr
  | mapUpd => exact snd_mapUpd h (hd (by simp) (by simp)) hc hr
  | lookup => exact snd_lookup h (hd (by simp) (by simp)) hc hr
  | makeRow => exact snd_makeRow h (hd (by simp) (by simp)) hc hr
  | slice => exact snd_slice h (hd (by simp) (by simp)) hc hr
  | fieldAddr => exact snd_fieldAddr h (hd (by simp) (by simp)) hc hr
  | field => exact snd_field h (hd (by simp) (by simp)) hc hr
  | indexAddr => exact snd_indexAddr h (hd (by simp) (by simp)) hc hr
  | index => exact snd_index h (hd (by simp) (by simp)) hc hr
  | extract => exact snd_extract h (hd (by simp) (by simp)) hc hr
  | len => exact snd_len h (hd (by simp) (by simp)) hc hr
  | mm => exact snd_mm h (hd (by simp) (by simp)) hc hr
  | append => exact snd_append h (hd (by simp) (by simp)) hc hr
  | appendS => exact snd_appendS h (hd (by simp) (by simp)) hc hr
  | call => exact snd_call hρ h (hd (by simp) (by simp)) hc hr
  | panic => exact snd_panic h hc hr
  | range => exact snd_range h (hd (by simp) (by simp)) hc hr
  | next => exact snd_next h (hd (by simp) (by simp)) hc hr
end Go.Proofs.YtdhlgbnljhgabaaGreatDoor.AM

/- Regions in text order. -/
namespace Go.Proofs.YtdhlgbnljhgabaaGreatDoor.AM
open Go

def guardOK (S : Nat → Bool) (ops : Array Oper) (o : Oper) (g : Option (Nat × Bool)) : Bool :=
  match o.guard, g with
  | none, none => true
  | some (j, w), some (i, w') => decide ((ops[j]?).bind (·.dst) = some i) && decide (w = w') && (match o.dst with | some d => !S d | none => true)
  | _, _ => false

def chkO (P : Program) (S : Nat → Bool) (ops : Array Oper) (o : Oper) (ao : AOper) : Bool :=
  decide (o.dst = ao.dst) && chkOp P o ao.op && chkDst S o.dst ao.op && guardOK S ops o ao.guard

def chkOs (P : Program) (S : Nat → Bool) (ops : Array Oper) : List Oper → List AOper → Bool
  | [], [] => true
  | o :: os, ao :: aos => chkO P S ops o ao && chkOs P S ops os aos
  | _, _ => false

theorem want_sound {S : Nat → Bool} {K : Kz} {s : St} {a : Act} {w : World} {ops : Array Oper} {o : Oper} {g : Option (Nat × Bool)} {b : Bool} (h : StRel S K s a w) (hg : guardOK S ops o g = true) (hw : want s.t g = some b) :
    Region.wanted o (yielded ops a.tmps) = b ∧ (b = false → ∀ x, o.dst = some x → S x = false) := by
  unfold guardOK at hg
  split at hg
  · rename_i e
    simp only [want, Option.some.injEq] at hw
    subst hw
    exact ⟨by simp [Region.wanted, e], by simp⟩
  · rename_i j w1 i w2 e
    simp only [Bool.and_eq_true, decide_eq_true_eq] at hg
    obtain ⟨⟨h1, rfl⟩, h3⟩ := hg
    refine ⟨?_, fun _ x hx => ?_⟩
    · simp only [want] at hw
      have ht := h.tmp i
      have hl : s.t.getD i .undef ≠ .undef → i < a.tmps.size := by
        intro hne
        rw [h.len]
        rcases Nat.lt_or_ge i s.t.length with q | q
        · exact q
        · exact absurd (by rw [List.getD_eq_getElem?_getD, List.getElem?_eq_none q]; rfl) hne
      split at hw
      · rename_i c e1
        simp only [Option.some.injEq] at hw
        subst hw
        rw [e1] at ht
        have hb := rep_bool ht
        have hi := hl (by rw [e1]; simp)
        simp only [Region.wanted, e, yielded, h1, Option.bind_some]
        rw [Array.getD_eq_getD_getElem?, Array.getElem?_eq_getElem hi] at hb
        rw [Array.getElem?_eq_getElem hi]
        simp only [Option.getD_some] at hb
        rw [hb]
        cases c <;> cases w1 <;> rfl
      · rename_i e1
        simp only [Option.some.injEq] at hw
        subst hw
        rw [e1] at ht
        have hi := hl (by rw [e1]; simp)
        have hv : a.tmps.getD i undef = .tuple #[] := by
          generalize a.tmps.getD i undef = v at ht
          cases ht with
          | tuple vs _ hl => cases hl; rfl
        simp only [Region.wanted, e, yielded, h1, Option.bind_some]
        rw [Array.getD_eq_getD_getElem?, Array.getElem?_eq_getElem hi] at hv
        rw [Array.getElem?_eq_getElem hi]
        simp only [Option.getD_some] at hv
        rw [hv]
        rfl
      · simp at hw
    · rw [hx] at h3
      simpa using h3
  · simp at hg

theorem rep_undef (K : Kz) : Rep K undef (.tuple []) := .tuple [] [] .nil

/-- What the real code is to come to when the abstract one goes on with 'k'. -/
def Nrm (S : Nat → Bool) (K : Kz) (s : St) (w : World) (r : Out × Hp) (k : St → R) (a' : Act) (w' : World) : Prop :=
  ∃ s' K', k s' = some r ∧ KL K K' ∧ Step K w K' w' ∧ StRel S K' s' a' w' ∧ Keeps s s'
def Pnc (K : Kz) (s : St) (w : World) (r : Out × Hp) (kp : AV → Hp → R) (pv : Value) (a' : Act) (w' : World) : Prop :=
  ∃ v H K', kp v H = some r ∧ a'.defers = [] ∧ KL K K' ∧ Step K w K' w' ∧ Inv K' H w' ∧ Rep K' pv v ∧ Keeps s (setH s H)

theorem Nrm.back {S : Nat → Bool} {K K1 : Kz} {s s1 : St} {w w1 : World} {r : Out × Hp} {k : St → R} {a' : Act} {w' : World} (h1 : KL K K1) (h2 : Step K w K1 w1) (h3 : Keeps s s1) (h : Nrm S K1 s1 w1 r k a' w') : Nrm S K s w r k a' w' := by
  obtain ⟨s', K', q1, q2, q3, q4, q5⟩ := h
  exact ⟨s', K', q1, h1.trans q2, h2.trans q3, q4, h3.trans q5⟩
theorem Keeps.transH {s s1 : St} {H : Hp} (h : Keeps s s1) (k : Keeps s1 (setH s1 H)) : Keeps s (setH s H) :=
  ⟨rfl, fun b hb q => k.2 b (by rw [h.1]; exact hb) (h.2 b hb q)⟩
theorem Pnc.back {K K1 : Kz} {s s1 : St} {w w1 : World} {r : Out × Hp} {kp : AV → Hp → R} {pv : Value} {a' : Act} {w' : World} (h1 : KL K K1) (h2 : Step K w K1 w1) (h3 : Keeps s s1) (h : Pnc K1 s1 w1 r kp pv a' w') : Pnc K s w r kp pv a' w' := by
  obtain ⟨v, H, K', q1, q2, q3, q4, q5, q6, q7⟩ := h
  exact ⟨v, H, K', q1, q2, h1.trans q3, h2.trans q4, q5, q6, h3.transH q7⟩

theorem keeps_put {s s' : St} {d : Option Nat} {v : AV} (h : Keeps s s') : Keeps s (put s' d v) := by
  cases d <;> exact h

theorem ops_sound {P : Program} {ρ : Rho} (hρ : RhoOK P ρ) {S : Nat → Bool} {ops : Array Oper} {r : Out × Hp} {k : St → R} {kp : AV → Hp → R} {Q : Exit → Act → World → Prop} :
    ∀ {os : List Oper} {aos : List AOper}, chkOs P S ops os aos = true → ∀ {s : St} {K : Kz} {a : Act} {w : World}, StRel S K s a w → AM.ops ρ aos s k kp = some r →
      (∀ a' w', Nrm S K s w r k a' w' → Q .normal a' w') → (∀ pv a' w', Pnc K s w r kp pv a' w' → Q (.panic [{ v := pv, recovered := false }]) a' w') → wpList P ops Q os a w
  | [], [], _, s, K, a, w, h, hr, hn, _ => hn _ _ ⟨s, K, hr, KL.refl K, Step.refl K w, h, Keeps.refl s⟩
  | o :: os, ao :: aos, hc, s, K, a, w, h, hr, hn, hp => by
    simp only [chkOs, chkO, Bool.and_eq_true, decide_eq_true_eq] at hc
    obtain ⟨⟨⟨⟨hdst, hop⟩, hS⟩, hg⟩, hrest⟩ := hc
    simp only [AM.ops] at hr
    cases hw : want s.t ao.guard with
    | none => rw [hw] at hr; simp at hr
    | some b =>
      rw [hw] at hr
      obtain ⟨hwant, hSd⟩ := want_sound (ops := ops) h hg hw
      unfold wpList
      rw [hwant]
      cases b with
      | false =>
        simp only [Bool.false_eq_true, if_false]
        simp only [cond_false] at hr
        rw [← hdst] at hr
        exact ops_sound hρ hrest (h.put o.dst (hSd rfl) (rep_undef K)) hr (fun a' w' q => hn _ _ (q.back (KL.refl K) (Step.refl K w) (keeps_put (Keeps.refl s)))) (fun pv a' w' q => hp _ _ _ (q.back (KL.refl K) (Step.refl K w) (keeps_put (Keeps.refl s))))
      | true =>
        simp only [if_true]
        simp only [cond_true] at hr
        rw [← hdst] at hr
        left
        cases hres : opA ρ ao.op o.dst s with
        | none => rw [hres] at hr; simp at hr
        | some res =>
          rw [hres] at hr
          refine op_sound hρ h hop hS hres _ _ (fun a' w' hd => ?_) (fun v w' hd => ?_)
          · obtain ⟨v, s', K', rfl, q2, q3, q4, q5⟩ := hd
            simp only at hr
            exact ops_sound hρ hrest q4 hr (fun a2 w2 q => hn _ _ (q.back q2 q3 (keeps_put q5))) (fun pv a2 w2 q => hp _ _ _ (q.back q2 q3 (keeps_put q5)))
          · obtain ⟨v2, H, K', rfl, q2, q3, q4, q5, q6⟩ := hd
            simp only at hr
            exact hp _ _ _ ⟨v2, H, K', hr, h.d, q2, q3, q4, q5, q6⟩
  | [], _ :: _, hc, _, _, _, _, _, _, _, _ => by simp [chkOs] at hc
  | _ :: _, [], hc, _, _, _, _, _, _, _, _ => by simp [chkOs] at hc
end Go.Proofs.YtdhlgbnljhgabaaGreatDoor.AM

/- Objects are let go: what still names them is frozen. -/
namespace Go.Proofs.YtdhlgbnljhgabaaGreatDoor.AM
open Go

mutual
theorem frzV_mono {base : Nat} {H : Hp} {g g' : Nat → Option (List AV)} (hg : ∀ i c, g i = some c → g' i = some c) : ∀ {v x : AV}, frzV base g H v = some x → frzV base g' H v = some x
  | .undef, x, h | .lvar _, x, h | .lptr .., x, h => by simp [frzV] at h
  | .own id n, x, h => by simpa only [frzV] using h
  | .ptr id off, x, h => by
    simp only [frzV] at h ⊢
    split at h
    · rename_i q; rw [if_pos q]; exact h
    · rename_i q
      rw [if_neg q]
      cases e : g id with
      | none => rw [e] at h; simp at h
      | some c => rw [e] at h; rw [hg _ _ e]; exact h
  | .rptr .., x, h => by simpa only [frzV] using h
  | .map _, x, h => by simpa only [frzV] using h
  | .func fn f c, x, h => by
    simp only [frzV] at h ⊢
    cases e : frzL base g H f with
    | none => rw [e] at h; simp at h
    | some y =>
      rw [e] at h
      rw [frzL_mono hg e]
      simp only [Option.bind_some] at h ⊢
      cases e2 : frzL base g H c with
      | none => rw [e2] at h; simp at h
      | some z => rw [e2] at h; rw [frzL_mono hg e2]; exact h
  | .iface t v, x, h => by
    simp only [frzV] at h ⊢
    cases e : frzV base g H v with
    | none => rw [e] at h; simp at h
    | some y => rw [e] at h; rw [frzV_mono hg e]; exact h
  | .agg cs, x, h => by
    simp only [frzV] at h ⊢
    cases e : frzL base g H cs with
    | none => rw [e] at h; simp at h
    | some y => rw [e] at h; rw [frzL_mono hg e]; exact h
  | .tuple cs, x, h => by
    simp only [frzV] at h ⊢
    cases e : frzL base g H cs with
    | none => rw [e] at h; simp at h
    | some y => rw [e] at h; rw [frzL_mono hg e]; exact h
  | .nilS, x, h | .nilPtr, x, h | .nilMap, x, h | .nilFunc, x, h | .nilIface, x, h | .bool _, x, h | .int .., x, h | .str _, x, h | .list .., x, h | .fptr .., x, h | .fmap _, x, h => by simpa only [frzV] using h
theorem frzL_mono {base : Nat} {H : Hp} {g g' : Nat → Option (List AV)} (hg : ∀ i c, g i = some c → g' i = some c) : ∀ {v x : List AV}, frzL base g H v = some x → frzL base g' H v = some x
  | [], x, h => by simpa only [frzL] using h
  | a :: l, x, h => by
    simp only [frzL] at h ⊢
    cases e : frzV base g H a with
    | none => rw [e] at h; simp at h
    | some y =>
      rw [e] at h
      rw [frzV_mono hg e]
      simp only [Option.bind_some] at h ⊢
      cases e2 : frzL base g H l with
      | none => rw [e2] at h; simp at h
      | some z => rw [e2] at h; rw [frzL_mono hg e2]; exact h
end

theorem frzO_succ {base : Nat} {H : Hp} : ∀ {m id : Nat} {c : List AV}, frzO base H m id = some c → frzO base H (m + 1) id = some c
  | 0, id, c, h => by simp [frzO] at h
  | m + 1, id, c, h => by
    rw [frzO] at h ⊢
    split at h
    · rename_i cells e
      cases e2 : frzL base (frzO base H m) H cells with
      | none => rw [e2] at h; simp at h
      | some y =>
        rw [e2] at h
        rw [frzL_mono (fun i c q => frzO_succ q) e2]
        exact h
    · simp at h

theorem frzO_le {base : Nat} {H : Hp} {m k id : Nat} {c : List AV} (h : frzO base H m id = some c) (hk : m ≤ k) : frzO base H k id = some c := by
  induction hk with
  | refl => exact h
  | step _ ih => exact frzO_succ ih

theorem frzO_eq {base : Nat} {H : Hp} {m k id : Nat} {c d : List AV} (h : frzO base H m id = some c) (h' : frzO base H k id = some d) : c = d := by
  have h1 := frzO_le h (Nat.le_max_left m k)
  have h2 := frzO_le h' (Nat.le_max_right m k)
  rw [h1] at h2
  exact Option.some.inj h2

/-- A row of plain cells that is let go. -/
def CutRow (K : Kz) (H : Hp) (n b : Nat) (c : List AV) : Prop := ∃ id ro e sz, n ≤ id ∧ (K.rv id).ownBlock = some b ∧ H[id]? = some (.row ro true e sz c)
def CutVar (K : Kz) (H : Hp) (n b : Nat) (c : List AV) : Prop := ∃ id m, n ≤ id ∧ K.vb id = some b ∧ frzO n H m id = some c
def CutMap (K : Kz) (H : Hp) (n b : Nat) (c : List AV) : Prop := ∃ id, n ≤ id ∧ K.vb id = some b ∧ H[id]? = some (.map c)

open Classical in
/-- Objects from a number on are let go. -/
noncomputable def Kz.cut (K : Kz) (H : Hp) (n : Nat) : Kz where
  n := n
  vb id := if id < n then K.vb id else none
  ver id := if id < n then K.ver id else 0
  rv id := if id < n then K.rv id else nilv
  fz b := if h : ∃ c, CutRow K H n b c ∨ CutVar K H n b c then some h.choose else K.fz b
  fm b := if h : ∃ c, CutMap K H n b c then some h.choose else K.fm b
  sl := K.sl

section
open Classical
variable {K : Kz} {H : Hp} {w : World} {n : Nat}

theorem cutRow_eq (hi : Inv K H w) {b : Nat} {c d : List AV} (h : CutRow K H n b c) (h' : CutRow K H n b d) : c = d := by
  obtain ⟨i, r, e, s, q1, q2, q3⟩ := h
  obtain ⟨j, r', e', s', k1, k2, k3⟩ := h'
  have := hi.injr i j b q2 k2
  subst this
  rw [q3] at k3
  cases k3
  rfl
theorem cutVar_eq (hi : Inv K H w) {b : Nat} {c d : List AV} (h : CutVar K H n b c) (h' : CutVar K H n b d) : c = d := by
  obtain ⟨i, m, q1, q2, q3⟩ := h
  obtain ⟨j, m', k1, k2, k3⟩ := h'
  have := hi.injv i j b q2 k2
  subst this
  exact frzO_eq q3 k3
theorem cutRowVar (hi : Inv K H w) {b : Nat} {c d : List AV} (h : CutRow K H n b c) (h' : CutVar K H n b d) : False := by
  obtain ⟨i, r, e, s, q1, q2, q3⟩ := h
  obtain ⟨j, m', k1, k2, k3⟩ := h'
  exact hi.vr j i b k2 q2
theorem cut_fz_row (hi : Inv K H w) {b : Nat} {c : List AV} (h : CutRow K H n b c) : (K.cut H n).fz b = some c := by
  have hx : ∃ c, CutRow K H n b c ∨ CutVar K H n b c := ⟨c, .inl h⟩
  show (if h : ∃ c, CutRow K H n b c ∨ CutVar K H n b c then some h.choose else K.fz b) = some c
  rw [dif_pos hx]
  rcases hx.choose_spec with q | q
  · rw [cutRow_eq hi q h]
  · exact (cutRowVar hi h q).elim
theorem cut_fz_var (hi : Inv K H w) {b : Nat} {c : List AV} (h : CutVar K H n b c) : (K.cut H n).fz b = some c := by
  have hx : ∃ c, CutRow K H n b c ∨ CutVar K H n b c := ⟨c, .inr h⟩
  show (if h : ∃ c, CutRow K H n b c ∨ CutVar K H n b c then some h.choose else K.fz b) = some c
  rw [dif_pos hx]
  rcases hx.choose_spec with q | q
  · exact (cutRowVar hi q h).elim
  · rw [cutVar_eq hi q h]
theorem cut_fz_inv (b : Nat) {c : List AV} (h : (K.cut H n).fz b = some c) : CutRow K H n b c ∨ CutVar K H n b c ∨ ((¬ ∃ c, CutRow K H n b c ∨ CutVar K H n b c) ∧ K.fz b = some c) := by
  have h' : (if h : ∃ c, CutRow K H n b c ∨ CutVar K H n b c then some h.choose else K.fz b) = some c := h
  split at h'
  · rename_i hx
    simp only [Option.some.injEq] at h'
    have := hx.choose_spec
    rw [h'] at this
    rcases this with q | q
    · exact .inl q
    · exact .inr (.inl q)
  · rename_i hx
    exact .inr (.inr ⟨hx, h'⟩)
theorem cut_fm_map (hi : Inv K H w) {b : Nat} {c : List AV} (h : CutMap K H n b c) : (K.cut H n).fm b = some c := by
  have hx : ∃ c, CutMap K H n b c := ⟨c, h⟩
  show (if h : ∃ c, CutMap K H n b c then some h.choose else K.fm b) = some c
  rw [dif_pos hx]
  obtain ⟨i, q1, q2, q3⟩ := hx.choose_spec
  obtain ⟨j, k1, k2, k3⟩ := h
  have := hi.injv i j b q2 k2
  subst this
  rw [q3] at k3
  cases k3
  rfl
theorem cut_fm_inv (b : Nat) {c : List AV} (h : (K.cut H n).fm b = some c) : CutMap K H n b c ∨ ((¬ ∃ c, CutMap K H n b c) ∧ K.fm b = some c) := by
  have h' : (if h : ∃ c, CutMap K H n b c then some h.choose else K.fm b) = some c := h
  split at h'
  · rename_i hx
    simp only [Option.some.injEq] at h'
    have := hx.choose_spec
    rw [h'] at this
    exact .inl this
  · rename_i hx
    exact .inr ⟨hx, h'⟩

theorem cut_fz_ext (hi : Inv K H w) {b : Nat} {c : List AV} (h : K.fz b = some c) : ∃ r, (K.cut H n).fz b = some (c ++ r) := by
  by_cases hx : ∃ d, CutRow K H n b d ∨ CutVar K H n b d
  · obtain ⟨d, q | q⟩ := hx
    · have e := cut_fz_row hi q
      obtain ⟨i, r, e1, s, q1, q2, q3⟩ := q
      obtain ⟨p, e', sz, cells, r', k1, k2⟩ := hi.rz i b c q2 h
      rw [q3] at k1
      cases k1
      exact ⟨r', by rw [e, k2]⟩
    · obtain ⟨i, m, q1, q2, q3⟩ := q
      rw [(hi.vz i b q2).1] at h
      cases h
  · refine ⟨[], ?_⟩
    show (if h : ∃ c, CutRow K H n b c ∨ CutVar K H n b c then some h.choose else K.fz b) = some (c ++ [])
    rw [dif_neg hx, List.append_nil, h]
theorem cut_fm_ext (hi : Inv K H w) {b : Nat} {c : List AV} (h : K.fm b = some c) : (K.cut H n).fm b = some c := by
  by_cases hx : ∃ d, CutMap K H n b d
  · obtain ⟨d, i, q1, q2, q3⟩ := hx
    rw [(hi.vz i b q2).2] at h
    cases h
  · show (if h : ∃ c, CutMap K H n b c then some h.choose else K.fm b) = some c
    rw [dif_neg hx, h]

mutual
theorem frz_rep (hi : Inv K H w) (m : Nat) : ∀ {v : Value} {a x : AV}, Rep K v a → frzV n (frzO n H m) H a = some x → Rep (K.cut H n) v x
  | _, _, x, .undef v, h => by simp [frzV] at h
  | _, _, x, .nilS, h => by simp only [frzV, Option.some.injEq] at h; subst h; exact .list0
  | _, _, x, .nilPtr, h => by simp only [frzV, Option.some.injEq] at h; subst h; exact .nilPtr
  | _, _, x, .nilMap, h => by simp only [frzV, Option.some.injEq] at h; subst h; exact .nilMap
  | _, _, x, .nilFunc, h => by simp only [frzV, Option.some.injEq] at h; subst h; exact .nilFunc
  | _, _, x, .nilIface, h => by simp only [frzV, Option.some.injEq] at h; subst h; exact .nilIface
  | _, _, x, .bool b, h => by simp only [frzV, Option.some.injEq] at h; subst h; exact .bool _
  | _, _, x, .int k b, h => by simp only [frzV, Option.some.injEq] at h; subst h; exact .int _ _
  | _, _, x, .str b, h => by simp only [frzV, Option.some.injEq] at h; subst h; exact .str _
  | _, _, x, .list0, h => by simp only [frzV, Option.some.injEq] at h; subst h; exact .list0
  | _, _, x, .list b off k cap c cells hf hw hc, h => by
    simp only [frzV, Option.some.injEq] at h; subst h
    obtain ⟨r, e⟩ := cut_fz_ext (n := n) hi hf
    exact .list b off k cap _ cells e (hw.ext r) hc
  | _, _, x, .own id k v hd hn hv ho, h => by
    simp only [frzV] at h
    split at h
    · rename_i q
      simp only [Option.some.injEq] at h; subst h
      exact .own id k v q (by simp only [Kz.cut, if_pos q]; exact hn) (by simp only [Kz.cut, if_pos q]; exact hv) ho
    · rename_i q
      split at h
      · rename_i ro e sz c hH
        split at h
        · rename_i hl
          simp only [Option.some.injEq] at h; subst h
          obtain ⟨h1, xs, h2, h3, h4⟩ := hi.row_ver hH hl
          have hvv := hv h1
          rw [hvv]
          rcases ownsRow_cells h2 with ⟨q1, q2, q3⟩ | ⟨b, cap, q1, q2, q3⟩
          · rw [q1, q2]
            rw [q3] at h3
            cases h3
            exact .list0
          · rw [q1]
            exact .list b 0 k cap c c (cut_fz_row hi ⟨id, ro, e, sz, by omega, by rw [q1]; rfl, hH⟩) ⟨[], [], by simp, rfl⟩ q2
        · simp at h
      · simp at h
  | _, _, x, .ptr id off b hb, h => by
    simp only [frzV] at h
    split at h
    · rename_i q
      simp only [Option.some.injEq] at h; subst h
      exact .ptr id off b (by simp only [Kz.cut, if_pos q]; exact hb)
    · rename_i q
      cases e : frzO n H m id with
      | none => rw [e] at h; simp at h
      | some c =>
        rw [e] at h
        simp only [Option.map_some, Option.some.injEq] at h; subst h
        have := Rep.fptr (K := K.cut H n) b 0 off c c (cut_fz_var hi ⟨id, m, by omega, hb, e⟩) ⟨[], [], by simp, rfl⟩
        rw [Nat.zero_add] at this
        exact this
  | _, _, x, .rptr id off k v hd hn hv ho, h => by
    simp only [frzV] at h
    split at h
    · rename_i q
      simp only [Option.some.injEq] at h; subst h
      exact .rptr id off k v q (by simp only [Kz.cut, if_pos q]; exact hn) (by simp only [Kz.cut, if_pos q]; exact hv) ho
    · simp at h
  | _, _, x, .fptr b d off c cells hf hw, h => by
    simp only [frzV, Option.some.injEq] at h; subst h
    obtain ⟨r, e⟩ := cut_fz_ext (n := n) hi hf
    exact .fptr b d off _ cells e (hw.ext r)
  | _, _, x, .lptr s off b hb, h => by simp [frzV] at h
  | _, _, x, .map id b hb, h => by
    simp only [frzV] at h
    split at h
    · rename_i q
      simp only [Option.some.injEq] at h; subst h
      exact .map id b (by simp only [Kz.cut, if_pos q]; exact hb)
    · rename_i q
      split at h
      · rename_i kvs hH
        simp only [Option.some.injEq] at h; subst h
        exact .fmap b kvs (cut_fm_map hi ⟨id, by omega, hb, hH⟩)
      · simp at h
  | _, _, x, .fmap b kvs hf, h => by
    simp only [frzV, Option.some.injEq] at h; subst h
    exact .fmap b kvs (cut_fm_ext hi hf)
  | _, _, x, .func fn vf vc f c hf hc, h => by
    simp only [frzV] at h
    cases e : frzL n (frzO n H m) H f with
    | none => rw [e] at h; simp at h
    | some y =>
      rw [e] at h
      simp only [Option.bind_some] at h
      cases e2 : frzL n (frzO n H m) H c with
      | none => rw [e2] at h; simp at h
      | some z =>
        rw [e2] at h
        simp only [Option.map_some, Option.some.injEq] at h; subst h
        exact .func fn vf vc _ _ (frz_repL hi m hf e) (frz_repL hi m hc e2)
  | _, _, x, .iface t v a hv, h => by
    simp only [frzV] at h
    cases e : frzV n (frzO n H m) H a with
    | none => rw [e] at h; simp at h
    | some y =>
      rw [e] at h
      simp only [Option.map_some, Option.some.injEq] at h; subst h
      exact .iface t v _ (frz_rep hi m hv e)
  | _, _, x, .agg vs as hv, h => by
    simp only [frzV] at h
    cases e : frzL n (frzO n H m) H as with
    | none => rw [e] at h; simp at h
    | some y =>
      rw [e] at h
      simp only [Option.map_some, Option.some.injEq] at h; subst h
      exact .agg vs _ (frz_repL hi m hv e)
  | _, _, x, .tuple vs as hv, h => by
    simp only [frzV] at h
    cases e : frzL n (frzO n H m) H as with
    | none => rw [e] at h; simp at h
    | some y =>
      rw [e] at h
      simp only [Option.map_some, Option.some.injEq] at h; subst h
      exact .tuple vs _ (frz_repL hi m hv e)
theorem frz_repL (hi : Inv K H w) (m : Nat) : ∀ {v : List Value} {a x : List AV}, RepL K v a → frzL n (frzO n H m) H a = some x → RepL (K.cut H n) v x
  | _, _, x, .nil, h => by simp only [frzL, Option.some.injEq] at h; subst h; exact .nil
  | _, _, x, .cons v a vs as hv hl, h => by
    simp only [frzL] at h
    cases e : frzV n (frzO n H m) H a with
    | none => rw [e] at h; simp at h
    | some y =>
      rw [e] at h
      simp only [Option.bind_some] at h
      cases e2 : frzL n (frzO n H m) H as with
      | none => rw [e2] at h; simp at h
      | some z =>
        rw [e2] at h
        simp only [Option.map_some, Option.some.injEq] at h; subst h
        exact .cons _ _ _ _ (frz_rep hi m hv e) (frz_repL hi m hl e2)
end

mutual
/-- What names only kept objects stands. -/
theorem cut_below (hi : Inv K H w) : ∀ {v : Value} {a : AV}, Rep K v a → below n a = true → Rep (K.cut H n) v a
  | _, _, .undef v, _ => .undef v
  | _, _, .nilS, _ => .nilS
  | _, _, .nilPtr, _ => .nilPtr
  | _, _, .nilMap, _ => .nilMap
  | _, _, .nilFunc, _ => .nilFunc
  | _, _, .nilIface, _ => .nilIface
  | _, _, .bool b, _ => .bool b
  | _, _, .int k b, _ => .int k b
  | _, _, .str s, _ => .str s
  | _, _, .list0, _ => .list0
  | _, _, .list b off k cap c cells hf hw hc, _ => by
    obtain ⟨r, e⟩ := cut_fz_ext (n := n) hi hf
    exact .list b off k cap _ cells e (hw.ext r) hc
  | _, _, .own id k v hd hn hv ho, h => by
    simp only [below, decide_eq_true_eq] at h
    exact .own id k v h (by simp only [Kz.cut, if_pos h]; exact hn) (by simp only [Kz.cut, if_pos h]; exact hv) ho
  | _, _, .ptr id off b hb, h => by
    simp only [below, decide_eq_true_eq] at h
    exact .ptr id off b (by simp only [Kz.cut, if_pos h]; exact hb)
  | _, _, .rptr id off k v hd hn hv ho, h => by
    simp only [below, decide_eq_true_eq] at h
    exact .rptr id off k v h (by simp only [Kz.cut, if_pos h]; exact hn) (by simp only [Kz.cut, if_pos h]; exact hv) ho
  | _, _, .fptr b d off c cells hf hw, _ => by
    obtain ⟨r, e⟩ := cut_fz_ext (n := n) hi hf
    exact .fptr b d off _ cells e (hw.ext r)
  | _, _, .lptr s off b hb, h => by simp [below] at h
  | _, _, .map id b hb, h => by
    simp only [below, decide_eq_true_eq] at h
    exact .map id b (by simp only [Kz.cut, if_pos h]; exact hb)
  | _, _, .fmap b kvs hf, _ => .fmap b kvs (cut_fm_ext hi hf)
  | _, _, .func fn vf vc f c hf hc, h => by
    simp only [below, Bool.and_eq_true] at h
    exact .func fn vf vc f c (cut_belowL hi hf h.1) (cut_belowL hi hc h.2)
  | _, _, .iface t v a hv, h => by simp only [below] at h; exact .iface t v a (cut_below hi hv h)
  | _, _, .agg vs as hv, h => by simp only [below] at h; exact .agg vs as (cut_belowL hi hv h)
  | _, _, .tuple vs as hv, h => by simp only [below] at h; exact .tuple vs as (cut_belowL hi hv h)
theorem cut_belowL (hi : Inv K H w) : ∀ {v : List Value} {a : List AV}, RepL K v a → belowL n a = true → RepL (K.cut H n) v a
  | _, _, .nil, _ => .nil
  | _, _, .cons v a vs as hv hl, h => by
    simp only [belowL, Bool.and_eq_true] at h
    exact .cons _ _ _ _ (cut_below hi hv h.1) (cut_belowL hi hl h.2)
end

theorem cut_pureL (hi : Inv K H w) {v : List Value} {a : List AV} (h : RepL K v a) (hp : pureL a = true) : RepL (K.cut H n) v a :=
  RepL.pure (fun _ _ q => cut_fz_ext hi q) (fun _ _ q => cut_fm_ext hi q) h hp
theorem cut_pure (hi : Inv K H w) {v : Value} {a : AV} (h : Rep K v a) (hp : AM.pure a = true) : Rep (K.cut H n) v a :=
  Rep.pure (fun _ _ q => cut_fz_ext hi q) (fun _ _ q => cut_fm_ext hi q) h hp
theorem cut_map (hi : Inv K H w) {es : List MapEntry} {kvs : List AV} (h : MapRep K es kvs) (hp : pureL kvs = true) : MapRep (K.cut H n) es kvs := by
  induction h with
  | nil => exact .nil
  | cons e a b es as hk hv _ ih =>
    simp only [pureL, Bool.and_eq_true] at hp
    exact .cons e a b es as (cut_pure hi hk hp.1) (cut_pure hi hv hp.2.1) (ih hp.2.2)

theorem Inv.cut (hi : Inv K H w) (hn : n ≤ H.length) (hb : BaseOK H n) : Inv (K.cut H n) (H.take n) w := by
  have hget : ∀ id o, (H.take n)[id]? = some o → id < n ∧ H[id]? = some o := fun id o q => by
    have hid : id < n := by
      have := (List.getElem?_eq_some_iff.1 q).1
      rw [List.length_take] at this
      omega
    rw [List.getElem?_take_of_lt hid] at q
    exact ⟨hid, q⟩
  refine ⟨by rw [List.length_take]; show n = _; omega, fun id o e => ?_, fun id b e => ?_, fun id hid => ?_, fun b c e => ?_, fun b c e => ?_, fun i j b e1 e2 => ?_, fun i j b e1 e2 => ?_, fun i j b e1 e2 => ?_, fun i b e => ?_, fun i b c e1 e2 => ?_⟩
  · obtain ⟨hid, q⟩ := hget id o e
    have ho := hi.obj id o q
    cases o with
    | var c =>
      obtain ⟨q1, q2, q3, b, cs, el, q4, q5, q6⟩ := ho
      exact ⟨by simp only [Kz.cut, if_pos hid]; exact q1, by simp only [Kz.cut, if_pos hid]; exact q2, q3, b, cs, el, by simp only [Kz.cut, if_pos hid]; exact q4, q5, cut_belowL hi q6 ((hb id c hid).1 q)⟩
    | row ro p e sz c =>
      obtain ⟨q1, q2, q3, q4, xs, q5, q6⟩ := ho
      refine ⟨by simp only [Kz.cut, if_pos hid]; exact q1, q2, q3, q4, xs, by simp only [Kz.cut, if_pos hid]; exact q5, ?_⟩
      cases p with
      | true => exact cut_pureL hi q6 (q4 rfl)
      | false => exact cut_belowL hi q6 ((hb id c hid).2 _ _ _ q)
    | map kvs =>
      obtain ⟨q1, q2, q3, b, es, cl, q4, q5, q6⟩ := ho
      exact ⟨by simp only [Kz.cut, if_pos hid]; exact q1, by simp only [Kz.cut, if_pos hid]; exact q2, q3, b, es, cl, by simp only [Kz.cut, if_pos hid]; exact q4, q5, cut_map hi q6 q3⟩
    | siter s pos =>
      obtain ⟨q1, q2, b, q4, q5⟩ := ho
      exact ⟨by simp only [Kz.cut, if_pos hid]; exact q1, by simp only [Kz.cut, if_pos hid]; exact q2, b, by simp only [Kz.cut, if_pos hid]; exact q4, q5⟩
  · simp only [Kz.cut] at e ⊢
    split at e
    · assumption
    · cases e
  · have hid' : ¬ id < n := by have : n ≤ id := hid; omega
    exact ⟨if_neg hid', if_neg hid'⟩
  · rcases cut_fz_inv b e with q | q | ⟨_, q⟩
    · obtain ⟨id, ro, el, sz, q1, q2, q3⟩ := q
      obtain ⟨k1, k2, k3, k4, xs, k5, k6⟩ := hi.obj id _ q3
      refine ⟨k4 rfl, ?_⟩
      rcases k5.2 with ⟨q4, _⟩ | ⟨g, cap, cur, q4, _, q5, _, _, _, q6⟩
      · rw [q4] at q2; simp [Value.ownBlock] at q2
      · rw [q4] at q2
        simp only [Value.ownBlock, Option.some.injEq] at q2
        subst q2
        refine ⟨cur, el, (0, 0), q5, xs, cur.toList.drop (K.ver id * sz), by rw [← q6, List.take_append_drop], cut_pureL hi k6 (k4 rfl)⟩
    · obtain ⟨id, m, q1, q2, q3⟩ := q
      cases m with
      | zero => simp [frzO] at q3
      | succ m =>
        simp only [frzO] at q3
        split at q3
        · rename_i cells hH
          obtain ⟨k1, k2, k3, b', cs, el, k4, k5, k6⟩ := hi.obj id _ hH
          rw [q2] at k4
          cases k4
          cases e2 : frzL n (frzO n H m) H cells with
          | none => rw [e2] at q3; simp at q3
          | some y =>
            rw [e2] at q3
            simp only [Option.bind_some] at q3
            split at q3
            · rename_i hp
              simp only [Option.some.injEq] at q3
              subst q3
              exact ⟨hp, cs, el, (0, 0), k5, cs.toList, [], by simp, frz_repL hi m k6 e2⟩
            · simp at q3
        · simp at q3
    · obtain ⟨r1, cs, el, fr, r2, ys, zs, r3, r4⟩ := hi.fz b c q
      exact ⟨r1, cs, el, fr, r2, ys, zs, r3, cut_pureL hi r4 r1⟩
  · rcases cut_fm_inv b e with q | ⟨_, q⟩
    · obtain ⟨id, q1, q2, q3⟩ := q
      obtain ⟨k1, k2, k3, b', es, cl, k4, k5, k6⟩ := hi.obj id _ q3
      rw [q2] at k4
      cases k4
      exact ⟨k3, es, cl, k5, cut_map hi k6 k3⟩
    · obtain ⟨r1, es, cl, r2, r3⟩ := hi.fm b c q
      exact ⟨r1, es, cl, r2, cut_map hi r3 r1⟩
  · simp only [Kz.cut] at e1 e2
    split at e1 <;> split at e2 <;> first | exact hi.injv i j b e1 e2 | cases e1 | cases e2
  · simp only [Kz.cut] at e1 e2
    split at e1 <;> split at e2 <;> first | exact hi.injr i j b e1 e2 | (simp [nilv, Value.ownBlock] at e1; done) | (simp [nilv, Value.ownBlock] at e2; done)
  · simp only [Kz.cut] at e1 e2
    split at e1
    · split at e2
      · exact hi.vr i j b e1 e2
      · simp [nilv, Value.ownBlock] at e2
    · cases e1
  · simp only [Kz.cut] at e
    split at e
    · rename_i hid
      constructor
      · cases q : (K.cut H n).fz b with
        | none => rfl
        | some c =>
          rcases cut_fz_inv b q with q | q | ⟨_, q⟩
          · obtain ⟨j, ro, el, sz, q1, q2, q3⟩ := q
            exact absurd q2 (hi.vr i j b e)
          · obtain ⟨j, m, q1, q2, q3⟩ := q
            have := hi.injv i j b e q2
            omega
          · rw [(hi.vz i b e).1] at q; cases q
      · cases q : (K.cut H n).fm b with
        | none => rfl
        | some c =>
          rcases cut_fm_inv b q with q | ⟨_, q⟩
          · obtain ⟨j, q1, q2, q3⟩ := q
            have := hi.injv i j b e q2
            omega
          · rw [(hi.vz i b e).2] at q; cases q
    · cases e
  · simp only [Kz.cut] at e1
    split at e1
    · rename_i hid
      rcases cut_fz_inv b e2 with q | q | ⟨_, q⟩
      · obtain ⟨j, ro, el, sz, q1, q2, q3⟩ := q
        have := hi.injr i j b e1 q2
        omega
      · obtain ⟨j, m, q1, q2, q3⟩ := q
        exact absurd e1 (hi.vr j i b q2)
      · obtain ⟨p, e', sz, cells, r, k1, k2⟩ := hi.rz i b c e1 q
        exact ⟨p, e', sz, cells, r, by rw [List.getElem?_take_of_lt hid]; exact k1, k2⟩
    · simp [nilv, Value.ownBlock] at e1

theorem cut_KL {K0 : Kz} {H0 : Hp} {w0 : World} (h0 : Inv K0 H0 w0) (hn : n = H0.length) (hk : KL K0 K) (hi : Inv K H w) : KL K0 (K.cut H n) := by
  have h1 := h0.n
  refine ⟨by show K0.n ≤ n; omega, fun id b e => ?_, fun id => ?_, fun id hid e => ?_, fun b c e => ?_, fun b c e => cut_fm_ext hi (hk.fm b c e)⟩
  · have := h0.vbd id b e
    simp only [Kz.cut, if_pos (show id < n by omega)]
    exact hk.vb id b e
  · simp only [Kz.cut]
    split
    · exact hk.ver id
    · rw [(h0.verd id (by omega)).1]; exact Nat.zero_le _
  · simp only [Kz.cut, if_pos (show id < n by omega)] at e ⊢
    exact hk.rv id hid e
  · obtain ⟨r, q⟩ := hk.fz b c e
    obtain ⟨r2, q2⟩ := cut_fz_ext (n := n) hi q
    exact ⟨r ++ r2, by rw [q2, List.append_assoc]⟩

theorem cut_owned {b : Nat} (h : (K.cut H n).owned b) : K.owned b := by
  rcases h with ⟨i, q⟩ | ⟨i, q⟩
  · simp only [Kz.cut] at q
    split at q
    · exact .inl ⟨i, q⟩
    · cases q
  · simp only [Kz.cut] at q
    split at q
    · exact .inr ⟨i, q⟩
    · simp [nilv, Value.ownBlock] at q

theorem cut_Step {K0 : Kz} {w0 : World} (hs : Step K0 w0 K w) : Step K0 w0 (K.cut H n) w := by
  refine ⟨hs.os, hs.tape, hs.output, hs.size, hs.kept, fun b hb q => hs.owned b hb (cut_owned q), hs.sl, fun b hb e1 e2 => ?_, fun b hb e1 e2 => ?_, fun b c hb e1 e2 => ?_⟩
  · cases q : (K.cut H n).fz b with
    | none => exact absurd q e2
    | some c =>
      rcases cut_fz_inv b q with q | q | ⟨_, q⟩
      · obtain ⟨j, ro, el, sz, q1, q2, q3⟩ := q
        exact hs.owned b hb (.inr ⟨j, q2⟩)
      · obtain ⟨j, m, q1, q2, q3⟩ := q
        exact hs.owned b hb (.inl ⟨j, q2⟩)
      · exact hs.fz b hb e1 (by rw [q]; simp)
  · cases q : (K.cut H n).fm b with
    | none => exact absurd q e2
    | some c =>
      rcases cut_fm_inv b q with q | ⟨_, q⟩
      · obtain ⟨j, q1, q2, q3⟩ := q
        exact hs.owned b hb (.inl ⟨j, q2⟩)
      · exact hs.fm b hb e1 (by rw [q]; simp)
  · have hx : ¬ ∃ c, CutRow K H n b c ∨ CutVar K H n b c := by
      rintro ⟨d, ⟨j, ro, el, sz, q1, q2, q3⟩ | ⟨j, m, q1, q2, q3⟩⟩
      · exact e2 (hs.owned b hb (.inr ⟨j, q2⟩))
      · exact e2 (hs.owned b hb (.inl ⟨j, q2⟩))
    show (if h : ∃ c, CutRow K H n b c ∨ CutVar K H n b c then some h.choose else K.fz b) = some c
    rw [dif_neg hx]
    exact hs.fzx b c hb e1 e2

theorem BaseOK.take {b : Nat} (hb : BaseOK H b) (hn : n ≤ H.length) : BaseOK (H.take n) b := by
  intro id c hid
  have hget : ∀ o, (H.take n)[id]? = some o → H[id]? = some o := fun o q => by
    have hid : id < n := by
      have := (List.getElem?_eq_some_iff.1 q).1
      rw [List.length_take] at this
      omega
    rw [List.getElem?_take_of_lt hid] at q
    exact q
  exact ⟨fun q => (hb id c hid).1 (hget _ q), fun ro e sz q => (hb id c hid).2 ro e sz (hget _ q)⟩
end
end Go.Proofs.YtdhlgbnljhgabaaGreatDoor.AM

/- The control of a function's code: masks, loops. -/
namespace Go.Proofs.YtdhlgbnljhgabaaGreatDoor.AM
open Go

theorem mask_get : ∀ (live : List Bool) (t : List AV) (i : Nat), (mask live t).getD i .undef = bif live.getD i false then keepA (t.getD i .undef) else .undef
  | [], t, i => by
    simp only [mask, List.getD_eq_getElem?_getD, List.getElem?_map]
    cases t[i]? <;> simp
  | b :: l, [], i => by
    simp only [mask, List.getD_eq_getElem?_getD]
    simp [keepA, noLp]
  | b :: l, a :: t, 0 => by simp [mask]
  | b :: l, a :: t, i + 1 => by
    have := mask_get l t i
    simp only [List.getD_eq_getElem?_getD] at this
    simpa [mask, List.getD_eq_getElem?_getD] using this
theorem mask_length : ∀ (live : List Bool) (t : List AV), (mask live t).length = t.length
  | [], t => by simp [mask]
  | b :: l, [] => by simp [mask]
  | b :: l, a :: t => by simp [mask, mask_length l t]

theorem keepA_cases (a : AV) : (∃ c, a = .lvar c ∧ keepA a = .lvar c) ∨ (noVar a = true ∧ noLp a = true ∧ keepA a = a) ∨ (keepA a = .undef) := by
  by_cases hl : noVar a = true
  · have e : keepA a = bif noLp a then a else .undef := by cases a <;> first | rfl | (simp [noVar] at hl; done)
    cases h : noLp a with
    | true => exact .inr (.inl ⟨hl, rfl, by rw [e, h]; rfl⟩)
    | false => exact .inr (.inr (by rw [e, h]; rfl))
  · cases a <;> first | exact .inl ⟨_, rfl, rfl⟩ | exact absurd rfl hl

theorem StRel.mask {S : Nat → Bool} {K : Kz} {s : St} {a : Act} {w : World} (h : StRel S K s a w) (live : List Bool) :
    ∃ K', KL K K' ∧ Step K w K' w ∧ StRel S K' { s with t := AM.mask live s.t } a w := by
  let sl : Nat → Option Nat := fun i => bif live.getD i false then K.sl i else none
  have hsl : ∀ i b, sl i = some b → K.sl i = some b ∧ live.getD i false = true := fun i b e => by
    simp only [sl] at e
    cases q : live.getD i false with
    | true => rw [q] at e; exact ⟨e, rfl⟩
    | false => rw [q] at e; cases e
  refine ⟨K.withSl sl, ⟨Nat.le_refl _, fun _ _ e => e, fun _ => Nat.le_refl _, fun _ _ _ => rfl, fun _ c e => ⟨[], by rw [List.append_nil]; exact e⟩, fun _ _ e => e⟩,
    ⟨rfl, rfl, rfl, Nat.le_refl _, fun _ _ _ _ => rfl, fun _ _ q => q, fun i b q => .inl (hsl i b q).1, fun _ _ q k => absurd q k, fun _ _ q k => absurd q k, fun _ _ _ h _ => h⟩,
    inv_slots h.inv sl, h.d, by simp [mask_length, h.len], fun i => ?_, fun i b e => ?_, fun i j b e1 e2 => h.sli i j b (hsl i b e1).1 (hsl j b e2).1, fun i hi => ?_, h.base, h.bok⟩
  · simp only [mask_get]
    cases q : live.getD i false with
    | false => exact .undef _
    | true =>
      simp only [cond_true]
      have ht := h.tmp i
      rcases keepA_cases (s.t.getD i .undef) with ⟨c, e1, e2⟩ | ⟨e0, e1, e2⟩ | e2
      · rw [e2]
        rw [e1] at ht
        obtain ⟨b, cs, el, q1, q2, q3, q4, q5⟩ := ht
        exact ⟨b, cs, el, by show sl i = some b; simp only [sl, q, cond_true]; exact q1, q2, q3, RepL.slots sl q4 (noLpL_of_cell1L q5), q5⟩
      · rw [e2]
        exact tmpOK_of_rep (Rep.slots sl (ht.rep e0) e1)
      · rw [e2]; exact .undef _
  · obtain ⟨e1, e2⟩ := hsl i b e
    obtain ⟨⟨c, hc⟩, r⟩ := h.sl i b e1
    refine ⟨⟨c, ?_⟩, r⟩
    simp only [mask_get, e2, cond_true, hc, keepA]
  · simp only [mask_get]
    cases q : live.getD i false with
    | false => rfl
    | true =>
      simp only [cond_true]
      have := h.nos i hi
      rcases keepA_cases (s.t.getD i .undef) with ⟨c, e1, e2⟩ | ⟨e0, e1, e2⟩ | e2
      · rw [e1] at this; simp [noVar] at this
      · rw [e2]; exact this
      · rw [e2]; rfl

theorem truncL_get {n : Nat} {H : Hp} : ∀ {t t' : List AV}, truncL n H t = some t' → t'.length = t.length ∧ ∀ i, truncV n H (t.getD i .undef) = some (t'.getD i .undef)
  | [], t', h => by
    simp only [truncL, Option.some.injEq] at h
    subst h
    exact ⟨rfl, fun i => by simp [truncV]⟩
  | a :: t, t', h => by
    simp only [truncL] at h
    cases e : truncV n H a with
    | none => rw [e] at h; simp at h
    | some x =>
      rw [e] at h
      simp only [Option.bind_some] at h
      cases e2 : truncL n H t with
      | none => rw [e2] at h; simp at h
      | some y =>
        rw [e2] at h
        simp only [Option.map_some, Option.some.injEq] at h
        subst h
        obtain ⟨h1, h2⟩ := truncL_get e2
        refine ⟨by simp [h1], fun i => ?_⟩
        cases i with
        | zero => simpa using e
        | succ i => have := h2 i; simpa using this

theorem truncV_cases {n : Nat} {H : Hp} {a x : AV} (h : truncV n H a = some x) : (∃ c, a = .lvar c ∧ x = .lvar c ∧ belowL n c = true) ∨ (noVar a = true ∧ ((a = .undef ∧ x = .undef) ∨ (a = .nilS ∧ x = .nilS) ∨ freeze n H a = some x)) := by
  unfold truncV at h
  split at h
  · simp only [Option.some.injEq] at h; exact .inr ⟨rfl, .inl ⟨rfl, h.symm⟩⟩
  · split at h
    · rename_i q
      simp only [Option.some.injEq] at h
      exact .inl ⟨_, rfl, h.symm, q⟩
    · simp at h
  · simp only [Option.some.injEq] at h; exact .inr ⟨rfl, .inr (.inl ⟨rfl, h.symm⟩)⟩
  · rename_i q _
    refine .inr ⟨?_, .inr (.inr h)⟩
    cases a <;> first | rfl | exact absurd rfl (q _)

theorem StRel.trunc {S : Nat → Bool} {K0 K : Kz} {H0 : Hp} {w0 : World} {s s2 : St} {a : Act} {w : World} (h0 : Inv K0 H0 w0) (hn : s.base = H0.length) (hk : KL K0 K) (hs : Step K0 w0 K w) (h : StRel S K s a w) (ht : trunc s.base s = some s2) :
    ∃ K2, KL K0 K2 ∧ Step K0 w0 K2 w ∧ StRel S K2 s2 a w ∧ s2.H.length = s.base ∧ s2.base = s.base ∧ (∀ b, b ≤ s.base → BaseOK s.H b → BaseOK s2.H b) := by
  unfold AM.trunc at ht
  split at ht
  · rename_i hl
    simp only [Option.some.injEq] at ht
    subst ht
    exact ⟨K, hk, hs, h, hl, rfl, fun _ _ q => q⟩
  · cases e : truncL s.base s.H s.t with
    | none => rw [e] at ht; simp at ht
    | some t =>
      rw [e] at ht
      simp only [Option.map_some, Option.some.injEq] at ht
      subst ht
      obtain ⟨hlen, hget⟩ := truncL_get e
      have hb := h.base
      refine ⟨K.cut s.H s.base, cut_KL h0 hn hk h.inv, cut_Step hs, ⟨h.inv.cut hb h.bok, h.d, by rw [h.len]; exact hlen.symm, fun i => ?_, fun i b q => ?_, h.sli, fun i hi => ?_, by simp only [List.length_take]; omega, h.bok.take hb⟩, by simp only [List.length_take]; omega, rfl, fun b _ q => q.take hb⟩
      · have hx := hget i
        have hti := h.tmp i
        rcases truncV_cases hx with ⟨c, q1, q2, q3⟩ | ⟨q0, q⟩
        · rw [q1] at hti
          show TmpOK _ _ _ _ (t.getD i .undef)
          rw [q2]
          obtain ⟨b, cs, el, k1, k2, k3, k4, k5⟩ := hti
          exact ⟨b, cs, el, k1, k2, k3, cut_belowL h.inv k4 q3, k5⟩
        · have hr := hti.rep q0
          show TmpOK _ _ _ _ (t.getD i .undef)
          rcases q with ⟨q1, q2⟩ | ⟨q1, q2⟩ | q
          · rw [q2]; exact .undef _
          · rw [q2]
            rw [q1] at hr
            have := rep_nilS hr
            show Rep _ _ _
            rw [this]
            exact .nilS
          · exact tmpOK_of_rep (frz_rep h.inv 8 hr q)
      · obtain ⟨⟨c, hc⟩, q1, q2, q3, q4⟩ := h.sl i b q
        refine ⟨?_, fun j q5 => ?_, fun j q5 => ?_, ?_, ?_⟩
        · have hx := hget i
          rw [hc] at hx
          rcases truncV_cases hx with ⟨c', k1, k2, k3⟩ | ⟨k0, _⟩
          · exact ⟨c', k2⟩
          · simp [noVar] at k0
        · simp only [Kz.cut] at q5
          split at q5
          · exact q1 j q5
          · cases q5
        · simp only [Kz.cut] at q5
          split at q5
          · exact q2 j q5
          · simp [nilv, Value.ownBlock] at q5
        · cases q5 : (K.cut s.H s.base).fz b with
          | none => rfl
          | some x =>
            rcases cut_fz_inv b q5 with q6 | q6 | ⟨_, q6⟩
            · obtain ⟨j, ro, el, sz, k1, k2, k3⟩ := q6
              exact absurd k2 (q2 j)
            · obtain ⟨j, m, k1, k2, k3⟩ := q6
              exact absurd k2 (q1 j)
            · rw [q3] at q6; cases q6
        · cases q5 : (K.cut s.H s.base).fm b with
          | none => rfl
          | some x =>
            rcases cut_fm_inv b q5 with q6 | ⟨_, q6⟩
            · obtain ⟨j, k1, k2, k3⟩ := q6
              exact absurd k2 (q1 j)
            · rw [q4] at q6; cases q6
      · have hx := hget i
        have := h.nos i hi
        rcases truncV_cases hx with ⟨c', k1, k2, k3⟩ | ⟨k0, q⟩
        · rw [k1] at this; simp [noVar] at this
        · show noVar (t.getD i .undef) = true
          rcases q with ⟨q1, q2⟩ | ⟨q1, q2⟩ | q
          · rw [q2]; rfl
          · rw [q2]; rfl
          · exact noVar_of_rep (frz_rep h.inv 8 ((h.tmp i).rep k0) q)

/-- A loop whose rounds are counted. -/
theorem wp_loop_nat {P : Program} {Q : Exit → Act → World → Prop} {c : Code} (I : Nat → Act → World → Prop)
    (round : ∀ n a w, I n a w → c.wp P (Exit.then (fun a' w' => ∃ m, m < n ∧ I m a' w') Q) a w) {n : Nat} {a : Act} {w : World} (h₀ : I n a w) : (Code.loop c).wp P Q a w := by
  intro b k cs
  have key : ∀ n a w, I n a w → ∃ e a' w', Q e a' w' ∧ Arrives P (lone (b.at a (.code c :: .inLoop c :: k)) cs w) b k cs e a' w' := by
    intro n
    induction n using Nat.strongRecOn with
    | _ n ih =>
      intro a w hI
      obtain ⟨e, a₁, w₁, hq, harr⟩ := round n a w hI b (.inLoop c :: k) cs
      cases e with
      | normal =>
        obtain ⟨m, hlt, hI₁⟩ := hq
        obtain ⟨e₂, a₂, w₂, hq₂, harr₂⟩ := ih m hlt a₁ w₁ hI₁
        exact ⟨e₂, a₂, w₂, hq₂, .of_steps (Steps.trans harr (.one step_inLoop)) harr₂⟩
      | exit id => exact ⟨_, a₁, w₁, hq, .pass (x := .inLoop c) rfl (fun _ _ => .inl (by simp)) harr⟩
      | goto l => exact ⟨_, a₁, w₁, hq, .pass (x := .inLoop c) rfl (fun _ _ => .inl (by simp)) harr⟩
      | ret => exact ⟨_, a₁, w₁, hq, .pass (x := .inLoop c) rfl (fun _ _ => .inl (by simp)) harr⟩
      | panic ch => exact ⟨_, a₁, w₁, hq, .pass (x := .inLoop c) rfl (fun _ _ => .inl (by simp)) harr⟩
      | outgrown => exact ⟨_, a₁, w₁, hq, .pass (x := .inLoop c) rfl (fun _ _ => .inl (by simp)) harr⟩
  obtain ⟨e, a', w', hq, harr⟩ := key n a w h₀
  exact ⟨e, a', w', hq, .of_steps (.one step_loop) harr⟩
end Go.Proofs.YtdhlgbnljhgabaaGreatDoor.AM

/- A function's code, walked by the abstract machine. -/
namespace Go.Proofs.YtdhlgbnljhgabaaGreatDoor.AM
open Go

def chkCode (P : Program) (S : Nat → Bool) (cd : Array Oper → List DOper → Bool) : ACode → Code → Bool
  | .masked b _, c => chkCode P S cd b c
  | .skip, .skip => true
  | .skip, .label _ => true
  | .region aos, .region _ ops false => chkOs P S ops ops.toList aos
  | .draw dos, .region _ ops true => cd ops dos
  | .seq a b, .seq x y => chkCode P S cd a x && chkCode P S cd b y
  | .cond c' a b, .cond c x y => opdOK c c' && (chkCode P S cd a x && chkCode P S cd b y)
  | .block id' b, .block id x => decide (id' = id) && chkCode P S cd b x
  | .loop _ b, .loop x => chkCode P S cd b x
  | .exit id', .exit id => decide (id' = id)
  | .ret, .ret => true
  | _, _ => false

def Aft (S : Nat → Bool) (K : Kz) (s : St) (w : World) (r : Out × Hp) (k : Ex → St → R) : Exit → Act → World → Prop
  | .normal, a', w' => Nrm S K s w r (k .normal) a' w'
  | .exit id, a', w' => Nrm S K s w r (k (.exit id)) a' w'
  | .ret, a', w' => Nrm S K s w r (k .ret) a' w'
  | .panic ch, a', w' => ∃ pv v s' K', ch = [{ v := pv, recovered := false }] ∧ k (.panic v) s' = some r ∧ a'.defers = [] ∧ KL K K' ∧ Step K w K' w' ∧ Inv K' s'.H w' ∧ Rep K' pv v ∧ Keeps s s'
  | _, _, _ => False

theorem Aft.back {S : Nat → Bool} {K K1 : Kz} {s s1 : St} {w w1 : World} {r : Out × Hp} {k : Ex → St → R} {e : Exit} {a' : Act} {w' : World} (h1 : KL K K1) (h2 : Step K w K1 w1) (h3 : Keeps s s1) (h : Aft S K1 s1 w1 r k e a' w') : Aft S K s w r k e a' w' := by
  cases e with
  | normal => exact Nrm.back h1 h2 h3 h
  | exit id => exact Nrm.back h1 h2 h3 h
  | ret => exact Nrm.back h1 h2 h3 h
  | panic ch =>
    obtain ⟨pv, v, s', K', q1, q2, q3, q4, q5, q6, q7, q8⟩ := h
    exact ⟨pv, v, s', K', q1, q2, q3, h1.trans q4, h2.trans q5, q6, q7, h3.trans q8⟩
  | _ => exact h

/-- What is to be shown of a region that draws its order. -/
def DrawOK (P : Program) (S : Nat → Bool) (ρ : Rho) (cd : Array Oper → List DOper → Bool) : Prop :=
  ∀ id ops dos, cd ops dos = true → ∀ (s : St) (K : Kz) (a : Act) (w : World) (r : Out × Hp) (k : St → R) (kp : AV → Hp → R), StRel S K s a w → opsD ρ dos 0 [] [] s k kp = some r →
    ∀ Q : Exit → Act → World → Prop, (∀ a' w', Nrm S K s w r k a' w' → Q .normal a' w') → (∀ pv a' w', Pnc K s w r kp pv a' w' → Q (.panic [{ v := pv, recovered := false }]) a' w') → (Code.region id ops true).wp P Q a w

mutual
theorem rep_below {K : Kz} {H : Hp} {w : World} (hi : Inv K H w) : ∀ {v : Value} {a : AV}, Rep K v a → noLp a = true → below H.length a = true
  | _, _, .undef v, _ | _, _, .nilS, _ | _, _, .nilPtr, _ | _, _, .nilMap, _ | _, _, .nilFunc, _ | _, _, .nilIface, _ | _, _, .bool _, _ | _, _, .int _ _, _ | _, _, .str _, _ | _, _, .list0, _ | _, _, .list .., _ | _, _, .fptr .., _ | _, _, .fmap .., _ => rfl
  | _, _, .own id k v hd hn hv ho, _ => by simp only [below, decide_eq_true_eq]; rw [← hi.n]; exact hd
  | _, _, .ptr id off b hb, _ => by simp only [below, decide_eq_true_eq]; rw [← hi.n]; exact hi.vbd id b hb
  | _, _, .rptr id off k v hd hn hv ho, _ => by simp only [below, decide_eq_true_eq]; rw [← hi.n]; exact hd
  | _, _, .map id b hb, _ => by simp only [below, decide_eq_true_eq]; rw [← hi.n]; exact hi.vbd id b hb
  | _, _, .lptr .., h => by simp [noLp] at h
  | _, _, .func fn vf vc f c hf hc, h => by
    simp only [noLp, Bool.and_eq_true] at h
    simp only [below, Bool.and_eq_true]
    exact ⟨rep_belowL hi hf h.1, rep_belowL hi hc h.2⟩
  | _, _, .iface t v a hv, h => by simp only [noLp] at h; simp only [below]; exact rep_below hi hv h
  | _, _, .agg vs as hv, h => by simp only [noLp] at h; simp only [below]; exact rep_belowL hi hv h
  | _, _, .tuple vs as hv, h => by simp only [noLp] at h; simp only [below]; exact rep_belowL hi hv h
theorem rep_belowL {K : Kz} {H : Hp} {w : World} (hi : Inv K H w) : ∀ {v : List Value} {a : List AV}, RepL K v a → noLpL a = true → belowL H.length a = true
  | _, _, .nil, _ => rfl
  | _, _, .cons v a vs as hv hl, h => by
    simp only [noLpL, Bool.and_eq_true] at h
    simp only [belowL, Bool.and_eq_true]
    exact ⟨rep_below hi hv h.1, rep_belowL hi hl h.2⟩
end

theorem baseOK_all {K : Kz} {H : Hp} {w : World} (hi : Inv K H w) : BaseOK H H.length := by
  intro id c _
  refine ⟨fun q => ?_, fun ro e sz q => ?_⟩
  · obtain ⟨_, _, q3, b, cs, el, _, _, q6⟩ := hi.obj id _ q
    exact rep_belowL hi q6 (noLpL_of_cell1L q3)
  · obtain ⟨_, _, q3, _, xs, _, q6⟩ := hi.obj id _ q
    exact rep_belowL hi q6 (noLpL_of_cell1L q3)

theorem aft_pnc {S : Nat → Bool} {K : Kz} {s : St} {w : World} {r : Out × Hp} {k : Ex → St → R} {pv : Value} {a' : Act} {w' : World} (h : Pnc K s w r (fun v H => k (.panic v) (setH s H)) pv a' w') : Aft S K s w r k (.panic [{ v := pv, recovered := false }]) a' w' := by
  obtain ⟨v, H, K', q1, q2, q3, q4, q5, q6, q7⟩ := h
  exact ⟨pv, v, setH s H, K', rfl, q1, q2, q3, q4, q5, q6, q7⟩

theorem cond_sound {S : Nat → Bool} {K : Kz} {s : St} {a : Act} {w : World} (h : StRel S K s a w) {c : Operand} {c' : Opd} {t : Bool} (ho : opdOK c c' = true) (he : ev s.t c' = .bool t) : a.eval c = .bool t := by
  have := h.ev ho
  rw [he] at this
  exact rep_bool this

theorem exec_sound {P : Program} {S : Nat → Bool} {ρ : Rho} {cd : Array Oper → List DOper → Bool} {N : Nat} (hρ : RhoOK P ρ) (hD : DrawOK P S ρ cd) :
    ∀ {ac : ACode} {c : Code}, chkCode P S cd ac c = true → ∀ {s : St} {K : Kz} {a : Act} {w : World} {k : Ex → St → R} {r : Out × Hp}, StRel S K s a w → exec ρ N ac s k = some r → c.wp P (Aft S K s w r k) a w := by
  intro ac
  induction ac with
  | skip =>
    intro c hc s K a w k r h hr
    cases c <;> first | (simp [chkCode] at hc; done) | skip
    · exact wp_skip ⟨s, K, hr, KL.refl K, Step.refl K w, h, Keeps.refl s⟩
    · exact wp_label ⟨s, K, hr, KL.refl K, Step.refl K w, h, Keeps.refl s⟩
  | region aos =>
    intro c hc s K a w k r h hr
    cases c <;> first | (simp [chkCode] at hc; done) | skip
    rename_i id ops draw
    cases draw
    · simp only [chkCode] at hc
      simp only [exec] at hr
      exact wp_region_list (ops_sound hρ hc h hr (fun _ _ q => q) (fun _ _ _ q => aft_pnc q))
    · simp [chkCode] at hc
  | draw dos =>
    intro c hc s K a w k r h hr
    cases c <;> first | (simp [chkCode] at hc; done) | skip
    rename_i id ops draw
    cases draw
    · simp [chkCode] at hc
    · simp only [chkCode] at hc
      simp only [exec] at hr
      exact hD id ops dos hc s K a w r _ _ h hr _ (fun _ _ q => q) (fun _ _ _ q => aft_pnc q)
  | seq x y ihx ihy =>
    intro c hc s K a w k r h hr
    cases c <;> first | (simp [chkCode] at hc; done) | skip
    simp only [chkCode, Bool.and_eq_true] at hc
    simp only [exec] at hr
    refine wp_seq (Code.wp_mono (fun e a' w' q => ?_) (ihx hc.1 h hr))
    cases e with
    | normal =>
      obtain ⟨s', K', q1, q2, q3, q4, q5⟩ := q
      exact Code.wp_mono (fun _ _ _ q => q.back q2 q3 q5) (ihy hc.2 q4 q1)
    | exit id => exact q
    | ret => exact q
    | panic ch => exact q
    | _ => exact q
  | cond c' x y ihx ihy =>
    intro c hc s K a w k r h hr
    cases c <;> first | (simp [chkCode] at hc; done) | skip
    simp only [chkCode, Bool.and_eq_true] at hc
    simp only [exec] at hr
    cases he : ev s.t c' <;> rw [he] at hr <;> first | (simp at hr; done) | skip
    rename_i t
    refine wp_cond (cond_sound h hc.1 he) ?_
    cases t with
    | true => simp only [cond_true] at hr; exact ihx hc.2.1 h hr
    | false => simp only [cond_false] at hr; exact ihy hc.2.2 h hr
  | block id' x ih =>
    intro c hc s K a w k r h hr
    cases c <;> first | (simp [chkCode] at hc; done) | skip
    simp only [chkCode, Bool.and_eq_true, decide_eq_true_eq] at hc
    obtain ⟨rfl, hc⟩ := hc
    simp only [exec] at hr
    refine wp_block (Code.wp_mono (fun e a' w' q => ?_) (ih hc h hr))
    cases e with
    | exit i =>
      obtain ⟨s', K', q1, q2⟩ := q
      simp only [Exit.inBlock]
      by_cases hi : i = id'
      · subst hi
        rw [if_pos rfl]
        simp only [beq_self_eq_true, cond_true] at q1
        exact ⟨s', K', q1, q2⟩
      · rw [if_neg hi]
        have : (i == id') = false := by simpa using hi
        simp only [this, cond_false] at q1
        exact ⟨s', K', q1, q2⟩
    | normal => exact q
    | ret => exact q
    | panic ch => exact q
    | _ => exact q
  | masked x live ih =>
    intro c hc s K a w k r h hr
    simp only [chkCode] at hc
    simp only [exec] at hr
    refine Code.wp_mono (fun e a' w' q => ?_) (ih hc h hr)
    cases e with
    | normal =>
      obtain ⟨s', K', q1, q2, q3, q4, q5⟩ := q
      obtain ⟨K2, k1, k2, k3⟩ := q4.mask live
      exact ⟨_, K2, q1, q2.trans k1, q3.trans k2, k3, q5⟩
    | exit id => exact q
    | ret => exact q
    | panic ch => exact q
    | _ => exact q
  | exit id' =>
    intro c hc s K a w k r h hr
    cases c <;> first | (simp [chkCode] at hc; done) | skip
    simp only [chkCode, decide_eq_true_eq] at hc
    subst hc
    exact wp_exit ⟨s, K, hr, KL.refl K, Step.refl K w, h, Keeps.refl s⟩
  | ret =>
    intro c hc s K a w k r h hr
    cases c <;> first | (simp [chkCode] at hc; done) | skip
    exact wp_ret ⟨s, K, hr, KL.refl K, Step.refl K w, h, Keeps.refl s⟩
  | loop live x ih =>
    intro c hc s K a w k r h hr
    cases c <;> first | (simp [chkCode] at hc; done) | skip
    simp only [chkCode] at hc
    simp only [exec] at hr
    obtain ⟨K1, k1, k2, k3⟩ := h.mask live
    let I : Nat → Act → World → Prop := fun n a' w' => ∃ s' K', loopN (fun s k => exec ρ N x s k) live (fun e s' => k e { s' with base := s.base }) n s' = some r ∧ KL K K' ∧ Step K w K' w' ∧ StRel S K' s' a' w' ∧ s'.base = s.H.length ∧ s'.H.length = s.H.length ∧ (∀ b, b ≤ s.H.length → BaseOK s.H b → BaseOK s'.H b)
    refine wp_loop_nat I ?_ (n := N) ⟨_, K1, hr, k1, k2, ⟨k3.inv, k3.d, k3.len, k3.tmp, k3.sl, k3.sli, k3.nos, Nat.le_refl _, fun id c hid => ?_⟩, rfl, rfl, fun _ _ q => q⟩
    · rintro n a' w' ⟨s', K', q1, q2, q3, q4, q5, q6, q7⟩
      cases n with
      | zero => simp [loopN] at q1
      | succ n =>
        simp only [loopN] at q1
        have hkp : ∀ {s2 : St}, Keeps s' s2 → Keeps s { s2 with base := s.base } := fun {s2} kp => ⟨rfl, fun b hb q => kp.2 b (by rw [q5]; have := h.base; omega) (q7 b (by have := h.base; omega) q)⟩
        have hout : ∀ {s2 : St} {K2 : Kz} {a2 : Act} {w2 : World}, Keeps s' s2 → KL K' K2 → StRel S K2 s2 a2 w2 → StRel S K2 { s2 with base := s.base } a2 w2 := fun {s2 K2 a2 w2} kp kl hrel => by
          have hb := hrel.base
          rw [kp.1, q5] at hb
          exact ⟨hrel.inv, hrel.d, hrel.len, hrel.tmp, hrel.sl, hrel.sli, hrel.nos, by have := h.base; show s.base ≤ s2.H.length; omega, (hkp kp).2 s.base (Nat.le_refl _) h.bok⟩
        refine Code.wp_mono (fun e a2 w2 q => ?_) (ih hc q4 q1)
        cases e with
        | normal =>
          obtain ⟨s2, K2, l1, l2, l3, l4, l5⟩ := q
          simp only at l1
          obtain ⟨K3, m1, m2, m3⟩ := l4.mask live
          cases ht : trunc s'.base { s2 with t := AM.mask live s2.t } with
          | none => rw [ht] at l1; simp at l1
          | some s3 =>
            rw [ht] at l1
            simp only at l1
            obtain ⟨K4, n1, n2, n3, n4, n5, n6⟩ := StRel.trunc (s := { s2 with t := AM.mask live s2.t }) q4.inv (by show s2.base = _; rw [l5.1, q5, q6]) (l2.trans m1) (l3.trans m2) m3 (by show trunc s2.base { s2 with t := AM.mask live s2.t } = some s3; rw [show trunc s2.base { s2 with t := AM.mask live s2.t } = trunc s'.base { s2 with t := AM.mask live s2.t } from congrArg (fun z => trunc z { s2 with t := AM.mask live s2.t }) l5.1]; exact ht)
            refine ⟨n, Nat.lt_succ_self n, s3, K4, l1, q2.trans n1, q3.trans n2, n3, ?_, ?_, fun b hb qb => n6 b ?_ (l5.2 b ?_ (q7 b hb qb))⟩
            · rw [n5]; show s2.base = _; rw [l5.1, q5]
            · rw [n4]; show s2.base = _; rw [l5.1, q5]
            · show b ≤ s2.base; rw [l5.1, q5]; exact hb
            · first | (rw [q5]; exact hb) | omega
        | exit id =>
          obtain ⟨s2, K2, l1, l2, l3, l4, l5⟩ := q
          exact ⟨_, K2, l1, q2.trans l2, q3.trans l3, hout l5 l2 l4, hkp l5⟩
        | ret =>
          obtain ⟨s2, K2, l1, l2, l3, l4, l5⟩ := q
          exact ⟨_, K2, l1, q2.trans l2, q3.trans l3, hout l5 l2 l4, hkp l5⟩
        | panic ch =>
          obtain ⟨pv, v, s2, K2, l1, l2, l3, l4, l5, l6, l7, l8⟩ := q
          exact ⟨pv, v, _, K2, l1, l2, l3, q2.trans l4, q3.trans l5, l6, l7, hkp l8⟩
        | _ => exact q
    · exact baseOK_all h.inv id c hid
end Go.Proofs.YtdhlgbnljhgabaaGreatDoor.AM
