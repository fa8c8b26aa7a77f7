/- Proved: florinlaw26.ScriptLong returns true for every input (the listed package-level variables hold what the program's text lays; no other condition). Part 2 of 13. -/
import Derived.Test.YtdhlgbnljhgabaaGreatDoorAm1
/- Quiet operations: parts, indexes, slices, lengths. -/
namespace Go.Proofs.YtdhlgbnljhgabaaGreatDoor.AM
open Go

theorem rep_agg {K : Kz} {v : Value} {c : List AV} (h : Rep K v (.agg c)) : ∃ vs : List Value, v = .agg vs.toArray ∧ RepL K vs c := by cases h; exact ⟨_, rfl, by assumption⟩
theorem rep_tuple {K : Kz} {v : Value} {c : List AV} (h : Rep K v (.tuple c)) : ∃ vs : List Value, v = .tuple vs.toArray ∧ RepL K vs c := by cases h; exact ⟨_, rfl, by assumption⟩

/-- A part of a struct's or an array's value. -/
theorem run_part {P : Program} {w : World} {K : Kz} {t : TypeId} {vs : List Value} {c : List AV} {off sz : Nat} {ag : Bool} {v : AV} (hr : RepL K vs c) (h1 : isAggP P t ag = true) (h2 : ag = true → szP P t sz = true) (hv : rd c off sz ag = some v) :
    ∃ v', (part t vs.toArray off).run P w = .ok v' w ∧ Rep K v' v := by
  unfold rd at hv
  cases ag with
  | true =>
    simp only [if_true] at hv
    split at hv
    · rename_i hl
      simp only [Option.some.injEq] at hv
      subst hv
      refine ⟨.agg ((vs.drop off).take sz).toArray, ?_, .agg _ _ ((hr.drop off).take sz)⟩
      simp only [part, Sem.run_bind, run_isAgg h1, Result.andThen_ok, if_true, run_sizeOf (h2 rfl), Sem.run_pure]
      congr 2
      simp [List.extract_eq_take_drop]
    · simp at hv
  | false =>
    simp only [Bool.false_eq_true, if_false] at hv
    obtain ⟨v', e1, e2⟩ := hr.get hv
    exact ⟨v', by simp [part, Sem.run_bind, run_isAgg h1, e1], e2⟩

/-- A field's place. -/
def fieldP (P : Program) (t : TypeId) (f off : Nat) (g : TypeId → Bool) : Bool :=
  match P.underlying t with
  | some (.struct fs) => match fs[f]? with
    | some q => decide (q.offset = off) && g q.type
    | none => false
  | _ => false

def szPos (P : Program) (t : TypeId) : Bool := match P.info? t with | some i => decide (0 < i.size) | none => false

theorem run_sizePos {P : Program} {t : TypeId} (h : szPos P t = true) (w : World) : ∃ n, 0 < n ∧ (Go.sizeOf t).run P w = .ok n w := by
  unfold szPos at h
  cases hq : P.info? t with
  | none => rw [hq] at h; simp at h
  | some i => rw [hq] at h; simp only [decide_eq_true_eq] at h; exact ⟨i.size, h, by simp [Go.sizeOf, typeInfo, hq]⟩

theorem run_field {P : Program} {w : World} {K : Kz} {t : TypeId} {f off sz : Nat} {ag : Bool} {x : Value} {c : List AV} {v : AV} (hx : Rep K x (.agg c)) (ht : fieldP P t f off (fun u => isAggP P u ag && (!ag || szP P u sz)) = true) (hv : rd c off sz ag = some v) :
    ∃ v', (Instr.field t x f).run P w = .ok v' w ∧ Rep K v' v := by
  obtain ⟨vs, rfl, hr⟩ := rep_agg hx
  unfold fieldP at ht
  split at ht
  · rename_i fs hd
    split at ht
    · rename_i q hq
      simp only [Bool.and_eq_true, decide_eq_true_eq, Bool.or_eq_true, Bool.not_eq_true'] at ht
      obtain ⟨h0, h1, h2⟩ := ht
      subst h0
      obtain ⟨v', e1, e2⟩ := run_part (P := P) (w := w) (t := q.type) hr h1 (fun e => by rcases h2 with h2 | h2 <;> simp_all) hv
      exact ⟨v', by simp [Instr.field, run_underlying hd, hq, asAgg, e1], e2⟩
    · simp at ht
  · simp at ht

theorem Inv.rptr {K : Kz} {H : Hp} {w : World} (hi : Inv K H w) {p : Value} {id off n : Nat} (hx : Rep K p (.rptr id off n)) (hr : (rowOf H id n).isSome = true) :
    n = K.ver id ∧ ∃ b cap, K.rv id = .slice (some ⟨b, 0, none⟩) n cap ∧ p = .pointer (some ⟨b, off, none⟩) := by
  obtain ⟨r, hr⟩ := Option.isSome_iff_exists.1 hr
  obtain ⟨h1, h2⟩ := rowOf_some hr
  obtain ⟨h3, _⟩ := hi.row_ver h1 h2
  cases hx with
  | rptr _ _ _ _ hd hn hv ho => exact ⟨h3, hv h3⟩

theorem Inv.own {K : Kz} {H : Hp} {w : World} (hi : Inv K H w) {p : Value} {id n : Nat} {r : Bool × Bool × Nat × Nat × List AV} (hx : Rep K p (.own id n)) (hr : rowOf H id n = some r) :
    n = K.ver id ∧ p = K.rv id ∧ 0 < r.2.2.2.1 ∧ ∃ xs, w.ownsRow 0 r.2.2.1 r.2.2.2.1 p n xs ∧ RepL K xs r.2.2.2.2 := by
  obtain ⟨h1, h2⟩ := rowOf_some hr
  obtain ⟨h3, xs, h4, h5, h6⟩ := hi.row_ver h1 h2
  cases hx with
  | own _ _ _ hd hn hv ho =>
    have := hv h3
    subst this
    exact ⟨h3, rfl, h6, xs, h4, h5⟩

theorem offBy_rep {K : Kz} {H : Hp} {w : World} (hi : Inv K H w) {p : Value} {x v : AV} {n : Nat} (hx : Rep K p x) (hv : offBy H n x = some v) : ∃ b o, p = .pointer (some ⟨b, o, none⟩) ∧ Rep K (.pointer (some ⟨b, o + n, none⟩)) v := by
  cases x with
  | lptr s off =>
    cases hx with
    | lptr _ _ b hb => simp only [offBy, Option.some.injEq] at hv; subst hv; exact ⟨b, off, rfl, .lptr s _ b hb⟩
  | ptr id off =>
    cases hx with
    | ptr _ _ b hb => simp only [offBy, Option.some.injEq] at hv; subst hv; exact ⟨b, off, rfl, .ptr id _ b hb⟩
  | fptr cells off =>
    cases hx with
    | fptr b d _ c _ hf hw =>
      simp only [offBy, Option.some.injEq] at hv; subst hv
      refine ⟨b, d + off, rfl, ?_⟩
      rw [Nat.add_assoc]
      exact .fptr b d _ c cells hf hw
  | rptr id off m =>
    simp only [offBy] at hv
    split at hv
    · rename_i hr
      simp only [Option.some.injEq] at hv; subst hv
      obtain ⟨h1, b, cap, h2, h3⟩ := hi.rptr hx hr
      cases hx with
      | rptr _ _ _ _ hd hn hvv ho =>
        exact ⟨b, off, h3, .rptr id _ m _ hd hn (fun e => ⟨b, cap, h2, rfl⟩) rfl⟩
    · simp at hv
  | _ => simp [offBy] at hv

theorem run_fieldAt {P : Program} {w : World} {K : Kz} {H : Hp} (hi : Inv K H w) {t : TypeId} {f off : Nat} {x : Value} {y v : AV} (hx : Rep K x y) (ht : fieldP P t f off (szPos P) = true) (hv : offBy H off y = some v) :
    ∃ v', (Instr.fieldAt t x f).run P w = .ok v' w ∧ Rep K v' v := by
  obtain ⟨b, o, rfl, hr⟩ := offBy_rep hi hx hv
  unfold fieldP at ht
  split at ht
  · rename_i fs hd
    split at ht
    · rename_i q hq
      simp only [Bool.and_eq_true, decide_eq_true_eq] at ht
      obtain ⟨h0, h1⟩ := ht
      subst h0
      obtain ⟨n, hn, hs⟩ := run_sizePos h1 w
      refine ⟨_, ?_, hr⟩
      simp [Instr.fieldAt, run_underlying hd, hq, Instr.sureAddr, fieldPlace, hs, show n ≠ 0 by omega, add_lit]
    · simp at ht
  · simp at ht

/-- An index's or a slice expression's operand type. -/
def xkP (P : Program) (t : TypeId) (k : XK) : Bool :=
  match k, P.underlying t with
  | .str, some .string => true
  | .sl sz, some (.slice e) => szP P e sz
  | .arr n sz, some (.array m e) => decide (n = m) && szP P e sz
  | _, _ => false

theorem xkP_sl {P : Program} {t : TypeId} {sz : Nat} (h : xkP P t (.sl sz) = true) : ∃ e, P.underlying t = some (.slice e) ∧ szP P e sz = true := by
  unfold xkP at h
  split at h <;> first | (simp_all; done) | skip

theorem xkP_arr {P : Program} {t : TypeId} {n sz : Nat} (h : xkP P t (.arr n sz) = true) : ∃ e, P.underlying t = some (.array n e) ∧ szP P e sz = true := by
  cases hq : P.underlying t with
  | none => simp [xkP, hq] at h
  | some d =>
    cases d with
    | array m e =>
      simp only [xkP, hq, Bool.and_eq_true, decide_eq_true_eq] at h
      exact ⟨e, by rw [h.1], h.2⟩
    | _ => simp [xkP, hq] at h

theorem xkP_str {P : Program} {t : TypeId} (h : xkP P t .str = true) : P.underlying t = some .string := by
  unfold xkP at h
  split at h <;> simp_all

theorem run_indexAt {P : Program} {w : World} {K : Kz} {H : Hp} (hi : Inv K H w) {t : TypeId} {k : XK} {x i : Value} {y j v : AV} (hx : Rep K x y) (hj : Rep K i j) (ht : xkP P t k = true) (hv : indexA H k y j = some v) :
    ∃ v', (Instr.indexAt t x i).run P w = .ok v' w ∧ Rep K v' v := by
  unfold indexA at hv
  split at hv
  · rename_i kk n
    have := rep_int hj; subst this
    split at hv
    · rename_i sz c m
      obtain ⟨e, hd, hs⟩ := xkP_sl ht
      split at hv
      · rename_i hb
        simp only [Option.some.injEq] at hv; subst hv
        rcases list_at hi hx with ⟨e1, e2, e3⟩ | ⟨b, off, cap, f, e1, hc, hat, hw, hf⟩
        · omega
        · subst e1
          refine ⟨.pointer (some ⟨b, off + n.toNat * sz, none⟩), ?_, .fptr b off _ f c hf hw⟩
          simp [Instr.indexAt, asIntOf, run_underlying hd, run_sizeOf hs, hb.1, hb.2, add_lit]
      · simp at hv
    · rename_i sz id m
      obtain ⟨e, hd, hs⟩ := xkP_sl ht
      split at hv
      · rename_i hb
        simp only [Option.some.injEq] at hv; subst hv
        obtain ⟨r, hr⟩ := Option.isSome_iff_exists.1 hb.2.2
        obtain ⟨h1, h2, h3, xs, h4, h5⟩ := hi.own hx hr
        rcases ownsRow_cells h4 with ⟨q1, q2, q3⟩ | ⟨b, cap, q1, q2, q3⟩
        · omega
        · cases hx with
          | own _ _ _ hd' hn hvv ho =>
            refine ⟨.pointer (some ⟨b, n.toNat * sz, none⟩), ?_, .rptr id _ m _ hd' hn (fun e' => ⟨b, cap, by rw [← h2]; exact q1, rfl⟩) rfl⟩
            rw [q1]
            simp [Instr.indexAt, asIntOf, run_underlying hd, run_sizeOf hs, hb.1, hb.2.1, add_lit]
      · simp at hv
    · rename_i m sz y
      obtain ⟨e, hd, hs⟩ := xkP_arr ht
      split at hv
      · rename_i hb
        obtain ⟨b, o, rfl, hr⟩ := offBy_rep hi hx hv
        refine ⟨_, ?_, hr⟩
        simp [Instr.indexAt, Instr.sureAddr, asIntOf, run_underlying hd, run_sizeOf hs, hb.1, hb.2, add_lit]
      · simp at hv
    · simp at hv
  · simp at hv

def xeP (P : Program) (t : TypeId) (k : XK) (ag : Bool) : Bool :=
  match k, P.underlying t with
  | .arr _ _, some (.array _ e) => isAggP P e ag
  | .str, _ => true
  | _, _ => false

theorem run_index {P : Program} {w : World} {K : Kz} {t : TypeId} {k : XK} {ag : Bool} {x i : Value} {y j v : AV} (hx : Rep K x y) (hj : Rep K i j) (ht : xkP P t k = true) (he : xeP P t k ag = true) (hv : indexV k ag y j = some v) :
    ∃ v', (Instr.index t x i).run P w = .ok v' w ∧ Rep K v' v := by
  unfold indexV at hv
  split at hv
  · rename_i kk n
    have := rep_int hj; subst this
    split at hv
    · rename_i s
      have := rep_str hx; subst this
      have hd := xkP_str ht
      split at hv
      · rename_i hb
        cases hq : s[n.toNat]? with
        | none => rw [hq] at hv; simp at hv
        | some u =>
          rw [hq] at hv
          simp only [Option.map_some, Option.some.injEq] at hv
          subst hv
          refine ⟨_, ?_, .int _ _⟩
          have hl := (List.getElem?_eq_some_iff.1 hq).1
          have hg : (ByteArray.mk s.toArray)[n.toNat]? = some u := by
            rw [ByteArray.getElem?_lt' _ _ (by rw [size_str]; exact hl)]
            congr 1
            have := (List.getElem?_eq_some_iff.1 hq).2
            rw [← this]
            rfl
          simp [Instr.index, asIntOf, run_underlying hd, hb, hg]
      · simp at hv
    · rename_i m sz c
      obtain ⟨e, hd, hs⟩ := xkP_arr ht
      have hag : isAggP P e ag = true := by unfold xeP at he; rw [hd] at he; exact he
      split at hv
      · rename_i hb
        obtain ⟨vs, rfl, hr⟩ := rep_agg hx
        obtain ⟨v', e1, e2⟩ := run_part (P := P) (w := w) (t := e) hr hag (fun _ => hs) hv
        exact ⟨v', by simp [Instr.index, asIntOf, run_underlying hd, run_sizeOf hs, hb.1, hb.2, e1], e2⟩
      · simp at hv
    · simp at hv
  · simp at hv

theorem run_extract {P : Program} {w : World} {K : Kz} {x : Value} {c : List AV} {i : Nat} {v : AV} (hx : Rep K x (.tuple c)) (hv : c[i]? = some v) : ∃ v', (Instr.extract x i).run P w = .ok v' w ∧ Rep K v' v := by
  obtain ⟨vs, rfl, hr⟩ := rep_tuple hx
  obtain ⟨v', e1, e2⟩ := hr.get hv
  exact ⟨v', by simp [Instr.extract, e1], e2⟩

def lenP (P : Program) (t : TypeId) (st : Bool) : Bool := match st, P.underlying t with | true, some .string => true | false, some (.slice _) => true | _, _ => false

theorem lenP_str {P : Program} {t : TypeId} (h : lenP P t true = true) : P.underlying t = some .string := by
  unfold lenP at h; split at h <;> simp_all
theorem lenP_sl {P : Program} {t : TypeId} (h : lenP P t false = true) : ∃ e, P.underlying t = some (.slice e) := by
  unfold lenP at h; split at h <;> simp_all

theorem rep_nilS {K : Kz} {v : Value} (h : Rep K v .nilS) : v = .slice none 0 0 := by cases h; rfl

theorem run_len {P : Program} {w : World} {K : Kz} {H : Hp} (hi : Inv K H w) {t ty : TypeId} {st : Bool} {x : Value} {y v : AV} (hx : Rep K x y) (ht : lenP P t st = true) (hv : lenV st H y = some v) :
    ∃ v', (Builtin.len_ #[t] ty #[x]).run P w = .ok v' w ∧ Rep K v' v := by
  unfold lenV at hv
  split at hv
  · simp only [Option.some.injEq] at hv; subst hv
    have := rep_str hx; subst this
    exact ⟨_, by simp [Builtin.len_, run_underlying (lenP_str ht), goInt, size_str], .int _ _⟩
  · simp only [Option.some.injEq] at hv; subst hv
    obtain ⟨e, hd⟩ := lenP_sl ht
    rcases list_at hi hx with ⟨e1, e2, e3⟩ | ⟨b, off, cap, f, e1, hc, hat, hw, hf⟩
    · subst e1 e3; exact ⟨_, by simp [Builtin.len_, run_underlying hd, goInt], .int _ _⟩
    · subst e1; exact ⟨_, by simp [Builtin.len_, run_underlying hd, goInt], .int _ _⟩
  · split at hv
    · rename_i hr
      simp only [Option.some.injEq] at hv; subst hv
      obtain ⟨e, hd⟩ := lenP_sl ht
      obtain ⟨r, hr⟩ := Option.isSome_iff_exists.1 hr
      obtain ⟨h1, h2, h3, xs, h4, h5⟩ := hi.own hx hr
      rcases ownsRow_cells h4 with ⟨q1, q2, q3⟩ | ⟨b, cap, q1, q2, q3⟩
      · rw [q1]; exact ⟨_, by simp [Builtin.len_, run_underlying hd, goInt, q2], .int _ _⟩
      · rw [q1]; exact ⟨_, by simp [Builtin.len_, run_underlying hd, goInt], .int _ _⟩
    · simp at hv
  · simp only [Option.some.injEq] at hv; subst hv
    obtain ⟨e, hd⟩ := lenP_sl ht
    have := rep_nilS hx; subst this
    exact ⟨_, by simp [Builtin.len_, run_underlying hd, goInt], .int _ _⟩
  · simp at hv

/-- A bound of a slice expression and its value. -/
def BndOK (d : Nat) (o : Option Value) (n : Int) : Prop :=
  match o with
  | none => n = d
  | some v => ∃ k, v = .int k n

theorem run_bounds {P : Program} {w : World} {isSl : Bool} {len cap : Nat} {lo hi : Option Value} {l h : Int} (hl : BndOK 0 lo l) (hh : BndOK len hi h) (h0 : 0 ≤ l) (h1 : l ≤ h) (h2 : h ≤ cap) :
    (Instr.sliceBounds isSl len cap lo hi none).run P w = .ok (l.toNat, h.toNat, cap) w := by
  cases hi with
  | none =>
    simp only [BndOK] at hh
    subst hh
    cases lo with
    | none => simp only [BndOK] at hl; subst hl; simp [Instr.sliceBounds]
    | some v =>
      obtain ⟨k, rfl⟩ := hl
      simp [Instr.sliceBounds, Instr.sliceBound, asIntOf, h0, h1]
  | some u =>
    obtain ⟨k, rfl⟩ := hh
    have h3 : 0 ≤ h := by omega
    cases lo with
    | none => simp only [BndOK] at hl; subst hl; simp [Instr.sliceBounds, Instr.sliceBound, asIntOf, h3, h2]
    | some v =>
      obtain ⟨k, rfl⟩ := hl
      have h4 : l ≤ (h.toNat : Int) := by omega
      simp [Instr.sliceBounds, Instr.sliceBound, asIntOf, h3, h2, h0]
      intro hc
      exfalso
      omega

theorem extract_str (s : List UInt8) (l h : Nat) : (ByteArray.mk s.toArray).extract l h = ByteArray.mk ((s.drop l).take (h - l)).toArray := by
  apply ByteArray.ext
  simp [List.extract_eq_take_drop]

theorem run_slice {P : Program} {w : World} {K : Kz} {H : Hp} (hi : Inv K H w) {t : TypeId} {k : XK} {x : Value} {y v : AV} {lo hb : Option Value} {l h : Int} (hx : Rep K x y) (ht : xkP P t k = true) (hl : BndOK 0 lo l) (hh : BndOK (lenX k y) hb h) (hv : sliceV k y l h = some v) :
    ∃ v', (Instr.sliceAt t x lo hb none).run P w = .ok v' w ∧ Rep K v' v := by
  unfold sliceV at hv
  split at hv
  · rename_i s
    have := rep_str hx; subst this
    have hd := xkP_str ht
    split at hv
    · rename_i hq
      simp only [Option.some.injEq] at hv; subst hv
      simp only [lenX] at hh
      refine ⟨.string ⟨((s.drop l.toNat).take (h.toNat - l.toNat)).toArray⟩, ?_, .str _⟩
      have hb' := run_bounds (P := P) (w := w) (isSl := false) (len := s.length) (cap := s.length) hl hh hq.1 hq.2.1 hq.2.2
      simp only [Instr.sliceAt, Sem.run_bind, run_underlying hd, Result.andThen_ok, Instr.slice, size_str]
      simp only [Option.isSome_none, Bool.false_eq_true, if_false]
      rw [Sem.run_bind]
      simp [hb', extract_str]
    · simp at hv
  · rename_i sz c n
    obtain ⟨e, hd, hs⟩ := xkP_sl ht
    split at hv
    · rename_i hq
      simp only [Option.some.injEq] at hv; subst hv
      simp only [lenX] at hh
      rcases list_at hi hx with ⟨e1, e2, e3⟩ | ⟨b, off, cap, f, e1, hc, hat, hw, hf⟩
      · subst e1 e2 e3
        have h4 : h = 0 := by omega
        have h5 : l = 0 := by omega
        subst h4 h5
        refine ⟨.slice none 0 0, ?_, by simpa using Rep.list0⟩
        have hb' := run_bounds (P := P) (w := w) (isSl := true) (len := 0) (cap := 0) hl hh (by omega) (by omega) (by omega)
        simp only [Instr.sliceAt, Sem.run_bind, run_underlying hd, Result.andThen_ok, Instr.slice, hb', run_sizeOf hs]
        simp
      · subst e1
        have hb' := run_bounds (P := P) (w := w) (isSl := true) (len := n) (cap := cap) hl hh hq.1 hq.2.1 (by omega)
        have hlh : l.toNat ≤ h.toNat := by omega
        by_cases hm : cap = l.toNat
        · refine ⟨.slice (some ⟨b, off, none⟩) (h.toNat - l.toNat) (cap - l.toNat), ?_, ?_⟩
          · simp only [Instr.sliceAt, Sem.run_bind, run_underlying hd, Result.andThen_ok, Instr.slice, hb', run_sizeOf hs, Sem.run_pure, if_pos hm]
          · have h6 : h.toNat - l.toNat = 0 := by omega
            rw [h6, Nat.zero_mul, List.take_zero]
            have := hw.nil (l := 0) (by omega)
            exact .list b off 0 _ f [] hf (by simpa using this) (by omega)
        · refine ⟨.slice (some ⟨b, off + l.toNat * sz, none⟩) (h.toNat - l.toNat) (cap - l.toNat), ?_, ?_⟩
          · simp only [Instr.sliceAt, Sem.run_bind, run_underlying hd, Result.andThen_ok, Instr.slice, hb', run_sizeOf hs, Sem.run_pure, if_neg hm, Option.map_some, add_lit]
          · refine .list b _ _ _ f _ hf (hw.sub ?_) (by omega)
            rw [← Nat.add_mul]
            have : l.toNat + (h.toNat - l.toNat) = h.toNat := by omega
            rw [this]
            exact hq.2.2.2
    · simp at hv
  · rename_i n sz c o
    obtain ⟨e, hd, hs⟩ := xkP_arr ht
    split at hv
    · rename_i hq
      simp only [Option.some.injEq] at hv; subst hv
      simp only [lenX] at hh
      cases hx with
      | fptr b d _ f _ hf hw =>
        have hb' := run_bounds (P := P) (w := w) (isSl := false) (len := n) (cap := n) hl hh hq.1 hq.2.1 hq.2.2.1
        have hlh : l.toNat ≤ h.toNat := by omega
        have hle : h.toNat * sz ≤ n * sz := Nat.mul_le_mul_right _ (by omega)
        by_cases hm : n = l.toNat
        · refine ⟨.slice (some ⟨b, d + o, none⟩) (h.toNat - l.toNat) (n - l.toNat), ?_, ?_⟩
          · simp only [Instr.sliceAt, Sem.run_bind, run_underlying hd, Result.andThen_ok, Instr.sureAddr, Sem.run_pure, hb', run_sizeOf hs, if_pos hm]
          · have h6 : h.toNat - l.toNat = 0 := by omega
            rw [h6, Nat.zero_mul, List.take_zero]
            exact .list b (d + o) 0 _ f [] hf (hw.nil (by omega)) (by omega)
        · refine ⟨.slice (some ⟨b, d + o + l.toNat * sz, none⟩) (h.toNat - l.toNat) (n - l.toNat), ?_, ?_⟩
          · simp only [Instr.sliceAt, Sem.run_bind, run_underlying hd, Result.andThen_ok, Instr.sureAddr, Sem.run_pure, hb', run_sizeOf hs, if_neg hm, add_lit]
          · rw [Nat.add_assoc]
            refine .list b _ _ _ f _ hf (hw.sub ?_) (by omega)
            rw [Nat.add_assoc, ← Nat.add_mul]
            have : l.toNat + (h.toNat - l.toNat) = h.toNat := by omega
            rw [this]
            omega
    · simp at hv
  · simp at hv

theorem run_mm {P : Program} {w : World} {K : Kz} {mx : Bool} {v : AV} : ∀ {rest : List AV} {vs : List Value} {x : Value} {y : AV}, Rep K x y → RepL K vs rest → mmV mx y rest = some v → ∃ v', (vs.foldlM (if mx then Builtin.max2 else Builtin.min2) x).run P w = .ok v' w ∧ Rep K v' v
  | [], _, x, y, hx, hl, hv => by
    cases hl
    simp only [mmV, Option.some.injEq] at hv
    subst hv
    exact ⟨x, rfl, hx⟩
  | z :: rest, _, x, y, hx, hl, hv => by
    cases hl with
    | cons u _ us _ hu hl =>
      unfold mmV at hv
      split at hv
      · simp at *
      · rename_i k n q m r heq
        simp only [List.cons.injEq] at heq
        obtain ⟨rfl, rfl⟩ := heq
        have := rep_int hx; subst this
        have := rep_int hu; subst this
        cases mx
        · obtain ⟨v', e1, e2⟩ := run_mm (P := P) (w := w) (mx := false) (x := .int k (if m < n then m else n)) (.int _ _) hl hv
          refine ⟨v', ?_, e2⟩
          simp only [Bool.false_eq_true, if_false, List.foldlM_cons, Sem.run_bind, Builtin.min2, Sem.run_pure, Result.andThen_ok] at e1 ⊢
          exact e1
        · obtain ⟨v', e1, e2⟩ := run_mm (P := P) (w := w) (mx := true) (x := .int k (if m > n then m else n)) (.int _ _) hl hv
          refine ⟨v', ?_, e2⟩
          simp only [if_true, List.foldlM_cons, Sem.run_bind, Builtin.max2, Sem.run_pure, Result.andThen_ok] at e1 ⊢
          exact e1
      · simp at hv
end Go.Proofs.YtdhlgbnljhgabaaGreatDoor.AM

/- Quiet operations: structs held against one another; maps asked. -/
namespace Go.Proofs.YtdhlgbnljhgabaaGreatDoor.AM
open Go

def isStruct (P : Program) (t : TypeId) : Bool := match P.underlying t with | some (.struct _) => true | _ => false

def fieldsK (P : Program) (g : TypeId → Option (List Nat)) : Nat → List Field → Option (List Nat)
  | _, [] => some []
  | off, f :: fs =>
    if decide (f.name ≠ "_") && decide (f.offset = off) then
      (g f.type).bind fun ks => if szP P f.type ks.length && (isStruct P f.type || decide (ks.length = 1)) && isAggP P f.type (isStruct P f.type) then (fieldsK P g (off + ks.length) fs).map fun r => ks ++ r else none
    else none

def leafK (P : Program) : Nat → TypeId → Option (List Nat)
  | 0, _ => none
  | d + 1, t => match P.underlying t with
    | some (.int _) => some [0]
    | some .string => some [1]
    | some .bool => some [2]
    | some (.struct fs) => if P.stoodInHeld t then none else fieldsK P (leafK P d) 0 fs.toList
    | _ => none

theorem eqLeaves_append {ks : List Nat} : ∀ {ls : List Nat} {as bs : List AV} {r : Bool}, eqLeaves (ks ++ ls) as bs = some r →
    ∃ r1 r2, eqLeaves ks (as.take ks.length) (bs.take ks.length) = some r1 ∧ eqLeaves ls (as.drop ks.length) (bs.drop ks.length) = some r2 ∧ r = (r1 && r2) ∧ ks.length ≤ as.length ∧ ks.length ≤ bs.length := by
  induction ks with
  | nil => intro ls as bs r h; exact ⟨true, r, by simp [eqLeaves], by simpa using h, by simp, by simp, by simp⟩
  | cons k ks ih =>
    intro ls as bs r h
    cases as with
    | nil => simp [eqLeaves] at h
    | cons a as =>
      cases bs with
      | nil => simp [eqLeaves] at h
      | cons b bs =>
        simp only [List.cons_append, eqLeaves] at h
        cases hq : eqLeaf k a b with
        | none => rw [hq] at h; simp at h
        | some q =>
          rw [hq] at h
          simp only [Option.bind_some] at h
          cases hs : eqLeaves (ks ++ ls) as bs with
          | none => rw [hs] at h; simp at h
          | some s =>
            rw [hs] at h
            simp only [Option.map_some, Option.some.injEq] at h
            obtain ⟨r1, r2, e1, e2, e3, e4, e5⟩ := ih hs
            refine ⟨q && r1, r2, ?_, by simpa using e2, ?_, by simpa using e4, by simpa using e5⟩
            · simp [eqLeaves, hq, e1]
            · rw [← h, e3, Bool.and_assoc]

theorem eqLeaves_len : ∀ {ks : List Nat} {as bs : List AV} {r : Bool}, eqLeaves ks as bs = some r → as.length = ks.length ∧ bs.length = ks.length
  | [], [], [], _, _ => ⟨rfl, rfl⟩
  | k :: ks, a :: as, b :: bs, r, h => by
    simp only [eqLeaves] at h
    cases hq : eqLeaf k a b with
    | none => rw [hq] at h; simp at h
    | some q =>
      rw [hq] at h
      simp only [Option.bind_some] at h
      cases hs : eqLeaves ks as bs with
      | none => rw [hs] at h; simp at h
      | some s => obtain ⟨e1, e2⟩ := eqLeaves_len hs; exact ⟨by simp [e1], by simp [e2]⟩
  | [], [], _ :: _, _, h => by simp [eqLeaves] at h
  | [], _ :: _, _, _, h => by simp [eqLeaves] at h
  | _ :: _, [], _, _, h => by simp [eqLeaves] at h
  | _ :: _, _ :: _, [], _, h => by simp [eqLeaves] at h

/-- The value of a flat struct, or of a leaf. -/
def ValOf (P : Program) (K : Kz) (t : TypeId) (X : Value) (as : List AV) : Prop :=
  if isStruct P t then ∃ xs : List Value, X = .agg xs.toArray ∧ RepL K xs as else ∃ a, as = [a] ∧ Rep K X a

theorem part_val {P : Program} {K : Kz} {w : World} {t : TypeId} {n off : Nat} {xs : List Value} {as : List AV} (h1 : szP P t n = true) (h2 : (isStruct P t || decide (n = 1)) = true) (h3 : isAggP P t (isStruct P t) = true) (hr : RepL K xs as) (hl : off + n ≤ as.length) :
    ∃ v, (part t xs.toArray off).run P w = .ok v w ∧ ValOf P K t v ((as.drop off).take n) := by
  cases hq : isStruct P t with
  | true =>
    rw [hq] at h3
    have hv : rd as off n true = some (.agg ((as.drop off).take n)) := by simp [rd, hl]
    obtain ⟨v', e1, e2⟩ := run_part (P := P) (w := w) hr h3 (fun _ => h1) hv
    refine ⟨v', e1, ?_⟩
    unfold ValOf
    rw [hq]
    simp only [if_true]
    exact rep_agg e2
  | false =>
    rw [hq] at h3 h2
    simp only [Bool.false_or, decide_eq_true_eq] at h2
    subst h2
    have hlt : off < as.length := by omega
    have hv : rd as off 1 false = some as[off] := by simp [rd, List.getElem?_eq_getElem hlt]
    obtain ⟨v', e1, e2⟩ := run_part (P := P) (w := w) (sz := 1) hr h3 (fun e => by simp at e) hv
    refine ⟨v', e1, ?_⟩
    unfold ValOf
    rw [hq]
    simp only [Bool.false_eq_true, if_false]
    refine ⟨as[off], ?_, e2⟩
    apply List.ext_getElem?
    intro i
    cases i with
    | zero => simp [List.getElem?_drop, List.getElem?_eq_getElem hlt]
    | succ i => simp; omega

theorem fields_run {P : Program} {K : Kz} {w : World} {g : TypeId → Option (List Nat)} {d : Nat}
    (hg : ∀ t ks, g t = some ks → ∀ {as bs : List AV} {r : Bool} {X Y : Value}, eqLeaves ks as bs = some r → ValOf P K t X as → ValOf P K t Y bs → (Op.equalIn d t X Y).run P w = .ok r w)
    {xs ys : List Value} {as bs : List AV} (hx : RepL K xs as) (hy : RepL K ys bs) :
    ∀ (fs : List Field) (off : Nat) (ks : List Nat) (r : Bool), fieldsK P g off fs = some ks → off ≤ as.length → off ≤ bs.length → eqLeaves ks (as.drop off) (bs.drop off) = some r → (Op.eqFields d xs.toArray ys.toArray fs).run P w = .ok r w
  | [], off, ks, r, hk, _, _, he => by
    simp only [fieldsK, Option.some.injEq] at hk
    subst hk
    have hr : r = true := by
      cases h1 : as.drop off <;> cases h2 : bs.drop off <;> rw [h1, h2] at he <;> simp [eqLeaves] at he
      first | exact he | exact he.symm
    subst hr
    rfl
  | f :: fs, off, ks, r, hk, ha, hb, he => by
    simp only [fieldsK] at hk
    split at hk
    · rename_i hq
      simp only [Bool.and_eq_true, decide_eq_true_eq] at hq
      obtain ⟨hn, ho⟩ := hq
      cases hgf : g f.type with
      | none => rw [hgf] at hk; simp at hk
      | some k1 =>
        rw [hgf] at hk
        simp only [Option.bind_some] at hk
        split at hk
        · rename_i hc
          simp only [Bool.and_eq_true] at hc
          obtain ⟨⟨c1, c2⟩, c3⟩ := hc
          cases hfs : fieldsK P g (off + k1.length) fs with
          | none => rw [hfs] at hk; simp at hk
          | some k2 =>
            rw [hfs] at hk
            simp only [Option.map_some, Option.some.injEq] at hk
            subst hk
            obtain ⟨r1, r2, e1, e2, e3, e4, e5⟩ := eqLeaves_append he
            simp only [List.length_drop] at e4 e5
            obtain ⟨v1, p1, q1⟩ := part_val (w := w) c1 c2 c3 hx (off := off) (by omega)
            obtain ⟨v2, p2, q2⟩ := part_val (w := w) c1 c2 c3 hy (off := off) (by omega)
            have hrun := hg f.type k1 hgf e1 q1 q2
            simp only [List.drop_drop] at e2
            have ih := fields_run hg hx hy fs (off + k1.length) k2 r2 hfs (by omega) (by omega) e2
            subst ho
            simp only [Op.eqFields, if_pos hn, Sem.run_bind, p1, p2, hrun, Result.andThen_ok]
            subst e3
            cases r1
            · simp
            · simp [ih]
        · simp at hk
    · simp at hk

theorem leaf_run {P : Program} {K : Kz} {w : World} : ∀ (d : Nat) (t : TypeId) (ks : List Nat), leafK P d t = some ks → ∀ (d' : Nat), d ≤ d' → ∀ {as bs : List AV} {r : Bool} {X Y : Value}, eqLeaves ks as bs = some r → ValOf P K t X as → ValOf P K t Y bs → (Op.equalIn d' t X Y).run P w = .ok r w
  | 0, _, _, h => by simp [leafK] at h
  | d + 1, t, ks, h => by
    intro d' hd as bs r X Y he hX hY
    obtain ⟨d', rfl⟩ : ∃ e, d' = e + 1 := ⟨d' - 1, by omega⟩
    simp only [leafK] at h
    split at h
    · rename_i k hu
      simp only [Option.some.injEq] at h; subst h
      have hs : isStruct P t = false := by simp [isStruct, hu]
      simp only [ValOf, hs, Bool.false_eq_true, if_false] at hX hY
      obtain ⟨a, rfl, hX⟩ := hX
      obtain ⟨b, rfl, hY⟩ := hY
      simp only [eqLeaves] at he
      cases hq : eqLeaf 0 a b with
      | none => rw [hq] at he; simp at he
      | some q =>
        rw [hq] at he
        simp at he
        subst he
        unfold eqLeaf at hq
        split at hq <;> first | (simp at *; done) | skip
        rename_i k1 n1 k2 n2 _
        split at hq
        · rename_i hkk
          subst hkk
          simp only [Option.some.injEq] at hq
          subst hq
          have := rep_int hX; subst this
          have := rep_int hY; subst this
          exact run_equalIn_int w d' t k1 k n1 n2 hu
        · simp at hq
    · rename_i hu
      simp only [Option.some.injEq] at h; subst h
      have hs : isStruct P t = false := by simp [isStruct, hu]
      simp only [ValOf, hs, Bool.false_eq_true, if_false] at hX hY
      obtain ⟨a, rfl, hX⟩ := hX
      obtain ⟨b, rfl, hY⟩ := hY
      simp only [eqLeaves] at he
      cases hq : eqLeaf 1 a b with
      | none => rw [hq] at he; simp at he
      | some q =>
        rw [hq] at he
        simp at he
        subst he
        unfold eqLeaf at hq
        split at hq <;> first | (simp at *; done) | skip
        simp only [Option.some.injEq] at hq
        subst hq
        have := rep_str hX; subst this
        have := rep_str hY; subst this
        rw [run_equalIn_string w d' t _ _ hu]
        simp
    · rename_i hu
      simp only [Option.some.injEq] at h; subst h
      have hs : isStruct P t = false := by simp [isStruct, hu]
      simp only [ValOf, hs, Bool.false_eq_true, if_false] at hX hY
      obtain ⟨a, rfl, hX⟩ := hX
      obtain ⟨b, rfl, hY⟩ := hY
      simp only [eqLeaves] at he
      cases hq : eqLeaf 2 a b with
      | none => rw [hq] at he; simp at he
      | some q =>
        rw [hq] at he
        simp at he
        subst he
        unfold eqLeaf at hq
        split at hq <;> first | (simp at *; done) | skip
        simp only [Option.some.injEq] at hq
        subst hq
        have := rep_bool hX; subst this
        have := rep_bool hY; subst this
        exact run_equalIn_bool' w d' t _ _ hu
    · rename_i fs hu
      split at h
      · simp at h
      · rename_i hp
        have hs : isStruct P t = true := by simp [isStruct, hu]
        simp only [ValOf, hs, if_true] at hX hY
        obtain ⟨xs, rfl, hx⟩ := hX
        obtain ⟨ys, rfl, hy⟩ := hY
        have hfo : P.fieldsOf t = fs := by simp [Program.fieldsOf, hu]
        rw [run_equalIn_agg w d' t _ _ (by rw [hfo]; exact hu) (by simpa using hp), hfo]
        exact fields_run (fun u ks hk as bs r X Y => leaf_run d u ks hk d' (by omega)) hx hy fs.toList 0 ks r h (by omega) (by omega) (by simpa using he)
    · simp at h

def eqAggP (P : Program) (op : BinOp) (t : TypeId) (neg : Bool) (ks : List Nat) : Bool :=
  (match op, neg with | .eql, false => true | .neq, true => true | _, _ => false) && decide (leafK P 12 t = some ks) && isStruct P t && !P.eqGuardType P.depth t

theorem run_eqAgg {P : Program} {K : Kz} {w : World} {op : BinOp} {t : TypeId} {neg : Bool} {ks : List Nat} {ox oy : Operand} {x y : Value} {a b : List AV} {r : Bool} (ht : eqAggP P op t neg ks = true) (hx : Rep K x (.agg a)) (hy : Rep K y (.agg b)) (hv : eqLeaves ks a b = some r) :
    (do eqGuard op t ox oy x y; binOp op t x y).run P w = .ok (.bool (bif neg then !r else r)) w := by
  simp only [eqAggP, Bool.and_eq_true, decide_eq_true_eq, Bool.not_eq_true'] at ht
  obtain ⟨⟨⟨h1, h2⟩, h3⟩, h4⟩ := ht
  obtain ⟨xs, rfl, hx'⟩ := rep_agg hx
  obtain ⟨ys, rfl, hy'⟩ := rep_agg hy
  have hrun := leaf_run (P := P) (K := K) (w := w) 12 t ks h2 10000 (by omega) hv (X := .agg xs.toArray) (Y := .agg ys.toArray) (by simp only [ValOf, h3, if_true]; exact ⟨xs, rfl, hx'⟩) (by simp only [ValOf, h3, if_true]; exact ⟨ys, rfl, hy'⟩)
  rw [Sem.run_bind, run_eqGuard_agg w op t ox oy _ _ h4]
  simp only [Result.andThen_ok]
  split at h1
  · rw [run_eql_struct, hrun]; rfl
  · rw [run_neq_struct, hrun]; rfl
  · simp at h1

/-- A key's entry. -/
theorem find_rep {K : Kz} {k : List UInt8} : ∀ {es : List MapEntry} {kvs : List AV} {i : Nat}, MapRep K es kvs → ∀ {r : Option AV}, lookupV (.str k) kvs = some r →
    ∃ q, Instr.findNow .string (.string ⟨k.toArray⟩) es i = some q ∧ (match r, q with | none, none => True | some a, some (_, v) => Rep K v a | _, _ => False)
  | _, _, i, .nil, r, h => by simp [lookupV] at h; subst h; exact ⟨none, rfl, trivial⟩
  | _, _, i, .cons e a b es as hk hv hm, r, h => by
    simp only [lookupV] at h
    cases hq : eqLeaf 1 (.str k) a with
    | none => rw [hq] at h; simp at h
    | some q =>
      rw [hq] at h
      simp only [Option.bind_some] at h
      unfold eqLeaf at hq
      split at hq <;> first | (simp at *; done) | skip
      rename_i s u h1 h2
      simp only [AV.str.injEq] at h2
      subst h2
      simp only [Option.some.injEq] at hq
      have := rep_str hk
      cases q with
      | true =>
        simp only [cond_true, Option.some.injEq] at h
        subst h
        refine ⟨some (i, e.val), ?_, hv⟩
        simp only [Instr.findNow, Instr.sameNow, this]
        have : (ByteArray.mk k.toArray == ByteArray.mk u.toArray) = true := by rw [beq_toListBytes, beq_str]; exact hq
        rw [this]
      | false =>
        simp only [cond_false] at h
        obtain ⟨q', e1, e2⟩ := find_rep (i := i + 1) hm h
        refine ⟨q', ?_, e2⟩
        simp only [Instr.findNow, Instr.sameNow, this]
        have : (ByteArray.mk k.toArray == ByteArray.mk u.toArray) = false := by rw [beq_toListBytes, beq_str]; exact hq
        rw [this]
        exact e1
end Go.Proofs.YtdhlgbnljhgabaaGreatDoor.AM

/- New objects, new frozen memory: how the relation grows. -/
namespace Go.Proofs.YtdhlgbnljhgabaaGreatDoor.AM
open Go

def Kz.addVb (K : Kz) (b : Nat) : Kz := { K with n := K.n + 1, vb := fun i => if i = K.n then some b else K.vb i }
def Kz.addRow (K : Kz) (m : Nat) (v : Value) : Kz := { K with n := K.n + 1, ver := fun i => if i = K.n then m else K.ver i, rv := fun i => if i = K.n then v else K.rv i }
def Kz.addFz (K : Kz) (b : Nat) (c : List AV) : Kz := { K with fz := fun i => if i = b then some c else K.fz i }
def Kz.setRow (K : Kz) (id m : Nat) (v : Value) : Kz := { K with ver := fun i => if i = id then m else K.ver i, rv := fun i => if i = id then v else K.rv i }

theorem Inv.vb_none {K : Kz} {H : Hp} {w : World} (h : Inv K H w) {i : Nat} (hi : K.n ≤ i) : K.vb i = none := by
  cases hq : K.vb i with
  | none => rfl
  | some b => have := h.vbd i b hq; omega

theorem le_addVb {K : Kz} {H : Hp} {w : World} (h : Inv K H w) (b : Nat) : KLe K (K.addVb b) where
  n := Nat.le_succ _
  vb id c e := by
    have := h.vbd id c e
    simp only [Kz.addVb]
    rw [if_neg (by omega)]; exact e
  ver _ := Nat.le_refl _
  rv _ _ _ := rfl
  fz _ c e := ⟨[], by rw [List.append_nil]; exact e⟩
  fm _ _ e := e
  sl _ _ e := e

theorem le_addRow {K : Kz} {H : Hp} {w : World} (h : Inv K H w) (m : Nat) (v : Value) : KLe K (K.addRow m v) where
  n := Nat.le_succ _
  vb _ _ e := e
  ver id := by
    simp only [Kz.addRow]
    split
    · rename_i e; subst e; rw [(h.verd _ (Nat.le_refl _)).1]; omega
    · exact Nat.le_refl _
  rv id hd e := by
    simp only [Kz.addRow]
    rw [if_neg (by omega)]
  fz _ c e := ⟨[], by rw [List.append_nil]; exact e⟩
  fm _ _ e := e
  sl _ _ e := e

theorem le_addFz {K : Kz} (b : Nat) (c : List AV) (hb : K.fz b = none) : KLe K (K.addFz b c) where
  n := Nat.le_refl _
  vb _ _ e := e
  ver _ := Nat.le_refl _
  rv _ _ _ := rfl
  fz b' c' e := by
    refine ⟨[], ?_⟩
    simp only [Kz.addFz, List.append_nil]
    split
    · rename_i q; subst q; rw [hb] at e; cases e
    · exact e
  fm _ _ e := e
  sl _ _ e := e

theorem MapRep.mono {K K' : Kz} (hK : KLe K K') {es : List MapEntry} {kvs : List AV} (h : MapRep K es kvs) : MapRep K' es kvs := by
  induction h with
  | nil => exact .nil
  | cons e a b es as hk hv h ih => exact .cons e a b es as (hk.mono hK) (hv.mono hK) ih

/-- What is known of an object stays known. -/
theorem ObjOK.mono {K K' : Kz} {w : World} {id : Nat} {o : AObj} (h : ObjOK K w id o) (hK : KLe K K') (hid : id < K.n) (h1 : K'.ver id = K.ver id) (h2 : K.vb id = none → K'.vb id = none) : ObjOK K' w id o := by
  have h3 := hK.rv id hid h1
  cases o with
  | var c => obtain ⟨q1, q2, q3, b, cs, el, q4, q5, q6⟩ := h; exact ⟨by rw [h1, q1], by rw [h3, q2], q3, b, cs, el, hK.vb id b q4, q5, q6.mono hK⟩
  | row ro p e sz c => obtain ⟨q1, q2, q3, q4, xs, q5, q6⟩ := h; exact ⟨h2 q1, q2, q3, q4, xs, by rw [h1, h3]; exact q5, q6.mono hK⟩
  | map kvs => obtain ⟨q1, q2, q3, b, es, cl, q4, q5, q6⟩ := h; exact ⟨by rw [h1, q1], by rw [h3, q2], q3, b, es, cl, hK.vb id b q4, q5, q6.mono hK⟩
  | siter s pos => obtain ⟨q1, q2, b, q4, q5⟩ := h; exact ⟨by rw [h1, q1], by rw [h3, q2], b, hK.vb id b q4, q5⟩

theorem getElem?_snoc {α : Type} (H : List α) (o : α) (i : Nat) (x : α) : (H ++ [o])[i]? = some x ↔ (H[i]? = some x) ∨ (i = H.length ∧ x = o) := by
  rcases Nat.lt_trichotomy i H.length with h | h | h
  · rw [List.getElem?_append_left h]
    constructor
    · exact .inl
    · rintro (e | ⟨e, _⟩)
      · exact e
      · omega
  · subst h
    rw [List.getElem?_append_right (Nat.le_refl _)]
    simp [eq_comm]
  · rw [List.getElem?_append_right (by omega), List.getElem?_eq_none (by simp; omega)]
    constructor
    · intro e; cases e
    · rintro (e | ⟨e, _⟩)
      · rw [List.getElem?_eq_none (by omega)] at e; cases e
      · omega

/-- A new object behind a block that was nobody's. -/
theorem Inv.addVb {K : Kz} {H : Hp} {w : World} (h : Inv K H w) {b : Nat} (hb : ¬ K.tracked b) (o : AObj) (ho : ObjOK (K.addVb b) w K.n o) (hno : ∀ ro p e sz c, o ≠ .row ro p e sz c) : Inv (K.addVb b) (H ++ [o]) w where
  n := by simp [Kz.addVb, h.n]
  obj id x e := by
    rcases (getElem?_snoc H o id x).1 e with e | ⟨rfl, rfl⟩
    · have hid : id < H.length := (List.getElem?_eq_some_iff.1 e).1
      refine (h.obj id x e).mono (le_addVb h b) (by rw [h.n]; exact hid) rfl fun q => ?_
      simp only [Kz.addVb]
      rw [if_neg (by rw [h.n]; omega)]; exact q
    · rw [← h.n]; exact ho
  vbd id c e := by
    simp only [Kz.addVb] at e ⊢
    split at e
    · omega
    · have := h.vbd id c e; omega
  verd id hid := h.verd id (by simp only [Kz.addVb] at hid; omega)
  fz c x e := by
    obtain ⟨q1, cs, el, fr, q2, xs, ys, q3, q4⟩ := h.fz c x e
    exact ⟨q1, cs, el, fr, q2, xs, ys, q3, q4.mono (le_addVb h b)⟩
  fm c x e := by
    obtain ⟨q1, es, cl, q2, q3⟩ := h.fm c x e
    exact ⟨q1, es, cl, q2, q3.mono (le_addVb h b)⟩
  injv i j c e1 e2 := by
    simp only [Kz.addVb] at e1 e2
    split at e1 <;> split at e2
    · omega
    · cases e1; exact absurd (.inl (.inl ⟨j, e2⟩)) hb
    · cases e2; exact absurd (.inl (.inl ⟨i, e1⟩)) hb
    · exact h.injv i j c e1 e2
  injr := h.injr
  vr i j c e := by
    simp only [Kz.addVb] at e
    split at e
    · cases e; exact fun q => hb (.inl (.inr ⟨j, q⟩))
    · exact h.vr i j c e
  vz i c e := by
    simp only [Kz.addVb] at e
    split at e
    · cases e
      constructor
      · cases q : K.fz b with
        | none => exact q
        | some x => exact absurd (.inr (.inl (by rw [q]; simp))) hb
      · cases q : K.fm b with
        | none => exact q
        | some x => exact absurd (.inr (.inr (by rw [q]; simp))) hb
    · exact h.vz i c e
  rz i c x e1 e2 := by
    obtain ⟨p, e, sz, cells, r, q1, q2⟩ := h.rz i c x e1 e2
    exact ⟨p, e, sz, cells, r, (getElem?_snoc H o i _).2 (.inl q1), q2⟩

/-- A new row of objects, its block nobody's till now. -/
theorem Inv.addRow {K : Kz} {H : Hp} {w : World} (h : Inv K H w) {m : Nat} {v : Value} (hb : ∀ b, v.ownBlock = some b → ¬ K.tracked b) (hle : KLe K (K.addRow m v)) (ro p : Bool) (e sz : Nat) (c : List AV) (hsz : 0 < sz) (hc : cell1L c = true) (hp : p = true → pureL c = true)
    {xs : List Value} (ho : w.ownsRow 0 e sz v m xs) (hr : RepL (K.addRow m v) xs c) : Inv (K.addRow m v) (H ++ [.row ro p e sz c]) w where
  n := by simp [Kz.addRow, h.n]
  obj id x e' := by
    rcases (getElem?_snoc H _ id x).1 e' with e' | ⟨rfl, rfl⟩
    · have hid : id < H.length := (List.getElem?_eq_some_iff.1 e').1
      refine (h.obj id x e').mono hle (by rw [h.n]; exact hid) ?_ fun q => q
      simp only [Kz.addRow]
      rw [if_neg (by rw [h.n]; omega)]
    · rw [← h.n]
      refine ⟨h.vb_none (Nat.le_refl _), hsz, hc, hp, xs, ?_, hr⟩
      simp only [Kz.addRow, if_pos]
      exact ho
  vbd id b e' := by
    have := h.vbd id b e'
    simp only [Kz.addRow]; omega
  verd id hid := by
    simp only [Kz.addRow] at hid ⊢
    rw [if_neg (by omega), if_neg (by omega)]
    exact h.verd id (by omega)
  fz b x e' := by
    obtain ⟨q1, cs, el, fr, q2, xs, ys, q3, q4⟩ := h.fz b x e'
    exact ⟨q1, cs, el, fr, q2, xs, ys, q3, q4.mono hle⟩
  fm b x e' := by
    obtain ⟨q1, es, cl, q2, q3⟩ := h.fm b x e'
    exact ⟨q1, es, cl, q2, q3.mono hle⟩
  injv := h.injv
  injr i j b e1 e2 := by
    simp only [Kz.addRow] at e1 e2
    split at e1 <;> split at e2
    · omega
    · exact absurd (.inl (.inr ⟨j, e2⟩)) (hb b e1)
    · exact absurd (.inl (.inr ⟨i, e1⟩)) (hb b e2)
    · exact h.injr i j b e1 e2
  vr i j b e' q := by
    simp only [Kz.addRow] at q
    split at q
    · exact hb b q (.inl (.inl ⟨i, e'⟩))
    · exact h.vr i j b e' q
  vz := h.vz
  rz i b x e1 e2 := by
    simp only [Kz.addRow] at e1
    split at e1
    · exact absurd (.inr (.inl (by show K.fz b ≠ none; rw [show K.fz b = some x from e2]; simp))) (hb b e1)
    · obtain ⟨p, e, sz, cells, r, q1, q2⟩ := h.rz i b x e1 e2
      exact ⟨p, e, sz, cells, r, (getElem?_snoc H _ i _).2 (.inl q1), q2⟩

/-- New frozen memory. -/
theorem Inv.addFz {K : Kz} {H : Hp} {w : World} (h : Inv K H w) {b : Nat} (hb : ¬ K.tracked b) {cs : Array Value} {el : TypeId} {fr : Nat × Nat} {xs ys : List Value} {c : List AV} (hw : w.heap[b]? = some (.cells cs el fr)) (hcs : cs.toList = xs ++ ys) (hr : RepL K xs c) (hp : pureL c = true) : Inv (K.addFz b c) H w := by
  have hfz : K.fz b = none := by
    cases q : K.fz b with
    | none => rfl
    | some x => exact absurd (.inr (.inl (by rw [q]; simp))) hb
  have hle := le_addFz (K := K) b c hfz
  refine ⟨h.n, fun id o e => (h.obj id o e).mono hle (by rw [h.n]; exact (List.getElem?_eq_some_iff.1 e).1) rfl fun q => q, h.vbd, h.verd, fun b' x e => ?_, fun b' x e => ?_, h.injv, h.injr, h.vr, fun i b' e => ?_, fun i b' x e1 e2 => ?_⟩
  · simp only [Kz.addFz] at e
    split at e
    · rename_i q
      subst q
      cases e
      exact ⟨hp, cs, el, fr, hw, xs, ys, hcs, hr.mono hle⟩
    · obtain ⟨q1, cs, el, fr, q2, xs, ys, q3, q4⟩ := h.fz b' x e
      exact ⟨q1, cs, el, fr, q2, xs, ys, q3, q4.mono hle⟩
  · obtain ⟨q1, es, cl, q2, q3⟩ := h.fm b' x e
    exact ⟨q1, es, cl, q2, q3.mono hle⟩
  · refine ⟨?_, (h.vz i b' e).2⟩
    simp only [Kz.addFz]
    rw [if_neg]
    · exact (h.vz i b' e).1
    · rintro rfl; exact hb (.inl (.inl ⟨i, e⟩))
  · simp only [Kz.addFz] at e2
    split at e2
    · rename_i q; subst q; exact absurd (.inl (.inr ⟨i, e1⟩)) hb
    · exact h.rz i b' x e1 e2

theorem not_tracked_new {K : Kz} {H : Hp} {w : World} (h : Inv K H w) {b : Nat} (hb : w.heap.size ≤ b) : ¬ K.tracked b := fun ht => by
  have := h.lt ht; omega
end Go.Proofs.YtdhlgbnljhgabaaGreatDoor.AM

/- Operations that make memory. -/
namespace Go.Proofs.YtdhlgbnljhgabaaGreatDoor.AM
open Go

theorem StRel.toH {S : Nat → Bool} {K : Kz} {s : St} {a : Act} {w : World} (h : StRel S K s a w) {K' : Kz} {H' : Hp} {w' : World} (hle : KLe K K') (hsl : K'.sl = K.sl) (hinv : Inv K' H' w')
    (hheap : ∀ i b, K.sl i = some b → w'.heap[b]? = w.heap[b]?) (hdis : ∀ i b, K.sl i = some b → (∀ j, K'.vb j ≠ some b) ∧ (∀ j, (K'.rv j).ownBlock ≠ some b) ∧ K'.fz b = none ∧ K'.fm b = none)
    (hb : s.base ≤ H'.length) (hbok : BaseOK H' s.base) : StRel S K' (setH s H') a w' where
  inv := hinv
  d := h.d
  len := h.len
  tmp i := by
    have ht := h.tmp i
    simp only [setH]
    cases hq : s.t.getD i .undef <;> rw [hq] at ht <;> simp only [TmpOK] at ht ⊢ <;> first | exact ht.mono hle | skip
    obtain ⟨b, cs, el, h1, h2, h3, h4, h5⟩ := ht
    exact ⟨b, cs, el, by rw [hsl]; exact h1, h2, by rw [hheap i b h1]; exact h3, h4.mono hle, h5⟩
  sl i b e := by
    rw [hsl] at e
    exact ⟨(h.sl i b e).1, hdis i b e⟩
  sli i j b e1 e2 := by rw [hsl] at e1 e2; exact h.sli i j b e1 e2
  nos := h.nos
  base := hb
  bok := hbok

theorem BaseOK.append {H : Hp} {base : Nat} (h : BaseOK H base) (hb : base ≤ H.length) (H2 : Hp) : BaseOK (H ++ H2) base := fun id c hid => by
  rw [List.getElem?_append_left (by omega)]
  exact h id c hid

theorem Keeps.push {s : St} (h : s.base ≤ s.H.length) (os : Hp) : Keeps s (setH s (s.H ++ os)) := ⟨rfl, fun _b hb q => q.append (Nat.le_trans hb h) os⟩

theorem Step.alloc_vb (K : Kz) (w : World) (o : Obj) : Step K w (K.addVb w.heap.size) (w.alloc o) where
  os := rfl
  tape := rfl
  output := rfl
  size := by simp
  kept b hb _ _ := heap_alloc_old w o b hb
  owned b hb q := by
    rcases q with ⟨i, q⟩ | q
    · simp only [Kz.addVb] at q
      split at q
      · cases q; omega
      · exact .inl ⟨i, q⟩
    · exact .inr q
  sl s b e := .inl e
  fz b hb e n := absurd e n
  fm b hb e n := absurd e n
  fzx _ _ _ e _ := e

theorem Step.alloc_row (K : Kz) (w w' : World) (m : Nat) (v : Value) (hv : ∀ b, v.ownBlock = some b → w.heap.size ≤ b) (h1 : w'.os = w.os) (h2 : w'.tape = w.tape) (h3 : w'.output = w.output) (h4 : w.heap.size ≤ w'.heap.size) (h5 : ∀ b, b < w.heap.size → w'.heap[b]? = w.heap[b]?) : Step K w (K.addRow m v) w' where
  os := h1
  tape := h2
  output := h3
  size := h4
  kept b hb _ _ := h5 b hb
  owned b hb q := by
    rcases q with q | ⟨i, q⟩
    · exact .inl q
    · simp only [Kz.addRow] at q
      split at q
      · have := hv b q; omega
      · exact .inr ⟨i, q⟩
  sl s b e := .inl e
  fz b hb e n := absurd e n
  fm b hb e n := absurd e n
  fzx _ _ _ e _ := e

theorem Step.alloc_fz (K : Kz) (w w' : World) (b0 : Nat) (c : List AV) (hb0 : w.heap.size ≤ b0) (h1 : w'.os = w.os) (h2 : w'.tape = w.tape) (h3 : w'.output = w.output) (h4 : w.heap.size ≤ w'.heap.size) (h5 : ∀ b, b < w.heap.size → w'.heap[b]? = w.heap[b]?) : Step K w (K.addFz b0 c) w' where
  os := h1
  tape := h2
  output := h3
  size := h4
  kept b hb _ _ := h5 b hb
  owned b hb q := q
  sl s b e := .inl e
  fz b hb e n := by
    simp only [Kz.addFz] at n
    rw [if_neg (by omega)] at n
    exact absurd e n
  fm b hb e n := absurd e n
  fzx b c hb e _ := by
    simp only [Kz.addFz]
    rw [if_neg (by omega)]
    exact e

/-- A new block behind all others, with an object for it. -/
theorem StRel.newVb {S : Nat → Bool} {K : Kz} {s : St} {a : Act} {w : World} (h : StRel S K s a w) (ob : Obj) (o : AObj) (ho : ObjOK (K.addVb w.heap.size) (w.alloc ob) K.n o) (hno : ∀ ro p e sz c, o ≠ .row ro p e sz c) :
    StRel S (K.addVb w.heap.size) (setH s (s.H ++ [o])) a (w.alloc ob) := by
  have hb : ¬ K.tracked w.heap.size := not_tracked_new h.inv (Nat.le_refl _)
  refine h.toH (le_addVb h.inv _) rfl ((h.alloc ob).inv.addVb hb o ho hno) (fun i b e => heap_alloc_old w ob b (h.slot_lt e)) (fun i b e => ?_) (by have := h.base; simp; omega) (h.bok.append h.base _)
  obtain ⟨_, q1, q2, q3, q4⟩ := h.sl i b e
  refine ⟨fun j q => ?_, q2, q3, q4⟩
  simp only [Kz.addVb] at q
  split at q
  · cases q; exact absurd (h.slot_lt e) (by omega)
  · exact q1 j q

/-- A local struct in a slot. -/
theorem StRel.newSlot {S : Nat → Bool} {K : Kz} {s : St} {a : Act} {w : World} (h : StRel S K s a w) {d : Nat} (hS : S d = true) (hd : d < s.t.length) (hn : noVar (s.t.getD d .undef) = true) (cs : Array Value) (el : TypeId) (c : List AV) (hr : RepL K cs.toList c) (hc : cell1L c = true) :
    ∃ K', KL K K' ∧ Step K w K' (w.alloc (.cells cs el)) ∧ StRel S K' (AM.put s (some d) (.lvar c)) (a.put (some d) (.pointer (some ⟨w.heap.size, 0, none⟩))) (w.alloc (.cells cs el)) := by
  have hsd : K.sl d = none := by
    cases q : K.sl d with
    | none => rfl
    | some b =>
      obtain ⟨⟨c', e⟩, _⟩ := h.sl d b q
      rw [e] at hn; simp [noVar] at hn
  have hle : KLe K (K.withSl fun i => if i = d then some w.heap.size else K.sl i) := by
    refine (KL.le ?_ fun i b e => ?_)
    · exact ⟨Nat.le_refl _, fun _ _ e => e, fun _ => Nat.le_refl _, fun _ _ _ => rfl, fun _ c e => ⟨[], by rw [List.append_nil]; exact e⟩, fun _ _ e => e⟩
    · simp only [Kz.withSl]
      rw [if_neg]
      · exact e
      · rintro rfl; rw [hsd] at e; cases e
  have hinv : Inv (K.withSl fun i => if i = d then some w.heap.size else K.sl i) s.H (w.alloc (.cells cs el)) := by
    have hi := (h.alloc (.cells cs el)).inv
    refine ⟨hi.n, fun id o e => (hi.obj id o e).mono hle (by rw [hi.n]; exact (List.getElem?_eq_some_iff.1 e).1) rfl fun q => q, hi.vbd, hi.verd, fun b x e => ?_, fun b x e => ?_, hi.injv, hi.injr, hi.vr, hi.vz, hi.rz⟩
    · obtain ⟨q1, cs, el, fr, q2, xs, ys, q3, q4⟩ := hi.fz b x e
      exact ⟨q1, cs, el, fr, q2, xs, ys, q3, q4.mono hle⟩
    · obtain ⟨q1, es, cl, q2, q3⟩ := hi.fm b x e
      exact ⟨q1, es, cl, q2, q3.mono hle⟩
  refine ⟨_, hle.kl, ⟨rfl, rfl, rfl, by simp, fun b hb _ _ => heap_alloc_old w _ b hb, fun b _ q => q, fun s' b e => ?_, fun b _ e n => absurd e n, fun b _ e n => absurd e n, fun _ _ _ h _ => h⟩, hinv, h.d, by simp [AM.put, Act.put, h.len], fun i => ?_, fun i b e => ?_, fun i j b e1 e2 => ?_, fun i hi => ?_, h.base, h.bok⟩
  · simp only [Kz.withSl] at e
    split at e
    · cases e; exact .inr (Nat.le_refl _)
    · exact .inl e
  · simp only [AM.put, Act.put, getD_put, getD_putA, h.len]
    by_cases q : d = i
    · subst q
      rw [if_pos ⟨rfl, hd⟩, if_pos ⟨rfl, hd⟩]
      exact ⟨w.heap.size, cs, el, by simp [Kz.withSl], rfl, heap_alloc_new w _, hr.mono hle, hc⟩
    · rw [if_neg (by simp [q]), if_neg (by simp [q])]
      have ht := h.tmp i
      cases hq : s.t.getD i .undef <;> rw [hq] at ht <;> simp only [TmpOK] at ht ⊢ <;> first | exact ht.mono hle | skip
      obtain ⟨b, cs', el', h1, h2, h3, h4, h5⟩ := ht
      exact ⟨b, cs', el', hle.sl i b h1, h2, by rw [heap_alloc_old w _ b (h.slot_lt h1)]; exact h3, h4.mono hle, h5⟩
  · simp only [Kz.withSl] at e
    split at e
    · rename_i q
      subst q
      cases e
      have hb : ¬ K.tracked w.heap.size := not_tracked_new h.inv (Nat.le_refl _)
      refine ⟨⟨c, ?_⟩, fun j q => hb (.inl (.inl ⟨j, q⟩)), fun j q => hb (.inl (.inr ⟨j, q⟩)), ?_, ?_⟩
      · simp only [AM.put, getD_put]
        rw [if_pos ⟨trivial, hd⟩]
      · cases q : K.fz w.heap.size with
        | none => exact q
        | some x => exact absurd (.inr (.inl (by rw [q]; simp))) hb
      · cases q : K.fm w.heap.size with
        | none => exact q
        | some x => exact absurd (.inr (.inr (by rw [q]; simp))) hb
    · rename_i q
      obtain ⟨⟨c', e1⟩, r⟩ := h.sl i b e
      refine ⟨⟨c', ?_⟩, r⟩
      simp only [AM.put, getD_put]
      rw [if_neg (by rintro ⟨rfl, _⟩; exact q rfl)]
      exact e1
  · simp only [Kz.withSl] at e1 e2
    split at e1 <;> split at e2
    · rename_i q1 q2; rw [q1, q2]
    · cases e1; exact absurd (h.slot_lt e2) (by omega)
    · cases e2; exact absurd (h.slot_lt e1) (by omega)
    · exact h.sli i j b e1 e2
  · simp only [AM.put, getD_put]
    split
    · rename_i q; obtain ⟨rfl, _⟩ := q; rw [hS] at hi; cases hi
    · exact h.nos i hi

theorem run_alloc {P : Program} {w : World} {t : TypeId} {z : List AV} (hz : zeroP P t z = true) : ∃ v, (Instr.alloc t true (.tuple #[])).run P w = .ok (.pointer (some ⟨w.heap.size, 0, none⟩)) (w.alloc (.cells v t)) ∧ vOKL v.toList z = true := by
  obtain ⟨v, h1, h2, _⟩ := zeroP_run hz w
  exact ⟨v.cells, by simp [Instr.alloc, h1, newVar, newRow], h2⟩

theorem run_box {P : Program} {w : World} {t : TypeId} {v : Value} : (Instr.box t v).run P w = .ok (.pointer (some ⟨w.heap.size, 0, none⟩)) (w.alloc (.cells v.cells t)) := by
  simp [Instr.box, newVar, newRow]

/-- Empty rows are added. -/
theorem StRel.newRow {S : Nat → Bool} {K : Kz} {s : St} {a : Act} {w : World} (h : StRel S K s a w) (e sz : Nat) (hsz : 0 < sz) : KLe K (K.addRow 0 nilv) ∧ Step K w (K.addRow 0 nilv) w ∧ StRel S (K.addRow 0 nilv) (setH s (s.H ++ [.row false true e sz []])) a w := by
  have hle := le_addRow h.inv 0 nilv
  refine ⟨hle, Step.alloc_row K w w 0 nilv (fun b q => by simp [nilv, Value.ownBlock] at q) rfl rfl rfl (Nat.le_refl _) fun _ _ => rfl, ?_⟩
  refine h.toH hle rfl (h.inv.addRow (fun b q => by simp [nilv, Value.ownBlock] at q) hle false true e sz [] hsz rfl (fun _ => rfl) (w.ownsRow_nil 0 e sz) .nil) (fun _ _ _ => rfl) (fun i b e' => ?_) (by have := h.base; simp; omega) (h.bok.append h.base _)
  obtain ⟨_, q1, q2, q3, q4⟩ := h.sl i b e'
  refine ⟨q1, fun j q => ?_, q3, q4⟩
  simp only [Kz.addRow] at q
  split at q
  · simp [nilv, Value.ownBlock] at q
  · exact q2 j q

end Go.Proofs.YtdhlgbnljhgabaaGreatDoor.AM

/- Literals of slices, rows, stores. -/
namespace Go.Proofs.YtdhlgbnljhgabaaGreatDoor.AM
open Go

/-- Parts of a slice's literal. -/
def partsS (sz : Nat) : List (Nat × Operand) → List (Nat × Opd) → Bool
  | [], [] => true
  | (i, x) :: ps, (j, y) :: qs => decide (i = j) && opdOK x y && partsS sz ps qs
  | _, _ => false

theorem partsS_rep {S : Nat → Bool} {K : Kz} {s : St} {a : Act} {w : World} (h : StRel S K s a w) {sz : Nat} : ∀ {ps : List (Nat × Operand)} {qs : List (Nat × Opd)}, partsS sz ps qs = true →
    PartsRep K (fun i => some (i * sz, sz)) (ps.map fun (i, x) => (i, a.eval x)) (qs.map fun p => (p.1 * sz, sz, ev s.t p.2))
  | [], [], _ => .nil
  | (i, x) :: ps, (j, y) :: qs, hq => by
    simp only [partsS, Bool.and_eq_true, decide_eq_true_eq] at hq
    obtain ⟨⟨rfl, h1⟩, h2⟩ := hq
    exact .cons _ _ _ _ _ _ _ rfl (h.ev h1) (partsS_rep h h2)
  | [], _ :: _, hq => by simp [partsS] at hq
  | _ :: _, [], hq => by simp [partsS] at hq

theorem repZ_length (z : List AV) : ∀ n, (repZ z n).length = n * z.length
  | 0 => by simp [repZ]
  | n + 1 => by simp [repZ, repZ_length z n, Nat.add_mul, Nat.add_comm]

/-- As many zero cells as are wanted. -/
theorem zeros_rep {K : Kz} {zc : Array Value} {z : List AV} (h : RepL K zc.toList z) (n : Nat) : RepL K ((Array.range (n * zc.size)).map (zc[· % zc.size]!)).toList (repZ z n) := by
  have hl := h.length
  simp only [Array.length_toList] at hl
  by_cases h0 : zc.size = 0
  · have hz : z = [] := List.eq_nil_of_length_eq_zero (by omega)
    have : repZ z n = [] := List.eq_nil_of_length_eq_zero (by rw [repZ_length, hz]; simp)
    rw [this, h0]
    simp
    exact .nil
  · have key : ∀ i a, (repZ z n)[i]? = some a → Rep K (zc[i % zc.size]!) a := by
      intro i a e
      have hlt : i < n * z.length := by rw [← repZ_length]; exact (List.getElem?_eq_some_iff.1 e).1
      have : (repZ z n)[i]? = z[i % z.length]? := by
        have hi : ∀ m j, j < m * z.length → (repZ z m)[j]? = z[j % z.length]? := by
          intro m
          induction m with
          | zero => intro j hj; omega
          | succ m ih =>
            intro j hj
            simp only [repZ]
            rcases Nat.lt_or_ge j z.length with q | q
            · rw [List.getElem?_append_left q, Nat.mod_eq_of_lt q]
            · rw [List.getElem?_append_right q, ih _ (by rw [Nat.add_mul] at hj; omega)]
              congr 1
              exact (Nat.mod_eq_sub_mod q).symm
        exact hi n i hlt
      rw [this] at e
      obtain ⟨v, e1, e2⟩ := h.toArray_get e
      rw [hl]
      have : zc[i % z.length]! = v := by
        rw [getElem!_def, e1]
      rw [this]
      exact e2
    have := RepL.of_get (K := K) (as := repZ z n) (f := fun i => zc[i % zc.size]!) key
    rw [repZ_length, ← hl] at this
    simpa using this

def sliceTP (P : Program) (t : TypeId) (e sz : Nat) (z : List AV) : Bool :=
  match P.underlying t with
  | some (.slice e') => decide (e = e') && szP P e sz && zeroP P e z && decide (z.length = sz)
  | _ => false

theorem sliceTP_spec {P : Program} {t : TypeId} {e sz : Nat} {z : List AV} (h : sliceTP P t e sz z = true) :
    P.underlying t = some (.slice e) ∧ szP P e sz = true ∧ z.length = sz ∧ ∃ i v, P.info? e = some i ∧ i.zero = some v ∧ i.size = sz ∧ vOKL v.cells.toList z = true ∧ v.cells.size = sz := by
  unfold sliceTP at h
  split at h
  · rename_i e' hd
    simp only [Bool.and_eq_true, decide_eq_true_eq] at h
    obtain ⟨⟨⟨rfl, h2⟩, h3⟩, h4⟩ := h
    refine ⟨hd, h2, h4, ?_⟩
    unfold zeroP at h3
    unfold szP at h2
    cases hi : P.info? e with
    | none => rw [hi] at h3; simp at h3
    | some i =>
      rw [hi] at h3 h2
      simp only [decide_eq_true_eq] at h2
      cases hz : i.zero with
      | none => simp only [hz] at h3; simp at h3
      | some v =>
        simp only [hz] at h3
        have hl := (vOKL_rep h3 ⟨0, fun _ => none, fun _ => 0, fun _ => nilv, fun _ => none, fun _ => none, fun _ => none⟩).length
        simp only [Array.length_toList] at hl
        exact ⟨i, v, rfl, hz, h2, h3, by omega⟩
  · simp at h

/-- A slice's literal: a new block whose cells are known. -/
theorem run_buildSlice {P : Program} {S : Nat → Bool} {K : Kz} {s : St} {a : Act} {w : World} (h : StRel S K s a w) {t : TypeId} {e sz n : Nat} {z c : List AV} {ps : Array (Nat × Operand)} {qs : List (Nat × Opd)}
    (ht : sliceTP P t e sz z = true) (hsz : 0 < sz) (hn : n * sz ≤ 16777216) (hq : partsS sz ps.toList qs = true) (hf : fillP (repZ z n) (qs.map fun p => (p.1 * sz, sz, ev s.t p.2)) = some c) :
    ∃ cs : Array Value, (Instr.buildSlice t n (ps.map fun (i, x) => (i, a.eval x))).run P w = .ok (.slice (some ⟨w.heap.size, 0, none⟩) n n) (w.alloc (.cells cs e)) ∧ RepL K cs.toList c ∧ cs.size = n * sz := by
  obtain ⟨hd, h2, h4, i, v, hi, hz, h5, h6, h7⟩ := sliceTP_spec ht
  have hzr := zeros_rep (vOKL_rep h6 K) n
  rw [show n * v.cells.size = n * sz by rw [h7]] at hzr
  obtain ⟨cs', e1, e2⟩ := fill_rep (partsS_rep h hq) hzr hf
  have hlen : cs'.size = n * sz := by
    have h1 := e2.length
    have h2 : ∀ (qs : List (Nat × Nat × AV)) (c c' : List AV), fillP c qs = some c' → c'.length = c.length := by
      intro qs
      induction qs with
      | nil => intro c c' h; simp only [fillP, Option.some.injEq] at h; rw [h]
      | cons q qs ih =>
        obtain ⟨o, z, v⟩ := q
        intro c c' h
        simp only [fillP] at h
        split at h
        · rw [ih _ _ h, length_wrL]
        · simp at h
    have h3 := h2 _ _ _ hf
    rw [repZ_length, h4] at h3
    simp only [Array.length_toList] at h1
    omega
  refine ⟨cs', ?_, e2, hlen⟩
  have hlist : (Array.map (fun x => match x with | (i, x) => (i, a.eval x)) ps).toList = List.map (fun x => match x with | (i, x) => (i, a.eval x)) ps.toList := by simp
  unfold Instr.buildSlice
  simp only [Sem.run_bind, run_underlying hd, Result.andThen_ok, run_sizeOf h2]
  rw [if_neg (by omega)]
  simp only at e1
  by_cases h0 : n * sz = 0
  · have hn0 : n = 0 := by rcases Nat.mul_eq_zero.1 h0 with q | q <;> omega
    subst hn0
    rw [if_pos h0]
    simp only [Nat.zero_mul] at e1 ⊢
    simp only [hlist]
    rw [Sem.run_bind, Sem.run_pure, Result.andThen_ok]
    have e1' : Instr.fill (fun i => some (i * sz, sz)) (Array.map (fun x => (#[] : Array Value)[x % (#[] : Array Value).size]!) (Array.range 0)) (List.map (fun x => (x.fst, a.eval x.snd)) ps.toList) = some cs' := by
      rw [← e1]; congr 1; simp
    rw [e1']
    simp [newRow]
  · rw [if_neg h0]
    simp only [Sem.run_bind, zeroValue, typeInfo, hi, hz, run_program, Sem.run_pure, Result.andThen_ok, hlist]
    rw [e1]
    simp [newRow]

theorem op_mkList {P : Program} {S : Nat → Bool} {K : Kz} {s : St} {a : Act} {w : World} {o : Oper} (h : StRel S K s a w) (hd : ∀ x, o.dst = some x → S x = false) {t : TypeId} {e sz n : Nat} {z c : List AV} {ps : Array (Nat × Operand)} {qs : List (Nat × Opd)}
    (ho : o.op = .buildSlice t n ps) (ht : sliceTP P t e sz z = true) (hsz : 0 < sz) (hn : n * sz ≤ 16777216) (hq : partsS sz ps.toList qs = true) (hf : fillP (repZ z n) (qs.map fun p => (p.1 * sz, sz, ev s.t p.2)) = some c) (hp : pureL c = true) :
    OpW P o a w (Done S K w s o.dst (.ok (.list c n) s)) (Pan K w s (.ok (.list c n) s)) := by
  obtain ⟨cs, h1, h2, h3⟩ := run_buildSlice h ht hsz hn hq hf
  have hb : ¬ K.tracked w.heap.size := not_tracked_new h.inv (Nat.le_refl _)
  have hfz : K.fz w.heap.size = none := by
    cases q : K.fz w.heap.size with
    | none => rfl
    | some x => exact absurd (.inr (.inl (by rw [q]; simp))) hb
  have hle := le_addFz (K := K) w.heap.size c hfz
  have hinv := (h.alloc (.cells cs e)).inv.addFz (b := w.heap.size) (c := c) hb (heap_alloc_new w _) (xs := cs.toList) (ys := []) (by simp) h2 hp
  have hrel : StRel S (K.addFz w.heap.size c) (setH s s.H) a (w.alloc (.cells cs e)) := by
    refine h.toH hle rfl hinv (fun i b q => heap_alloc_old w _ b (h.slot_lt q)) (fun i b q => ?_) h.base h.bok
    obtain ⟨_, q1, q2, q3, q4⟩ := h.sl i b q
    refine ⟨q1, q2, ?_, q4⟩
    simp only [Kz.addFz]
    rw [if_neg (by have := h.slot_lt q; omega)]
    exact q3
  refine OpW.value (v := .slice (some ⟨w.heap.size, 0, none⟩) n n) (w' := w.alloc (.cells cs e)) (by simp [execOp, ho, h1]) ⟨_, s, _, rfl, hle.kl, Step.alloc_fz K w _ _ c (Nat.le_refl _) rfl rfl rfl (by simp) (fun b hb => heap_alloc_old w _ b hb), ?_⟩
  exact ⟨hrel.put o.dst hd (.list w.heap.size 0 n n c c (by simp [Kz.addFz]) ⟨[], [], by simp, rfl⟩ (Nat.le_refl _)), Keeps.refl s⟩

theorem op_mkRow {P : Program} {S : Nat → Bool} {K : Kz} {s : St} {a : Act} {w : World} {o : Oper} (h : StRel S K s a w) (hd : ∀ x, o.dst = some x → S x = false) {t : TypeId} {e sz n : Nat} {z c : List AV} {ps : Array (Nat × Operand)} {qs : List (Nat × Opd)}
    (ho : o.op = .buildSlice t n ps) (ht : sliceTP P t e sz z = true) (hsz : 0 < sz) (hn : n * sz ≤ 16777216) (hq : partsS sz ps.toList qs = true) (hf : fillP (repZ z n) (qs.map fun p => (p.1 * sz, sz, ev s.t p.2)) = some c) (hc : cell1L c = true) :
    let r := OpRes.ok (.own s.H.length n) (setH s (s.H ++ [.row false (pureL c) e sz c]))
    OpW P o a w (Done S K w s o.dst r) (Pan K w s r) := by
  obtain ⟨cs, h1, h2, h3⟩ := run_buildSlice h ht hsz hn hq hf
  have hb : ¬ K.tracked w.heap.size := not_tracked_new h.inv (Nat.le_refl _)
  have hle := le_addRow h.inv n (.slice (some ⟨w.heap.size, 0, none⟩) n n)
  have hml : n ≤ maxLen := by
    have : n * 1 ≤ n * sz := Nat.mul_le_mul_left n hsz
    unfold maxLen; omega
  have hown : (w.alloc (.cells cs e)).ownsRow 0 e sz (.slice (some ⟨w.heap.size, 0, none⟩) n n) n cs.toList :=
    ⟨by simpa using h3, .inr ⟨w.heap.size, n, cs, rfl, Nat.zero_le _, heap_alloc_new w _, Nat.le_refl _, hml, h3, by rw [← h3]; exact List.take_of_length_le (by simp)⟩⟩
  have hinv := (h.alloc (.cells cs e)).inv.addRow (m := n) (v := .slice (some ⟨w.heap.size, 0, none⟩) n n) (fun b q => by simp [Value.ownBlock] at q; subst q; exact hb) hle false (pureL c) e sz c hsz hc (fun q => q) hown (h2.mono hle)
  have hrel : StRel S (K.addRow n (.slice (some ⟨w.heap.size, 0, none⟩) n n)) (setH s (s.H ++ [.row false (pureL c) e sz c])) a (w.alloc (.cells cs e)) := by
    refine h.toH hle rfl hinv (fun i b q => heap_alloc_old w _ b (h.slot_lt q)) (fun i b q => ?_) (by have := h.base; simp; omega) (h.bok.append h.base _)
    obtain ⟨_, q1, q2, q3, q4⟩ := h.sl i b q
    refine ⟨q1, fun j q5 => ?_, q3, q4⟩
    simp only [Kz.addRow] at q5
    split at q5
    · simp [Value.ownBlock] at q5; have := h.slot_lt q; omega
    · exact q2 j q5
  intro r
  refine OpW.value (v := .slice (some ⟨w.heap.size, 0, none⟩) n n) (w' := w.alloc (.cells cs e)) (by simp [execOp, ho, h1]) ⟨_, _, _, rfl, hle.kl, Step.alloc_row K w _ n _ (fun b q => by simp [Value.ownBlock] at q; omega) rfl rfl rfl (by simp) (fun b hb => heap_alloc_old w _ b hb), ?_⟩
  refine ⟨hrel.put o.dst hd (.own s.H.length n _ ?_ ?_ (fun _ => ?_) rfl), Keeps.push h.base _⟩
  · simp [Kz.addRow, h.inv.n]
  · simp [Kz.addRow, h.inv.n]
  · simp [Kz.addRow, h.inv.n]
end Go.Proofs.YtdhlgbnljhgabaaGreatDoor.AM

/- Stores. -/
namespace Go.Proofs.YtdhlgbnljhgabaaGreatDoor.AM
open Go

theorem set_take {α : Type} (c : List α) (off : Nat) (v : α) (h : off < c.length) : (c.set off v).take (off + 1) = c.take off ++ [v] := by
  apply List.ext_getElem?
  intro i
  rw [List.getElem?_take, List.getElem?_set]
  rcases Nat.lt_trichotomy i off with q | q | q
  · rw [if_pos (by omega), if_neg (by omega), List.getElem?_append_left (by simp; omega), List.getElem?_take, if_pos q]
  · subst q
    rw [if_pos (by omega), if_pos rfl, if_pos h, List.getElem?_append_right (by simp; omega)]
    simp [Nat.min_eq_left (Nat.le_of_lt h)]
  · rw [if_neg (by omega), List.getElem?_append_right (by simp; omega), List.getElem?_eq_none]
    simp; omega

theorem set_drop {α : Type} (c : List α) (off n : Nat) (v : α) : (c.set off v).drop (off + 1 + n) = c.drop (off + 1 + n) := by
  apply List.ext_getElem?
  intro i
  rw [List.getElem?_drop, List.getElem?_drop, List.getElem?_set, if_neg (by omega)]

theorem wrL_eq : ∀ (vs : List AV) (off : Nat) (c : List AV), off + vs.length ≤ c.length → wrL c off vs = c.take off ++ vs ++ c.drop (off + vs.length)
  | [], off, c, h => by simp [wrL]
  | v :: vs, off, c, h => by
    simp only [List.length_cons] at h
    rw [wrL, wrL_eq vs (off + 1) (c.set off v) (by simp; omega), set_take c off v (by omega), set_drop]
    simp only [List.append_assoc, List.singleton_append, List.length_cons]
    rw [show off + 1 + vs.length = off + (vs.length + 1) by omega]

theorem oneCells {K : Kz} {vs : List Value} {as : List AV} (h : RepL K vs as) (hc : cell1L as = true) : ∀ v ∈ vs, v.oneCell' = true := by
  induction as generalizing vs with
  | nil => cases h; simp
  | cons a as ih =>
    cases h with
    | cons v _ vs _ h hl =>
      simp only [cell1L, List.all_cons, Bool.and_eq_true] at hc
      intro u hu
      simp only [List.mem_cons] at hu
      rcases hu with rfl | hu
      · exact h.one hc.1
      · exact ih hl hc.2 u hu


/-- The cells of a store. -/
theorem run_storeVar {P : Program} {K : Kz} {w : World} {t : TypeId} {b o sz : Nat} {cs : Array Value} {el : TypeId} {x' : Value} {x : AV} (hw : w.heap[b]? = some (.cells cs el (0, 0))) (hx : Rep K x' x) (hl : x.cells.length = sz) (hc : cell1L x.cells = true) (ht : szP P t sz = true) (ho : o + sz ≤ cs.size) :
    ∃ vs : List Value, RepL K vs x.cells ∧ (storeVar t ⟨b, o, none⟩ x').run P w = .ok () (w.setRow b (cs.toList.take o ++ vs ++ cs.toList.drop (o + vs.length)).toArray) := by
  have hr := hx.cells hc
  have hlen := hr.length
  simp only [Array.length_toList] at hlen
  refine ⟨x'.cells.toList, hr, ?_⟩
  have hst := run_storeCells_at P b o el x'.cells.toList 0 cs w hw (by simp; omega) (oneCells hr hc)
  simp only [Nat.add_zero] at hst
  simp only [storeVar, Sem.run_bind, run_sizeOf ht, Result.andThen_ok]
  rw [if_neg (by omega)]
  simpa using hst

theorem RepL.wr {K : Kz} {cs : Array Value} {c c' : List AV} {vs : List Value} {as : List AV} {o : Nat} (h : RepL K cs.toList c) (hv : RepL K vs as) (hw : AM.wr c o as = some c') :
    RepL K (cs.toList.take o ++ vs ++ cs.toList.drop (o + vs.length)) c' ∧ c'.length = c.length := by
  unfold AM.wr at hw
  split at hw
  · rename_i hl
    simp only [Option.some.injEq] at hw
    subst hw
    refine ⟨?_, length_wrL _ _ _⟩
    rw [wrL_eq _ _ _ hl]
    have e := hv.length
    rw [e]
    exact ((h.take o).append hv).append (h.drop _)
  · simp at hw

theorem cell1L_append {a b : List AV} : cell1L (a ++ b) = (cell1L a && cell1L b) := by simp [cell1L]
theorem cell1L_take {a : List AV} (h : cell1L a = true) (n : Nat) : cell1L (a.take n) = true := by
  simp only [cell1L, List.all_eq_true] at h ⊢
  exact fun x hx => h x (List.mem_of_mem_take hx)
theorem cell1L_drop {a : List AV} (h : cell1L a = true) (n : Nat) : cell1L (a.drop n) = true := by
  simp only [cell1L, List.all_eq_true] at h ⊢
  exact fun x hx => h x (List.mem_of_mem_drop hx)
theorem cell1L_wr {c c' vs : List AV} {o : Nat} (h : cell1L c = true) (hv : cell1L vs = true) (hw : wr c o vs = some c') : cell1L c' = true := by
  unfold wr at hw
  split at hw
  · rename_i hl
    simp only [Option.some.injEq] at hw
    subst hw
    rw [wrL_eq _ _ _ hl, cell1L_append, cell1L_append, cell1L_take h, hv, cell1L_drop h]
    rfl
  · simp at hw

theorem pureL_all {l : List AV} : pureL l = l.all pure := by
  induction l with
  | nil => rfl
  | cons a l ih => simp [pureL, ih]
theorem belowL_all {n : Nat} {l : List AV} : belowL n l = l.all (below n) := by
  induction l with
  | nil => rfl
  | cons a l ih => simp [belowL, ih]
theorem pureL_append {a b : List AV} : pureL (a ++ b) = (pureL a && pureL b) := by simp [pureL_all]
theorem belowL_append {n : Nat} {a b : List AV} : belowL n (a ++ b) = (belowL n a && belowL n b) := by simp [belowL_all]
theorem pureL_wr {c c' vs : List AV} {o : Nat} (h : pureL c = true) (hv : pureL vs = true) (hw : wr c o vs = some c') : pureL c' = true := by
  unfold wr at hw
  split at hw
  · rename_i hl
    simp only [Option.some.injEq] at hw
    subst hw
    rw [wrL_eq _ _ _ hl, pureL_append, pureL_append, hv]
    simp only [pureL_all, List.all_eq_true, Bool.and_eq_true] at h ⊢
    exact ⟨⟨fun x hx => h x (List.mem_of_mem_take hx), trivial⟩, fun x hx => h x (List.mem_of_mem_drop hx)⟩
  · simp at hw
theorem belowL_wr {n : Nat} {c c' vs : List AV} {o : Nat} (h : belowL n c = true) (hv : belowL n vs = true) (hw : wr c o vs = some c') : belowL n c' = true := by
  unfold wr at hw
  split at hw
  · rename_i hl
    simp only [Option.some.injEq] at hw
    subst hw
    rw [wrL_eq _ _ _ hl, belowL_append, belowL_append, hv]
    simp only [belowL_all, List.all_eq_true, Bool.and_eq_true] at h ⊢
    exact ⟨⟨fun x hx => h x (List.mem_of_mem_take hx), trivial⟩, fun x hx => h x (List.mem_of_mem_drop hx)⟩
  · simp at hw

/-- An object's content turned. -/
theorem Inv.setObj {K : Kz} {H : Hp} {w w' : World} (h : Inv K H w) {id : Nat} {o : AObj} (hid : id < H.length) (ho : ObjOK K w' id o) (hb : ∀ b, K.tracked b → (K.vb id ≠ some b ∧ (K.rv id).ownBlock ≠ some b) → w'.heap[b]? = w.heap[b]?)
    (hro : ∀ b, K.vb id = some b ∨ (K.rv id).ownBlock = some b → K.fz b = none) (hfm : ∀ b, (K.rv id).ownBlock = some b → K.fm b = none) : Inv K (H.set id o) w' where
  n := by simp [h.n]
  obj i x e := by
    rw [List.getElem?_set] at e
    split at e
    · rename_i q
      subst q
      first
        | (simp only [Option.some.injEq] at e; subst e; exact ho)
        | (split at e <;> first | (simp only [Option.some.injEq] at e; subst e; exact ho) | cases e)
    · rename_i q
      refine (h.obj i x e).keep (fun b e1 => hb b (.inl (.inl ⟨i, e1⟩)) ⟨fun e2 => q (h.injv id i b e2 e1), fun e2 => h.vr i id b e1 e2⟩) (fun b e1 => hb b (.inl (.inr ⟨i, e1⟩)) ⟨fun e2 => h.vr id i b e2 e1, fun e2 => q (h.injr id i b e2 e1)⟩)
  vbd := h.vbd
  verd := h.verd
  fz b c e := by
    obtain ⟨q1, cs, el, fr, q2, r⟩ := h.fz b c e
    refine ⟨q1, cs, el, fr, ?_, r⟩
    rw [hb b (.inr (.inl (by rw [e]; simp))) ⟨fun q => (by rw [hro b (.inl q)] at e; cases e), fun q => (by rw [hro b (.inr q)] at e; cases e)⟩]
    exact q2
  fm b c e := by
    obtain ⟨q1, es, cl, q2, r⟩ := h.fm b c e
    refine ⟨q1, es, cl, ?_, r⟩
    rw [hb b (.inr (.inr (by rw [e]; simp))) ⟨fun q => (by rw [(h.vz id b q).2] at e; cases e), fun q => (by rw [hfm b q] at e; cases e)⟩]
    exact q2
  injv := h.injv
  injr := h.injr
  vr := h.vr
  vz := h.vz
  rz i b c e1 e2 := by
    obtain ⟨p, e, sz, cells, r, q1, q2⟩ := h.rz i b c e1 e2
    refine ⟨p, e, sz, cells, r, ?_, q2⟩
    rw [List.getElem?_set]
    split
    · rename_i q; subst q; rw [hro b (.inr e1)] at e2; cases e2
    · exact q1
end Go.Proofs.YtdhlgbnljhgabaaGreatDoor.AM

/- Stores: the operation. -/
namespace Go.Proofs.YtdhlgbnljhgabaaGreatDoor.AM
open Go

mutual
theorem below_of_pure {n : Nat} : ∀ {a : AV}, pure a = true → below n a = true
  | .func _ f c, h => by simp [AM.pure] at h; simp [below, belowL_of_pureL h.1, belowL_of_pureL h.2]
  | .iface _ v, h => by simp [AM.pure] at h; simp [below, below_of_pure h]
  | .agg cs, h => by simp [AM.pure] at h; simp [below, belowL_of_pureL h]
  | .tuple cs, h => by simp [AM.pure] at h; simp [below, belowL_of_pureL h]
  | .lvar _, h => by simp [AM.pure] at h
  | .lptr .., h => by simp [AM.pure] at h
  | .own .., h => by simp [AM.pure] at h
  | .ptr .., h => by simp [AM.pure] at h
  | .rptr .., h => by simp [AM.pure] at h
  | .map .., h => by simp [AM.pure] at h
  | .undef, _ | .nilS, _ | .nilPtr, _ | .nilMap, _ | .nilFunc, _ | .nilIface, _ | .bool _, _ | .int .., _ | .str _, _ | .list .., _ | .fptr .., _ | .fmap _, _ => rfl
theorem belowL_of_pureL {n : Nat} : ∀ {l : List AV}, pureL l = true → belowL n l = true
  | [], _ => rfl
  | a :: l, h => by simp [pureL] at h; simp [belowL, below_of_pure h.1, belowL_of_pureL h.2]
end

theorem Step.of_heap {K : Kz} {w w' : World} (h1 : w'.os = w.os) (h2 : w'.tape = w.tape) (h3 : w'.output = w.output) (h4 : w.heap.size ≤ w'.heap.size) (h5 : ∀ b, b < w.heap.size → ¬ K.owned b → (∀ s, K.sl s ≠ some b) → w'.heap[b]? = w.heap[b]?) : Step K w K w' :=
  ⟨h1, h2, h3, h4, h5, fun _ _ q => q, fun _ _ e => .inl e, fun _ _ e n => absurd e n, fun _ _ e n => absurd e n, fun _ _ _ e _ => e⟩

theorem fm_none_of_cells {K : Kz} {H : Hp} {w : World} (h : Inv K H w) {b : Nat} {cs : Array Value} {el : TypeId} {fr : Nat × Nat} (hw : w.heap[b]? = some (.cells cs el fr)) : K.fm b = none := by
  cases q : K.fm b with
  | none => rfl
  | some kvs =>
    obtain ⟨_, es, cl, e, _⟩ := h.fm b kvs q
    rw [hw] at e
    cases e

/-- The base holds when an object below it is turned to one that names none above. -/
theorem BaseOK.set {H : Hp} {base : Nat} (h : BaseOK H base) (id : Nat) (o : AObj) (ho : id < base → (∀ c, o = .var c → belowL base c = true) ∧ (∀ ro e sz c, o = .row ro false e sz c → belowL base c = true)) : BaseOK (H.set id o) base := fun i c hi => by
  rw [List.getElem?_set]
  by_cases q : id = i
  · subst q
    obtain ⟨h1, h2⟩ := ho hi
    rw [if_pos rfl]
    by_cases hl : id < H.length
    · rw [if_pos hl]
      exact ⟨fun e => h1 c (by simpa using e), fun ro e sz q => h2 ro e sz c (by simpa using q)⟩
    · rw [if_neg hl]
      exact ⟨fun e => (by simp at e), fun ro e sz q => (by simp at q)⟩
  · rw [if_neg q]
    exact h i c hi

mutual
theorem below_mono {n m : Nat} (hnm : n ≤ m) : ∀ {a : AV}, below n a = true → below m a = true
  | .func _ f c, h => by simp [below] at h; simp [below, belowL_mono hnm h.1, belowL_mono hnm h.2]
  | .iface _ v, h => by simp [below] at h; simp [below, below_mono hnm h]
  | .agg cs, h => by simp [below] at h; simp [below, belowL_mono hnm h]
  | .tuple cs, h => by simp [below] at h; simp [below, belowL_mono hnm h]
  | .lvar _, h => by simp [below] at h
  | .lptr .., h => by simp [below] at h
  | .own .., h => by simp [below] at h ⊢; omega
  | .ptr .., h => by simp [below] at h ⊢; omega
  | .rptr .., h => by simp [below] at h ⊢; omega
  | .map .., h => by simp [below] at h ⊢; omega
  | .undef, _ | .nilS, _ | .nilPtr, _ | .nilMap, _ | .nilFunc, _ | .nilIface, _ | .bool _, _ | .int .., _ | .str _, _ | .list .., _ | .fptr .., _ | .fmap _, _ => rfl
theorem belowL_mono {n m : Nat} (hnm : n ≤ m) : ∀ {l : List AV}, belowL n l = true → belowL m l = true
  | [], _ => rfl
  | a :: l, h => by simp [belowL] at h; simp [belowL, below_mono hnm h.1, belowL_mono hnm h.2]
end

theorem Keeps.set {s : St} {id : Nat} {o : AObj} (ho : id < s.base → ∀ b, id < b → b ≤ s.base → BaseOK s.H b → (∀ c, o = .var c → belowL b c = true) ∧ (∀ ro e sz c, o = .row ro false e sz c → belowL b c = true)) : Keeps s (setH s (s.H.set id o)) :=
  ⟨rfl, fun b hb q => q.set id o fun hi => ho (by omega) b hi hb q⟩

theorem setRow_step {K : Kz} {w : World} {b : Nat} (cs : Array Value) (hb : K.owned b ∨ ∃ s, K.sl s = some b) : Step K w K (w.setRow b cs) :=
  Step.of_heap rfl rfl rfl (by simp) fun k _ h1 h2 => setRow_other w b k cs fun e => by
    subst e
    rcases hb with q | ⟨s, q⟩
    · exact h1 q
    · exact h2 s q

/-- A local struct is written. -/
theorem StRel.setSlot {S : Nat → Bool} {K : Kz} {s : St} {a : Act} {w : World} (h : StRel S K s a w) {t b : Nat} (hb : K.sl t = some b) {cs : Array Value} {el : TypeId} (hw : w.heap[b]? = some (.cells cs el (0, 0))) {cs' : Array Value} {c' : List AV} (hr : RepL K cs'.toList c') (hc : cell1L c' = true) :
    StRel S K (setT s (s.t.set t (.lvar c'))) a (w.setRow b cs') := by
  obtain ⟨⟨c, hcc⟩, hv1, hv2, hv3, hv4⟩ := h.sl t b hb
  have htl : t < s.t.length := by
    rcases Nat.lt_or_ge t s.t.length with q | q
    · exact q
    · rw [List.getD_eq_getElem?_getD, List.getElem?_eq_none q] at hcc; simp at hcc
  have hnt : ¬ K.tracked b := by
    rintro ((⟨i, e⟩ | ⟨i, e⟩) | e | e)
    · exact hv1 i e
    · exact hv2 i e
    · exact e hv3
    · exact e hv4
  refine ⟨h.inv.keep fun k hk => setRow_other w b k cs' fun e => hnt (e ▸ hk), h.d, by simp [setT, h.len], fun i => ?_, fun i k e => ?_, h.sli, fun i hi => ?_, h.base, h.bok⟩
  · simp only [setT, getD_put]
    by_cases q : t = i
    · subst q
      rw [if_pos ⟨rfl, htl⟩]
      have htm := h.tmp t
      rw [hcc] at htm
      obtain ⟨b', cs0, el0, h1, h2, _⟩ := htm
      rw [hb] at h1
      cases h1
      exact ⟨b, cs', el, hb, h2, setRow_heap w b cs cs' el (0, 0) hw, hr, hc⟩
    · rw [if_neg (by simp [q])]
      have htm := h.tmp i
      cases hq : s.t.getD i .undef <;> rw [hq] at htm <;> simp only [TmpOK] at htm ⊢ <;> first | exact htm | skip
      obtain ⟨b', cs0, el0, h1, h2, h3, h4⟩ := htm
      refine ⟨b', cs0, el0, h1, h2, ?_, h4⟩
      rw [setRow_other w b b' cs' (fun e => q (h.sli t i b hb (e ▸ h1)))]
      exact h3
  · obtain ⟨⟨c1, e1⟩, r⟩ := h.sl i k e
    by_cases q : t = i
    · subst q
      exact ⟨⟨c', by simp only [setT, getD_put]; rw [if_pos ⟨trivial, htl⟩]⟩, r⟩
    · exact ⟨⟨c1, by simp only [setT, getD_put]; rw [if_neg (by simp [q])]; exact e1⟩, r⟩
  · simp only [setT, getD_put]
    by_cases q : t = i
    · subst q
      have := h.nos t hi
      rw [hcc] at this
      simp [noVar] at this
    · rw [if_neg (by simp [q])]; exact h.nos i hi

/-- A heap object is written. -/
theorem StRel.setHeap {S : Nat → Bool} {K : Kz} {s : St} {a : Act} {w : World} (h : StRel S K s a w) {id b : Nat} {o : AObj} {cs' : Array Value} (hid : id < s.H.length) (hb : K.vb id = some b ∨ (K.rv id).ownBlock = some b)
    (hone : ∀ k, K.vb id = some k ∨ (K.rv id).ownBlock = some k → k = b) (hfz : K.fz b = none) (hfm : K.fm b = none) (ho : ObjOK K (w.setRow b cs') id o) (hbok : BaseOK (s.H.set id o) s.base) : StRel S K (setH s (s.H.set id o)) a (w.setRow b cs') := by
  refine h.toH ⟨Nat.le_refl _, fun _ _ e => e, fun _ => Nat.le_refl _, fun _ _ _ => rfl, fun _ c e => ⟨[], by rw [List.append_nil]; exact e⟩, fun _ _ e => e, fun _ _ e => e⟩ rfl ?_ (fun i k e => ?_) (fun i k e => (h.sl i k e).2) (by simpa using h.base) hbok
  · refine h.inv.setObj hid ho (fun k _ hk => setRow_other w b k cs' fun e => ?_) (fun k hk => by rw [hone k hk]; exact hfz) (fun k hk => by rw [hone k (.inr hk)]; exact hfm)
    subst e
    rcases hb with q | q
    · exact hk.1 q
    · exact hk.2 q
  · refine setRow_other w b k cs' fun q => ?_
    subst q
    obtain ⟨_, q1, q2, _⟩ := h.sl i k e
    rcases hb with q | q
    · exact q1 _ q
    · exact q2 _ q

theorem op_store {P : Program} {S : Nat → Bool} {K : Kz} {s s' : St} {a : Act} {w : World} {o : Oper} (h : StRel S K s a w) (hd : ∀ x, o.dst = some x → S x = false) {t : TypeId} {sz : Nat} {oa ox : Operand} {pv xv : Value} {p x : AV}
    (ho : o.op = .store t oa ox) (ht : szP P t sz = true) (hpe : a.eval oa = pv) (hxe : a.eval ox = xv) (ha : Rep K pv p) (hx : Rep K xv x) (hs : storeA s sz p x = some s') :
    OpW P o a w (Done S K w s o.dst (.ok (.tuple []) s')) (Pan K w s (.ok (.tuple []) s')) := by
  have hund : ∀ K', Rep K' undef (.tuple []) := fun K' => .tuple [] [] .nil
  unfold storeA at hs
  simp only at hs
  split at hs
  · rename_i hq
    obtain ⟨hl, hc⟩ := hq
    split at hs
    · rename_i sl off
      cases ha with
      | lptr _ _ b hb =>
      obtain ⟨⟨c, hcc⟩, hv1, hv2, hv3, hv4⟩ := h.sl sl b hb
      have htm := h.tmp sl
      rw [hcc] at htm hs
      simp only at hs
      cases hwr : wr c off x.cells with
      | none => rw [hwr] at hs; simp at hs
      | some c' =>
        rw [hwr] at hs
        simp only [Option.map_some, Option.some.injEq] at hs
        subst hs
        obtain ⟨b', cs, el, h1, h2, h3, h4, h5⟩ := htm
        rw [hb] at h1
        cases h1
        have hlen := h4.length
        simp only [Array.length_toList] at hlen
        have hol : off + sz ≤ cs.size := by
          unfold wr at hwr
          split at hwr
          · omega
          · simp at hwr
        obtain ⟨vs, hvs, hrun⟩ := run_storeVar (P := P) h3 hx hl hc ht hol
        obtain ⟨h6, h7⟩ := h4.wr hvs hwr
        refine OpW.skip (w' := w.setRow b (cs.toList.take off ++ vs ++ cs.toList.drop (off + vs.length)).toArray) ?_ ?_
        · simp [execOp, ho, Instr.storeAt, Instr.sureAddr, hpe, hxe, hrun]
        · exact ⟨_, _, K, rfl, KL.refl K, setRow_step _ (.inr ⟨sl, hb⟩), (h.setSlot hb h3 (by simpa using h6) (cell1L_wr h5 hc hwr)).put o.dst hd (hund K), ⟨rfl, fun _ _ q => q⟩⟩
    · rename_i id off
      cases ha with
      | ptr _ _ b hb =>
      split at hs
      · rename_i c hH
        obtain ⟨hver, hrv, hcc, b', cs, el, h1, h3, h4⟩ := h.inv.obj id _ hH
        rw [hb] at h1
        cases h1
        have hid : id < s.H.length := (List.getElem?_eq_some_iff.1 hH).1
        have hfin : ∃ c', wr c off x.cells = some c' ∧ s' = setH s (s.H.set id (.var c')) ∧ (id < s.base → belowL (id + 1) x.cells = true) := by
          split at hs
          · rename_i hbase
            split at hs
            · rename_i hbel
              cases hwr : wr c off x.cells with
              | none => rw [hwr] at hs; simp at hs
              | some c' => rw [hwr] at hs; simp only [Option.map_some, Option.some.injEq] at hs; exact ⟨c', rfl, hs.symm, fun _ => hbel⟩
            · simp at hs
          · rename_i hbase
            cases hwr : wr c off x.cells with
            | none => rw [hwr] at hs; simp at hs
            | some c' => rw [hwr] at hs; simp only [Option.map_some, Option.some.injEq] at hs; exact ⟨c', rfl, hs.symm, fun q => absurd q hbase⟩
        obtain ⟨c', hwr, rfl, hbel⟩ := hfin
        have hkp : Keeps s (setH s (s.H.set id (.var c'))) := Keeps.set fun hib b hb1 hb2 hbo => ⟨fun c1 e => (by
          cases e
          exact belowL_wr ((hbo id c hb1).1 hH) (belowL_mono (by omega) (hbel hib)) hwr), fun _ _ _ _ e => (by cases e)⟩
        have hlen := h4.length
        simp only [Array.length_toList] at hlen
        have hol : off + sz ≤ cs.size := by
          unfold wr at hwr
          split at hwr
          · omega
          · simp at hwr
        obtain ⟨vs, hvs, hrun⟩ := run_storeVar (P := P) h3 hx hl hc ht hol
        obtain ⟨h6, h7⟩ := h4.wr hvs hwr
        refine OpW.skip (w' := w.setRow b (cs.toList.take off ++ vs ++ cs.toList.drop (off + vs.length)).toArray) ?_ ?_
        · simp [execOp, ho, Instr.storeAt, Instr.sureAddr, hpe, hxe, hrun]
        · refine ⟨_, _, K, rfl, KL.refl K, setRow_step _ (.inl (.inl ⟨id, hb⟩)), (h.setHeap (b := b) hid (.inl hb) ?_ (h.inv.vz id b hb).1 (h.inv.vz id b hb).2 (show ObjOK K (w.setRow b (cs.toList.take off ++ vs ++ cs.toList.drop (off + vs.length)).toArray) id (.var c') from ⟨hver, hrv, cell1L_wr hcc hc hwr, b, _, el, hb, setRow_heap w b cs _ el (0, 0) h3, by simpa using h6⟩) (hkp.2 s.base (Nat.le_refl _) h.bok)).put o.dst hd (hund K), hkp⟩
          rintro k (q | q)
          · rw [hb] at q; cases q; rfl
          · rw [hrv] at q; simp [nilv, Value.ownBlock] at q
      · simp at hs
    · rename_i id off n
      split at hs
      · rename_i p' e' sz' c hrow
        split at hs
        · rename_i hpur
          cases hwr : wr c off x.cells with
          | none => rw [hwr] at hs; simp at hs
          | some c' =>
            rw [hwr] at hs
            simp only [Option.map_some, Option.some.injEq] at hs
            subst hs
            obtain ⟨hH, hn⟩ := rowOf_some hrow
            simp only at hH hn
            have hkp : Keeps s (setH s (s.H.set id (.row false p' e' sz' c'))) := Keeps.set fun hib b hb1 hb2 hbo => ⟨fun c1 e => (by cases e), fun ro e sz c1 q2 => (by
              cases q2
              exact belowL_wr ((hbo id c hb1).2 _ _ _ hH) (belowL_of_pureL hpur) hwr)⟩
            have hid : id < s.H.length := (List.getElem?_eq_some_iff.1 hH).1
            obtain ⟨hvb, hsz', hcc, hpp, xs0, hown0, hr0⟩ := h.inv.obj id _ hH
            obtain ⟨hver, b, cap, hrv, hp2⟩ := h.inv.rptr ha (by rw [hrow]; rfl)
            rw [hrv] at hown0
            rw [← hver] at hown0
            obtain ⟨cur, hcur, hncap, hcapm, hcsz, ys, hys⟩ := ownsRow_at_block hown0 rfl
            have hl0 := hown0.1
            have hlen := hr0.length
            have hwl : off + x.cells.length ≤ c.length := by
              unfold wr at hwr
              split at hwr
              · assumption
              · simp at hwr
            have hcurl : cur.toList.length = xs0.length + ys.length := by rw [hys]; simp
            simp only [Array.length_toList] at hcurl
            obtain ⟨vs, hvs, hrun⟩ := run_storeVar (P := P) (o := off) hcur hx hl hc ht (by omega)
            have hvl := hvs.length
            have hxs0 : (xs0.take off ++ vs ++ xs0.drop (off + vs.length)).length = xs0.length := by simp; omega
            have hnew : cur.toList.take off ++ vs ++ cur.toList.drop (off + vs.length) = (xs0.take off ++ vs ++ xs0.drop (off + vs.length)) ++ ys := by
              rw [hys, List.take_append_of_le_length (by omega), List.drop_append_of_le_length (by omega)]
              simp [List.append_assoc]
            have hrz : K.fz b = none := by
              cases q : K.fz b with
              | none => rfl
              | some cc =>
                obtain ⟨p2, e2, sz2, cells2, r2, q1, q2⟩ := h.inv.rz id b cc (by rw [hrv]; rfl) q
                rw [hH] at q1
                cases q1
            refine OpW.skip (w' := w.setRow b (cur.toList.take off ++ vs ++ cur.toList.drop (off + vs.length)).toArray) ?_ ?_
            · simp [execOp, ho, Instr.storeAt, Instr.sureAddr, hpe, hxe, hp2, hrun]
            · refine ⟨_, _, K, rfl, KL.refl K, setRow_step _ (.inl (.inr ⟨id, by rw [hrv]; rfl⟩)), (h.setHeap (b := b) hid (.inr (by rw [hrv]; rfl)) ?_ hrz (fm_none_of_cells h.inv hcur) ?_ (hkp.2 s.base (Nat.le_refl _) h.bok)).put o.dst hd (hund K), hkp⟩
              · rintro k (q | q)
                · rw [hvb] at q; cases q
                · rw [hrv] at q; simp [Value.ownBlock] at q; exact q.symm
              · refine ⟨hvb, hsz', cell1L_wr hcc hc hwr, fun q => pureL_wr (hpp q) hpur hwr, xs0.take off ++ vs ++ xs0.drop (off + vs.length), ?_, ?_⟩
                · rw [hrv, ← hver]
                  refine ⟨by rw [hxs0]; exact hl0, .inr ⟨b, cap, _, rfl, Nat.zero_le _, setRow_heap w b cur _ e' (0, 0) hcur, hncap, hcapm, ?_, ?_⟩⟩
                  · have : (cur.toList.take off ++ vs ++ cur.toList.drop (off + vs.length)).length = cur.size := by rw [hnew]; simp only [List.length_append] at hxs0 ⊢; omega
                    simpa using this.trans hcsz
                  · simp only
                    rw [hnew, ← hl0, ← hxs0]
                    exact List.take_left
                · have h0 : cell1L c = true := hcc
                  unfold wr at hwr
                  rw [if_pos hwl] at hwr
                  simp only [Option.some.injEq] at hwr
                  subst hwr
                  rw [wrL_eq _ _ _ hwl, hvl]
                  exact ((hr0.take off).append hvs).append (hr0.drop _)
        · simp at hs
      · simp at hs
    · simp at hs
  · simp at hs
end Go.Proofs.YtdhlgbnljhgabaaGreatDoor.AM
