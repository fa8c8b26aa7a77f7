/- Proved: florinlaw26.ScriptLong returns true for every input (the listed package-level variables hold what the program's text lays; no other condition). Part 3 of 13. -/
import Derived.Test.YtdhlgbnljhgabaaGreatDoorAm2
/- Appending. -/
namespace Go.Proofs.YtdhlgbnljhgabaaGreatDoor.AM
open Go

set_option maxHeartbeats 1600000 in
/-- append, in room, or to a new array: whatever the source is. -/
theorem run_append_any {P : Program} {w : World} (t u ty e : TypeId) (i : TypeInfo) (z : Value) (du : TypeDesc) (ht : P.underlying t = some (.slice e)) (hu : P.underlying u = some du) (hdu : du = .slice e ∨ du = .string) (hi : P.info? e = some i) (hz : i.zero = some z)
    (hzs : z.cells.size = i.size) (v : Value) (n : Nat) (xs : List Value) (hown : w.ownsRow 0 e i.size v n xs) (x : Value) (m : Nat) (news : List Value) (hm : 0 < m) (hl : news.length = m * i.size) (h1 : ∀ u ∈ news, u.oneCell' = true)
    (hlen : ∀ W, (Builtin.lenOf x).run P W = .ok m W) (hcells : ∀ W : World, W.heap = w.heap → (Builtin.firstCells i.size m x).run P W = .ok news.toArray W)
    (h63 : n + m ≤ maxLen) (hbytes : (n + m) * i.bytes ≤ 140737488355328) :
    ∃ v' w', (Builtin.append_ #[t, u] ty #[v, x]).run P w = .ok v' w' ∧ w'.ownsRow 0 e i.size v' (n + m) (xs ++ news) ∧
      ((∃ g cap cur cur', v = .slice (some ⟨g, 0, none⟩) n cap ∧ v' = .slice (some ⟨g, 0, none⟩) (n + m) cap ∧ w.heap[g]? = some (.cells cur e (0, 0)) ∧ w' = w.setRow g cur') ∨
       (∃ ob cap, v' = .slice (some ⟨w.heap.size, 0, none⟩) (n + m) cap ∧ w' = w.drew.alloc ob)) := by
  have hsmall : n + m ≤ 9223372036854775807 := by simp only [maxLen] at h63; omega
  have hlenx : (xs ++ news).length = (n + m) * i.size := by rw [List.length_append, hown.1, hl, Nat.add_mul]
  rcases hown.2 with ⟨rfl, rfl⟩ | ⟨g, cap, cur, rfl, hbg, hg, hnc, hcm, hcs, htake⟩
  · have hx0 : xs = [] := List.eq_nil_of_length_eq_zero (by simpa using hown.1)
    subst hx0
    have hge := grownCap_ge w m 0 e
    have hcm : grownCap w m 0 e ≤ maxLen := grownCap_le_maxLen w m 0 e (by omega)
    have hn : m ≠ 0 := by omega
    have h63' : ¬ (9223372036854775807 < (m : Int)) := by omega
    have h48' : ¬ (281474976710656 < Builtin.nextslicecap m 0 * i.bytes) := by
      rw [nextslicecap_zero hm]
      simp only [Nat.zero_add] at hbytes
      omega
    have hf := hcells w.drew rfl
    refine ⟨.slice (some ⟨w.heap.size, 0, none⟩) (0 + m) (grownCap w m 0 e), w.drew.alloc (.cells (news.toArray ++ Builtin.zeroCells z.cells (grownCap w m 0 e - m)) e), ?_, ?_, .inr ⟨_, _, rfl, rfl⟩⟩
    · rcases hdu with rfl | rfl
      all_goals
        simp [Builtin.append_, run_underlying ht, run_underlying hu, Go.sizeOf, typeInfo, zeroValue, hi, hz, hlen, hn, h63', h48', Question.forced, run_firstCells_none, hf, newRow, grownCap]
    · refine ⟨hlenx, .inr ⟨w.heap.size, _, _, rfl, Nat.zero_le _, heap_alloc_new w.drew _, by omega, hcm, ?_, ?_⟩⟩
      · simp only [Array.size_append, List.size_toArray, size_zeroCells, hzs, hl, ← Nat.add_mul]
        congr 1
        omega
      · simp only [Array.toList_append, List.nil_append, Nat.zero_add]
        rw [← hl]
        exact List.take_left
  · by_cases hroom : n + m ≤ cap
    · have hfit : n * i.size + news.length ≤ cur.size := by rw [hl, hcs, ← Nat.add_mul]; exact Nat.mul_le_mul_right _ hroom
      have hf := hcells w rfl
      have hst := run_storeCells_at P g (n * i.size) e news 0 cur w hg (by simpa using hfit) h1
      simp only [Nat.add_zero] at hst
      refine ⟨.slice (some ⟨g, 0, none⟩) (n + m) cap, w.setRow g (cur.toList.take (n * i.size) ++ news ++ cur.toList.drop (n * i.size + news.length)).toArray, ?_, ?_, .inl ⟨g, cap, cur, _, rfl, rfl, hg, rfl⟩⟩
      · rcases hdu with rfl | rfl
        all_goals
          simp [Builtin.append_, run_underlying ht, run_underlying hu, Go.sizeOf, typeInfo, hi, hlen, hroom, hf, Addr.add_lit, hst]
      · refine ⟨hlenx, .inr ⟨g, cap, _, rfl, hbg, setRow_heap w g cur _ e _ hg, hroom, hcm, ?_, ?_⟩⟩
        · simp only [List.size_toArray, List.length_append, List.length_take, List.length_drop, Array.length_toList]
          omega
        · simp only
          rw [htake, ← hlenx]
          exact List.take_left
    · have holds : ∀ j u, xs[j]? = some u → w.cell? ((⟨g, 0, none⟩ : Addr).add j) = some u := hown.cells (g := g) rfl
      have hge := grownCap_ge w (n + m) cap e
      have hcm : grownCap w (n + m) cap e ≤ maxLen := grownCap_le_maxLen w (n + m) cap e h63
      have hn : ¬ (n + m ≤ cap) := hroom
      have h63' : ¬ (9223372036854775807 < ((n : Int) + (m : Int))) := by omega
      have hgf := growslice_fits (need := n + m) (old := cap) (bytes := i.bytes) (by omega) hbytes
      have h48' : ¬ (281474976710656 < Builtin.nextslicecap (n + m) cap * i.bytes) := by omega
      have hf := hcells w.drew rfl
      have hfo := run_firstCells_some (P := P) w.drew i.size n ⟨g, 0, none⟩ n cap xs hown.1 (by simpa using holds)
      refine ⟨.slice (some ⟨w.heap.size, 0, none⟩) (n + m) (grownCap w (n + m) cap e), w.drew.alloc (.cells (xs.toArray ++ news.toArray ++ Builtin.zeroCells z.cells (grownCap w (n + m) cap e - (n + m))) e), ?_, ?_, .inr ⟨_, _, rfl, rfl⟩⟩
      · rcases hdu with rfl | rfl
        all_goals
          simp [Builtin.append_, run_underlying ht, run_underlying hu, Go.sizeOf, typeInfo, zeroValue, hi, hz, hlen, hn, h63', h48', Question.forced, hf, hfo, newRow, grownCap]
          try
            congr 2
            apply Array.ext'
            simp [List.append_assoc]
      · refine ⟨hlenx, .inr ⟨w.heap.size, _, _, rfl, Nat.zero_le _, heap_alloc_new w.drew _, hge, hcm, ?_, ?_⟩⟩
        · simp only [Array.size_append, List.size_toArray, size_zeroCells, hzs, hown.1, hl, ← Nat.add_mul]
          congr 1
          omega
        · simp only [Array.toList_append, List.append_assoc]
          rw [← List.append_assoc, ← hlenx]
          exact List.take_left

set_option maxHeartbeats 1600000 in
/-- Nothing is appended. -/
theorem run_append_zero {P : Program} {w : World} (t u ty e : TypeId) (i : TypeInfo) (du : TypeDesc) (ht : P.underlying t = some (.slice e)) (hu : P.underlying u = some du) (hdu : du = .slice e ∨ du = .string) (hi : P.info? e = some i)
    (v : Value) (n : Nat) (xs : List Value) (hown : w.ownsRow 0 e i.size v n xs) (x : Value) (hlen : (Builtin.lenOf x).run P w = .ok 0 w) (hcells : (Builtin.firstCells i.size 0 x).run P w = .ok #[] w) :
    (Builtin.append_ #[t, u] ty #[v, x]).run P w = .ok v w := by
  rcases hown.2 with ⟨rfl, rfl⟩ | ⟨g, cap, cur, rfl, hbg, hg, hnc, hcm, hcs, htake⟩
  · rcases hdu with rfl | rfl
    all_goals simp [Builtin.append_, run_underlying ht, run_underlying hu, Go.sizeOf, typeInfo, hi, hlen, hcells]
  · rcases hdu with rfl | rfl
    all_goals simp [Builtin.append_, run_underlying ht, run_underlying hu, Go.sizeOf, typeInfo, hi, hlen, hcells, hnc, storeCells]
end Go.Proofs.YtdhlgbnljhgabaaGreatDoor.AM

/- Appending: the relation, and the operation. -/
namespace Go.Proofs.YtdhlgbnljhgabaaGreatDoor.AM
open Go

theorem le_setRow {K : Kz} {id m : Nat} {v : Value} (h : K.ver id < m) : KLe K (K.setRow id m v) where
  n := Nat.le_refl _
  vb _ _ e := e
  ver i := by
    simp only [Kz.setRow]
    split
    · rename_i q; subst q; omega
    · exact Nat.le_refl _
  rv i _ e := by
    simp only [Kz.setRow] at e ⊢
    split
    · rename_i q; subst q; rw [if_pos rfl] at e; omega
    · rfl
  fz _ c e := ⟨[], by rw [List.append_nil]; exact e⟩
  fm _ _ e := e
  sl _ _ e := e

theorem Inv.grow {K : Kz} {H : Hp} {w w' : World} (h : Inv K H w) {id n m : Nat} {ro p : Bool} {e sz : Nat} {c news : List AV} (hH : H[id]? = some (.row ro p e sz c)) (hn : n = K.ver id) (hm : 0 < m) {v' : Value} {xs ns : List Value}
    (hr : RepL K xs c) (hns : RepL K ns news) (hc1 : cell1L news = true) {p' : Bool} (hp : p' = true → p = true ∧ pureL news = true) (hown : w'.ownsRow 0 e sz v' (n + m) (xs ++ ns))
    (hheap : ∀ b, K.tracked b → (K.rv id).ownBlock ≠ some b → w'.heap[b]? = w.heap[b]?)
    (hblk : (v'.ownBlock = (K.rv id).ownBlock) ∨ (∃ b0, v'.ownBlock = some b0 ∧ ¬ K.tracked b0 ∧ ∀ b, K.tracked b → w'.heap[b]? = w.heap[b]?)) :
    Inv (K.setRow id (n + m) v') (H.set id (.row ro p' e sz (c ++ news))) w' := by
  have hid : id < H.length := (List.getElem?_eq_some_iff.1 hH).1
  obtain ⟨hvb, hsz, hcc, hpp, xs0, hown0, hr0⟩ := h.obj id _ hH
  have hle : KLe K (K.setRow id (n + m) v') := le_setRow (by omega)
  have hnb : ∀ b, v'.ownBlock = some b → (K.rv id).ownBlock = some b ∨ ¬ K.tracked b := by
    intro b e
    rcases hblk with q | ⟨b0, q1, q2, _⟩
    · exact .inl (by rw [← q]; exact e)
    · rw [q1] at e; cases e; exact .inr q2
  refine ⟨by simp [Kz.setRow, h.n], fun i o e' => ?_, h.vbd, fun i hi => ?_, fun b cf e' => ?_, fun b kvs e' => ?_, h.injv, fun i j b e1 e2 => ?_, fun i j b e1 e2 => ?_, h.vz, fun i b cf e1 e2 => ?_⟩
  · rw [List.getElem?_set] at e'
    by_cases q : id = i
    · subst q
      rw [if_pos rfl, if_pos hid] at e'
      simp only [Option.some.injEq] at e'
      subst e'
      refine ⟨hvb, hsz, by rw [cell1L_append, hcc, hc1]; rfl, fun q => by rw [pureL_append, hpp (hp q).1, (hp q).2]; rfl, xs ++ ns, ?_, (hr.append hns).mono hle⟩
      simp only [Kz.setRow, if_pos]
      exact hown
    · rw [if_neg q] at e'
      refine ((h.obj i o e').mono hle (by rw [h.n]; exact (List.getElem?_eq_some_iff.1 e').1) (by simp only [Kz.setRow]; rw [if_neg (fun q2 => q q2.symm)]) fun q => q).keep (fun b e1 => ?_) (fun b e1 => ?_)
      · exact hheap b (.inl (.inl ⟨i, e1⟩)) (h.vr i id b e1)
      · simp only [Kz.setRow] at e1
        rw [if_neg (fun q2 => q q2.symm)] at e1
        exact hheap b (.inl (.inr ⟨i, e1⟩)) fun e2 => q (h.injr id i b e2 e1)
  · simp only [Kz.setRow] at hi ⊢
    rw [if_neg (by rw [h.n] at hi; omega), if_neg (by rw [h.n] at hi; omega)]
    exact h.verd i hi
  · obtain ⟨q1, cs, el, fr, q2, ys, zs, q3, q4⟩ := h.fz b cf e'
    refine ⟨q1, ?_⟩
    by_cases q : (K.rv id).ownBlock = some b
    · rcases hblk with q5 | ⟨b0, q5, q6, q7⟩
      · obtain ⟨p2, e2, sz2, cells2, r, q6, q7⟩ := h.rz id b cf q e'
        rw [hH] at q6
        cases q6
        rw [q7] at hr
        obtain ⟨us, ws, e3, h3, h4⟩ := hr.split
        rcases hown.2 with ⟨e4, _⟩ | ⟨g, cap, cur, e4, _, e5, _, _, _, e6⟩
        · rw [e4] at q5; rw [← q5] at q; simp [Value.ownBlock] at q
        · rw [e4] at q5
          rw [← q5] at q
          simp only [Value.ownBlock, Option.some.injEq] at q
          subst q
          refine ⟨cur, e, (0, 0), e5, us, ws ++ ns ++ cur.toList.drop ((n + m) * sz), ?_, h3.mono hle⟩
          have := List.take_append_drop ((n + m) * sz) cur.toList
          rw [e6, e3] at this
          exact this.symm.trans (by simp only [List.append_assoc])
      · exact ⟨cs, el, fr, by rw [q7 b (.inr (.inl (by rw [show K.fz b = some cf from e']; simp)))]; exact q2, ys, zs, q3, q4.mono hle⟩
    · exact ⟨cs, el, fr, by rw [hheap b (.inr (.inl (by rw [show K.fz b = some cf from e']; simp))) q]; exact q2, ys, zs, q3, q4.mono hle⟩
  · obtain ⟨q1, es, cl, q2, q3⟩ := h.fm b kvs e'
    refine ⟨q1, es, cl, ?_, q3.mono hle⟩
    have ht : K.tracked b := .inr (.inr (by rw [show K.fm b = some kvs from e']; simp))
    by_cases q : (K.rv id).ownBlock = some b
    · rcases hown0.2 with ⟨e4, _⟩ | ⟨g, cap, cur, e4, _, e5, _⟩
      · rw [e4] at q; simp [Value.ownBlock] at q
      · rw [e4] at q
        simp only [Value.ownBlock, Option.some.injEq] at q
        subst q
        rw [q2] at e5
        cases e5
    · rw [hheap b ht q]; exact q2
  · simp only [Kz.setRow] at e1 e2
    by_cases q1 : i = id <;> by_cases q2 : j = id
    · omega
    · rw [if_pos q1] at e1
      rw [if_neg q2] at e2
      rcases hnb b e1 with q | q
      · have := h.injr id j b q e2; omega
      · exact absurd (.inl (.inr ⟨j, e2⟩)) q
    · rw [if_neg q1] at e1
      rw [if_pos q2] at e2
      rcases hnb b e2 with q | q
      · have := h.injr id i b q e1; omega
      · exact absurd (.inl (.inr ⟨i, e1⟩)) q
    · rw [if_neg q1] at e1
      rw [if_neg q2] at e2
      exact h.injr i j b e1 e2
  · simp only [Kz.setRow] at e2
    by_cases q : j = id
    · rw [if_pos q] at e2
      rcases hnb b e2 with q | q
      · exact h.vr i id b e1 q
      · exact q (.inl (.inl ⟨i, e1⟩))
    · rw [if_neg q] at e2
      exact h.vr i j b e1 e2
  · simp only [Kz.setRow] at e1
    by_cases q : i = id
    · subst q
      rw [if_pos rfl] at e1
      rcases hnb b e1 with q | q
      · obtain ⟨p2, e2', sz2, cells2, r, q6, q7⟩ := h.rz i b cf q e2
        rw [hH] at q6
        cases q6
        exact ⟨p', e, sz, c ++ news, r ++ news, by rw [List.getElem?_set, if_pos rfl, if_pos hid], by rw [q7, List.append_assoc]⟩
      · exact absurd (.inr (.inl (by rw [show K.fz b = some cf from e2]; simp))) q
    · rw [if_neg q] at e1
      obtain ⟨p2, e2', sz2, cells2, r, q6, q7⟩ := h.rz i b cf e1 e2
      exact ⟨p2, e2', sz2, cells2, r, by rw [List.getElem?_set, if_neg (fun q2 => q q2.symm)]; exact q6, q7⟩

/-- What is appended: its length and cells. -/
def Source (P : Program) (w : World) (x : Value) (sz m : Nat) (ns : List Value) : Prop :=
  (∀ W, (Builtin.lenOf x).run P W = .ok m W) ∧ (∀ W : World, W.heap = w.heap → (Builtin.firstCells sz m x).run P W = .ok ns.toArray W)

theorem set_self {H : Hp} {id : Nat} {o : AObj} (h : H[id]? = some o) : H.set id o = H := by
  apply List.ext_getElem?
  intro i
  rw [List.getElem?_set]
  by_cases q : id = i
  · subst q
    rw [if_pos rfl, if_pos (List.getElem?_eq_some_iff.1 h).1, h]
  · rw [if_neg q]

theorem Inv.row_pure {K : Kz} {H : Hp} {w : World} (h : Inv K H w) {id : Nat} {ro p : Bool} {e sz : Nat} {c : List AV} (hH : H[id]? = some (.row ro p e sz c)) (hp : p = true) : pureL c = true := by
  obtain ⟨_, _, _, q, _⟩ := h.obj id _ hH
  exact q hp

theorem appendV_sound {P : Program} {S : Nat → Bool} {K : Kz} {s : St} {a : Act} {w : World} {o : Oper} (h : StRel S K s a w) (hd : ∀ x, o.dst = some x → S x = false) {t u ty e sz bytes m : Nat} {i : TypeInfo} {z du} {xv yv : Value} {x : AV} {news : List AV} {ns : List Value} {r : OpRes}
    (ht : P.underlying t = some (.slice e)) (hu : P.underlying u = some du) (hdu : du = .slice e ∨ du = .string) (hi : P.info? e = some i) (hz : i.zero = some z) (hzs : z.cells.size = i.size) (hsz : i.size = sz) (hsz0 : 0 < sz) (hby : i.bytes = bytes)
    (hb1 : 0 < bytes) (hx : Rep K xv x) (hsrc : Source P w yv sz m ns) (hns : RepL K ns news) {pn : Bool} (hlen : news.length = m * sz) (hc1 : cell1L news = true) (hpn : pn = true → pureL news = true) (hv : appendV s e sz bytes x m news pn = some r)
    (hexec : ∀ v w', (Builtin.append_ #[t, u] ty #[xv, yv]).run P w = .ok v w' → (execOp a.eval o).run P w = .ok (.value v) w') : OpW P o a w (Done S K w s o.dst r) (Pan K w s r) := by
  subst hsz hby
  unfold appendV at hv
  · have hnl := hns.length
    split at hv
    · have := rep_nilS hx; subst this
      split at hv
      · rename_i hbd
        split at hv
        · rename_i hm
          simp only [Option.some.injEq] at hv
          subst hv hm
          have hnil : ns = [] := List.eq_nil_of_length_eq_zero (by omega)
          have hrun := run_append_zero (P := P) (w := w) t u ty e i du ht hu hdu hi (.slice none 0 0) 0 [] (w.ownsRow_nil 0 e i.size) yv (hsrc.1 w) (by rw [hsrc.2 w rfl, hnil])
          exact still h hd (hexec _ _ hrun) .nilS
        · rename_i hm
          simp only [Option.some.injEq] at hv
          subst hv
          have hml : 0 + m ≤ maxLen := by
            have : m * 1 ≤ m * i.bytes := Nat.mul_le_mul_left m hb1
            unfold maxLen; omega
          obtain ⟨v', w', hrun, hown, hcase⟩ := run_append_any (P := P) (w := w) t u ty e i z du ht hu hdu hi hz hzs (.slice none 0 0) 0 [] (w.ownsRow_nil 0 e i.size) yv m ns (by omega) (by omega) (oneCells hns hc1) hsrc.1 hsrc.2 hml (by simpa using hbd)
          rcases hcase with ⟨g, cap, cur, cur', e1, _⟩ | ⟨ob, cap, rfl, rfl⟩
          · cases e1
          have hle := le_addRow h.inv m (.slice (some ⟨w.heap.size, 0, none⟩) (0 + m) cap)
          have hrel0 := (h.drew).alloc ob
          have hb : ¬ K.tracked w.heap.size := not_tracked_new h.inv (Nat.le_refl _)
          have hinv := hrel0.inv.addRow (m := m) (v := .slice (some ⟨w.heap.size, 0, none⟩) (0 + m) cap) (fun b q => by simp [Value.ownBlock] at q; subst q; exact hb) hle false pn e i.size news hsz0 hc1 hpn (by simpa using hown) (hns.mono hle)
          have hrel : StRel S (K.addRow m (.slice (some ⟨w.heap.size, 0, none⟩) (0 + m) cap)) (setH s (s.H ++ [.row false pn e i.size news])) a (w.drew.alloc ob) := by
            refine h.toH hle rfl hinv (fun i b q => heap_alloc_old w.drew _ b (h.slot_lt q)) (fun i b q => ?_) (by have := h.base; simp; omega) (h.bok.append h.base _)
            obtain ⟨_, q1, q2, q3, q4⟩ := h.sl i b q
            refine ⟨q1, fun j q5 => ?_, q3, q4⟩
            simp only [Kz.addRow] at q5
            split at q5
            · simp [Value.ownBlock] at q5; have := h.slot_lt q; omega
            · exact q2 j q5
          refine OpW.value (hexec _ _ hrun) ⟨_, _, _, rfl, hle.kl, Step.alloc_row K w _ m _ (fun b q => by simp [Value.ownBlock] at q; omega) rfl rfl rfl (by simp) (fun b hb => heap_alloc_old w.drew _ b hb), ?_⟩
          refine ⟨hrel.put o.dst hd (.own s.H.length m _ ?_ ?_ (fun _ => ?_) rfl), Keeps.push h.base _⟩
          · simp [Kz.addRow, h.inv.n]
          · simp [Kz.addRow, h.inv.n]
          · simp [Kz.addRow, h.inv.n]
      · simp at hv
    · rename_i id n
      split at hv
      · rename_i ro p e' sz' c hrow
        split at hv
        · rename_i hcond
          obtain ⟨rfl, rfl, hbd, hbel⟩ := hcond
          simp only [Option.some.injEq] at hv
          subst hv
          obtain ⟨hH, hn⟩ := rowOf_some hrow
          simp only at hH hn
          obtain ⟨hver, hxv, _, xs, hown0, hr0⟩ := h.inv.own hx hrow
          simp only at hown0 hr0
          have hid : id < s.H.length := (List.getElem?_eq_some_iff.1 hH).1
          by_cases hm : m = 0
          · subst hm
            have hnil : ns = [] := List.eq_nil_of_length_eq_zero (by omega)
            have hnil2 : news = [] := List.eq_nil_of_length_eq_zero (by omega)
            have hrun := run_append_zero (P := P) (w := w) t u ty e' i du ht hu hdu hi xv n xs hown0 yv (hsrc.1 w) (by rw [hsrc.2 w rfl, hnil])
            have e0 : (p && (pn || decide (0 = 0))) = p := by simp
            rw [hnil2, List.append_nil, e0, set_self hH, Nat.add_zero]
            exact still h hd (hexec _ _ hrun) hx
          · have hml : n + m ≤ maxLen := by
              have : (n + m) * 1 ≤ (n + m) * i.bytes := Nat.mul_le_mul_left _ hb1
              unfold maxLen; omega
            obtain ⟨v', w', hrun, hown, hcase⟩ := run_append_any (P := P) (w := w) t u ty e' i z du ht hu hdu hi hz hzs xv n xs hown0 yv m ns (by omega) (by omega) (oneCells hns hc1) hsrc.1 hsrc.2 hml hbd
            have hle : KLe K (K.setRow id (n + m) v') := le_setRow (by omega)
            have hkp : Keeps s (setH s (s.H.set id (.row ro (p && (pn || decide (m = 0))) e' i.size (c ++ news)))) := Keeps.set fun hib b hb1 hb2 hbo => ⟨fun c1 e => (by cases e), fun ro1 e1 sz1 c1 q2 => (by
              have hcb : belowL b c = true := by
                cases hp : p with
                | true => exact belowL_of_pureL (h.inv.row_pure hH hp)
                | false => rw [hp] at hH; exact (hbo id c hb1).2 _ _ _ hH
              have hnb : belowL b news = true := by
                rcases Bool.or_eq_true _ _ ▸ (hbel hib) with q | q
                · exact belowL_of_pureL (hpn q)
                · exact belowL_mono (by omega) q
              obtain ⟨_, _, _, _, rfl⟩ := AObj.row.inj q2
              rw [belowL_append, hcb, hnb]
              rfl)⟩
            have hstep : Step K w (K.setRow id (n + m) v') w' ∧ (∀ b, K.tracked b → (K.rv id).ownBlock ≠ some b → w'.heap[b]? = w.heap[b]?) ∧ ((v'.ownBlock = (K.rv id).ownBlock) ∨ (∃ b0, v'.ownBlock = some b0 ∧ ¬ K.tracked b0 ∧ ∀ b, K.tracked b → w'.heap[b]? = w.heap[b]?)) ∧ v'.oneCell' = true ∧
                (∀ b, (∃ i, K.sl i = some b) → w'.heap[b]? = w.heap[b]? ∧ v'.ownBlock ≠ some b) := by
              rcases hcase with ⟨g, cap, cur, cur', e1, rfl, e3, rfl⟩ | ⟨ob, cap, rfl, rfl⟩
              · have hg : (K.rv id).ownBlock = some g := by rw [← hxv, e1]; rfl
                refine ⟨⟨rfl, rfl, rfl, by simp, fun k _ h1 _ => setRow_other w g k _ fun q => h1 (.inr ⟨id, by rw [q]; exact hg⟩), fun k hk q => ?_, fun _ _ q => .inl q, fun _ _ q n => absurd q n, fun _ _ q n => absurd q n, fun _ _ _ h _ => h⟩, fun b _ q => setRow_other w g b _ fun q2 => q (by rw [q2]; exact hg), .inl (by rw [hg]; rfl), rfl, ?_⟩
                · rcases q with q | ⟨j, q⟩
                  · exact .inl q
                  · simp only [Kz.setRow] at q
                    split at q
                    · simp only [Value.ownBlock, Option.some.injEq] at q; subst q; exact .inr ⟨id, hg⟩
                    · exact .inr ⟨j, q⟩
                · rintro b ⟨j, q⟩
                  have hbg : b ≠ g := fun q2 => (h.sl j b q).2.2.1 id (by rw [q2]; exact hg)
                  exact ⟨setRow_other w g b _ hbg, by simp [Value.ownBlock]; exact fun q2 => hbg q2.symm⟩
              · have hold : ∀ b, b < w.heap.size → (w.drew.alloc ob).heap[b]? = w.heap[b]? := fun b hb => heap_alloc_old w.drew ob b hb
                refine ⟨⟨rfl, rfl, rfl, by simp, fun b hb _ _ => hold b hb, fun b hb q => ?_, fun _ _ q => .inl q, fun _ _ q n => absurd q n, fun _ _ q n => absurd q n, fun _ _ _ h _ => h⟩, fun b hb _ => hold b (h.inv.lt hb), .inr ⟨w.heap.size, rfl, not_tracked_new h.inv (Nat.le_refl _), fun b hb => hold b (h.inv.lt hb)⟩, rfl, ?_⟩
                · rcases q with q | ⟨j, q⟩
                  · exact .inl q
                  · simp only [Kz.setRow] at q
                    split at q
                    · simp only [Value.ownBlock, Option.some.injEq] at q; omega
                    · exact .inr ⟨j, q⟩
                · rintro b ⟨j, q⟩
                  have := h.slot_lt q
                  exact ⟨hold b this, by simp [Value.ownBlock]; omega⟩
            obtain ⟨hst, hheap, hblk, hoc, hslots⟩ := hstep
            have hinv := h.inv.grow hH hver (by omega) hr0 hns hc1 (p' := p && (pn || decide (m = 0))) (fun q => by rw [Bool.and_eq_true, Bool.or_eq_true, decide_eq_true_eq] at q; exact ⟨q.1, q.2.elim hpn fun q => absurd q hm⟩) hown hheap hblk
            have hrel : StRel S (K.setRow id (n + m) v') (setH s (s.H.set id (.row ro (p && (pn || decide (m = 0))) e' i.size (c ++ news)))) a w' := by
              refine h.toH hle rfl hinv (fun j b q => (hslots b ⟨j, q⟩).1) (fun j b q => ?_) (by simpa using h.base) ?_
              · obtain ⟨_, q1, q2, q3, q4⟩ := h.sl j b q
                refine ⟨q1, fun k q5 => ?_, q3, q4⟩
                simp only [Kz.setRow] at q5
                split at q5
                · exact (hslots b ⟨j, q⟩).2 q5
                · exact q2 k q5
              · exact hkp.2 s.base (Nat.le_refl _) h.bok
            refine OpW.value (hexec _ _ hrun) ⟨_, _, _, rfl, hle.kl, hst, ?_⟩
            refine ⟨hrel.put o.dst hd (.own id (n + m) _ ?_ ?_ (fun _ => ?_) hoc), hkp⟩
            · show id < K.n; rw [h.inv.n]; exact hid
            · simp [Kz.setRow]
            · simp [Kz.setRow]
        · simp at hv
      · simp at hv
    · simp at hv
end Go.Proofs.YtdhlgbnljhgabaaGreatDoor.AM

/- Texts as bytes, made rows, maps, iterators. -/
namespace Go.Proofs.YtdhlgbnljhgabaaGreatDoor.AM
open Go

theorem encB_rep {K : Kz} : ∀ (s : List UInt8), RepL K (s.map fun b => Value.int .u8 (b.toNat : Int)) (encB s)
  | [] => .nil
  | _ :: s => .cons _ _ _ _ (.int _ _) (encB_rep s)

theorem encB_pure (s : List UInt8) : pureL (encB s) = true := by
  rw [pureL_all, List.all_eq_true]
  intro x hx
  simp only [encB, List.mem_map] at hx
  obtain ⟨b, _, rfl⟩ := hx
  rfl
theorem encB_cell1 (s : List UInt8) : cell1L (encB s) = true := by
  rw [cell1L, List.all_eq_true]
  intro x hx
  simp only [encB, List.mem_map] at hx
  obtain ⟨b, _, rfl⟩ := hx
  rfl
theorem encB_length (s : List UInt8) : (encB s).length = s.length := by simp [encB]

theorem freeze_block (w : World) (b off n : Nat) {cs : Array Value} {el : TypeId} {fr : Nat × Nat} (h : w.heap[b]? = some (.cells cs el fr)) : ∃ fr', (w.freeze ⟨b, off, none⟩ n).heap[b]? = some (.cells cs el fr') := by
  unfold World.freeze
  split
  · exact ⟨fr, h⟩
  · simp only [Array.getElem?_modify, if_true]
    rw [h]
    exact ⟨_, rfl⟩
theorem freeze_other (w : World) (b off n k : Nat) (h : k ≠ b) : (w.freeze ⟨b, off, none⟩ n).heap[k]? = w.heap[k]? := by
  unfold World.freeze
  split
  · rfl
  · simp only [Array.getElem?_modify]
    rw [if_neg (fun q => h q.symm)]
theorem freeze_rest (w : World) (a : Addr) (n : Nat) : (w.freeze a n).os = w.os ∧ (w.freeze a n).tape = w.tape ∧ (w.freeze a n).output = w.output ∧ (w.freeze a n).heap.size = w.heap.size := by
  unfold World.freeze
  split
  · exact ⟨rfl, rfl, rfl, rfl⟩
  · exact ⟨rfl, rfl, rfl, by simp⟩

theorem run_s2b {P : Program} {w : World} (e : TypeId) (s : List UInt8) : ∃ cap w', (Conv.stringToBytes e ⟨s.toArray⟩).run P w = .ok (.slice (some ⟨w.heap.size, 0, none⟩) s.length cap) w' ∧ s.length ≤ cap ∧
    w'.os = w.os ∧ w'.tape = w.tape ∧ w'.output = w.output ∧ w.heap.size ≤ w'.heap.size ∧ (∀ b, b < w.heap.size → w'.heap[b]? = w.heap[b]?) ∧
    ∃ cs fr ys, w'.heap[w.heap.size]? = some (.cells cs e fr) ∧ cs.toList = (s.map fun b => Value.int .u8 (b.toNat : Int)) ++ ys := by
  have hcap := grownCap_ge w s.length 0 e
  let cs : Array Value := (s.map fun b => Value.int .u8 (b.toNat : Int)).toArray ++ Array.replicate (grownCap w s.length 0 e - s.length) (.int .u8 0)
  have hnew : (w.drew.alloc (.cells cs e)).heap[w.heap.size]? = some (.cells cs e) := heap_alloc_new w.drew (.cells cs e)
  obtain ⟨fr, hfr⟩ := freeze_block (w.drew.alloc (.cells cs e)) w.heap.size cs.size 1 hnew
  obtain ⟨r1, r2, r3, r4⟩ := freeze_rest (w.drew.alloc (.cells cs e)) ⟨w.heap.size, cs.size, none⟩ 1
  refine ⟨grownCap w s.length 0 e, (w.drew.alloc (.cells cs e)).freeze ⟨w.heap.size, cs.size, none⟩ 1, ?_, hcap, r1, r2, r3, by rw [r4]; simp, fun b hb => ?_, cs, fr, List.replicate (grownCap w s.length 0 e - s.length) (.int .u8 0), hfr, ?_⟩
  · have hsh : (w.drew.alloc (.cells cs e)).shape? w.heap.size = some (e, cs.size) := by
      unfold World.shape?
      rw [hnew]
    have hcs : (Array.map (fun b : UInt8 => Value.int IntKind.u8 (b.toNat : Int)) s.toArray ++ Array.replicate (grownCap w s.length 0 e - s.length) (Value.int .u8 0)) = cs := by simp [cs]
    unfold Conv.stringToBytes
    simp only [Sem.run_bind, run_choose, Question.forced, Bool.false_eq_true, if_false, size_str]
    simp only [World.drew_eq, Result.andThen_ok, newRow, Sem.run_bind, run_newObj, Sem.run_pure, World.alloc_eq]
    have hg : Question.cut (.appendCap s.length 0 e) (w.tape w.drawn (.appendCap s.length 0 e)) = grownCap w s.length 0 e := rfl
    simp only [hg, hcs]
    simp only [markStringish, Sem.run_bind, run_shape]
    rw [show w.drew.heap.size = w.heap.size from rfl, hsh]
    simp
  · rw [freeze_other _ _ _ _ _ (by omega)]
    exact heap_alloc_old w.drew _ b hb
  · simp [cs]

theorem op_fz {P : Program} {S : Nat → Bool} {K : Kz} {s : St} {a : Act} {w w' : World} {o : Oper} (h : StRel S K s a w) (hd : ∀ x, o.dst = some x → S x = false) {v' : Value} {v : AV} {b0 : Nat} {c : List AV} (hb0 : w.heap.size ≤ b0)
    (hrun : (execOp a.eval o).run P w = .ok (.value v') w') (h1 : w'.os = w.os) (h2 : w'.tape = w.tape) (h3 : w'.output = w.output) (h4 : w.heap.size ≤ w'.heap.size) (h5 : ∀ b, b < w.heap.size → w'.heap[b]? = w.heap[b]?)
    {cs : Array Value} {el : TypeId} {fr : Nat × Nat} {xs ys : List Value} (hw : w'.heap[b0]? = some (.cells cs el fr)) (hcs : cs.toList = xs ++ ys) (hr : RepL K xs c) (hp : pureL c = true) (hv : Rep (K.addFz b0 c) v' v) :
    OpW P o a w (Done S K w s o.dst (.ok v s)) (Pan K w s (.ok v s)) := by
  have hb : ¬ K.tracked b0 := not_tracked_new h.inv hb0
  have hfz : K.fz b0 = none := by
    cases q : K.fz b0 with
    | none => rfl
    | some x => exact absurd (.inr (.inl (by rw [q]; simp))) hb
  have hle := le_addFz (K := K) b0 c hfz
  have hk := h.inv.keep (w' := w') fun b ht => h5 b (h.inv.lt ht)
  have hinv := hk.addFz hb hw hcs hr hp
  have hrel : StRel S (K.addFz b0 c) (setH s s.H) a w' := by
    refine h.toH hle rfl hinv (fun i b q => h5 b (h.slot_lt q)) (fun i b q => ?_) h.base h.bok
    obtain ⟨_, q1, q2, q3, q4⟩ := h.sl i b q
    refine ⟨q1, q2, ?_, q4⟩
    simp only [Kz.addFz]
    rw [if_neg (by have := h.slot_lt q; omega)]
    exact q3
  exact OpW.value hrun ⟨_, s, _, rfl, hle.kl, Step.alloc_fz K w _ _ c hb0 h1 h2 h3 h4 h5, hrel.put o.dst hd hv, Keeps.refl s⟩

theorem op_s2b {P : Program} {S : Nat → Bool} {K : Kz} {s : St} {a : Act} {w : World} {o : Oper} (h : StRel S K s a w) (hd : ∀ x, o.dst = some x → S x = false) {src dst e : TypeId} {ox : Operand} {xv : Value} {l : List UInt8}
    (ho : o.op = .convert src dst ox) (ht : convP P src dst (.s2b e) = true) (hxe : a.eval ox = xv) (hx : Rep K xv (.str l)) : OpW P o a w (Done S K w s o.dst (.ok (.list (encB l) l.length) s)) (Pan K w s (.ok (.list (encB l) l.length) s)) := by
  have := rep_str hx; subst this
  have h1 : P.underlying src = some .string ∧ P.underlying dst = some (.slice e) ∧ P.underlying e = some (.int .u8) := by
    unfold convP at ht
    split at ht <;> simp_all
    split at ht <;> simp_all
  obtain ⟨h1, h2, h3⟩ := h1
  obtain ⟨cap, w', hrun, hcap, r1, r2, r3, r4, r5, cs, fr, ys, hw, hcs⟩ := run_s2b (P := P) (w := w) e l
  refine op_fz h hd (Nat.le_refl _) (w' := w') (v' := .slice (some ⟨w.heap.size, 0, none⟩) l.length cap) ?_ r1 r2 r3 r4 r5 hw hcs (encB_rep l) (encB_pure l) (.list w.heap.size 0 l.length cap (encB l) (encB l) (by simp [Kz.addFz]) ⟨[], [], by simp, rfl⟩ hcap)
  have hc : (convert src dst (.string ⟨l.toArray⟩)).run P w = .ok (.slice (some ⟨w.heap.size, 0, none⟩) l.length cap) w' := by
    simp only [convert, Sem.run_bind, run_underlying h1, run_underlying h2, run_underlying h3, Result.andThen_ok]
    exact hrun
  simp [execOp, ho, hxe, hc]

theorem op_makeRow {P : Program} {S : Nat → Bool} {K : Kz} {s : St} {a : Act} {w : World} {o : Oper} (h : StRel S K s a w) (hd : ∀ x, o.dst = some x → S x = false) {t e sz bytes : Nat} {z : List AV} {ol oc : Operand} {k : IntKind} {n : Int}
    (ho : o.op = .makeSlice t ol oc) (ht : sliceTP P t e sz z = true) (hby : (match P.info? e with | some i => decide (i.bytes = bytes) | none => false) = true) (hsz : 0 < sz) (hb1 : 0 < bytes) (hle' : a.eval ol = .int k n) (hce : a.eval oc = .int k n) (h0 : 0 ≤ n) (h63 : n ≤ 9223372036854775807) (hbd : n.toNat * bytes ≤ 140737488355328) (hp : pureL z = true) (hc1 : cell1L z = true) :
    let r := OpRes.ok (.own s.H.length n.toNat) (setH s (s.H ++ [.row false true e sz (repZ z n.toNat)]))
    OpW P o a w (Done S K w s o.dst r) (Pan K w s r) := by
  intro r
  obtain ⟨hd', h2, h4, i, v, hi, hz, h5, h6, h7⟩ := sliceTP_spec ht
  rw [hi] at hby
  simp only [decide_eq_true_eq] at hby
  subst hby h5
  have hbn : (i.bytes : Int) * n ≤ 281474976710656 := by
    have : n.toNat * i.bytes ≤ 281474976710656 := by omega
    have h8 : ((n.toNat * i.bytes : Nat) : Int) ≤ 281474976710656 := by omega
    rw [Int.natCast_mul, Int.toNat_of_nonneg h0, Int.mul_comm] at h8
    exact h8
  have hrun := run_make (P := P) w t e i v hd' hi hz k k n n h0 (Int.le_refl _) hbn h63
  have hzr := zeros_rep (vOKL_rep h6 K) n.toNat
  rw [show n.toNat * v.cells.size = n.toNat * i.size by rw [h7]] at hzr
  have hcells : madeCells v.cells (n.toNat * i.size) = (Array.range (n.toNat * i.size)).map (v.cells[· % v.cells.size]!) := rfl
  rw [← hcells] at hzr
  have hb : ¬ K.tracked w.heap.size := not_tracked_new h.inv (Nat.le_refl _)
  have hle := le_addRow h.inv n.toNat (.slice (some ⟨w.heap.size, 0, none⟩) n.toNat n.toNat)
  have hml : n.toNat ≤ maxLen := by
    have : n.toNat * 1 ≤ n.toNat * i.bytes := Nat.mul_le_mul_left _ hb1
    unfold maxLen; omega
  have hsize := size_madeCells v.cells (n.toNat * i.size)
  have hown : (w.alloc (.cells (madeCells v.cells (n.toNat * i.size)) e)).ownsRow 0 e i.size (.slice (some ⟨w.heap.size, 0, none⟩) n.toNat n.toNat) n.toNat (madeCells v.cells (n.toNat * i.size)).toList :=
    ⟨by simpa using hsize, .inr ⟨w.heap.size, n.toNat, _, rfl, Nat.zero_le _, heap_alloc_new w _, Nat.le_refl _, hml, hsize, List.take_of_length_le (by simp [hsize])⟩⟩
  have hrepz : ∀ m, pureL (repZ z m) = true ∧ cell1L (repZ z m) = true := by
    intro m
    induction m with
    | zero => exact ⟨rfl, rfl⟩
    | succ m ih => exact ⟨by rw [repZ, pureL_append, hp, ih.1]; rfl, by rw [repZ, cell1L_append, hc1, ih.2]; rfl⟩
  have hinv := (h.alloc (.cells (madeCells v.cells (n.toNat * i.size)) e)).inv.addRow (m := n.toNat) (v := .slice (some ⟨w.heap.size, 0, none⟩) n.toNat n.toNat) (fun b q => by simp [Value.ownBlock] at q; subst q; exact hb) hle false true e i.size (repZ z n.toNat) hsz (hrepz _).2 (fun _ => (hrepz _).1) hown (hzr.mono hle)
  have hrel : StRel S (K.addRow n.toNat (.slice (some ⟨w.heap.size, 0, none⟩) n.toNat n.toNat)) (setH s (s.H ++ [.row false true e i.size (repZ z n.toNat)])) a (w.alloc (.cells (madeCells v.cells (n.toNat * i.size)) e)) := by
    refine h.toH hle rfl hinv (fun i b q => heap_alloc_old w _ b (h.slot_lt q)) (fun i b q => ?_) (by have := h.base; simp; omega) (h.bok.append h.base _)
    obtain ⟨_, q1, q2, q3, q4⟩ := h.sl i b q
    refine ⟨q1, fun j q5 => ?_, q3, q4⟩
    simp only [Kz.addRow] at q5
    split at q5
    · simp [Value.ownBlock] at q5; have := h.slot_lt q; omega
    · exact q2 j q5
  refine OpW.value (v := .slice (some ⟨w.heap.size, 0, none⟩) n.toNat n.toNat) (w' := w.alloc (.cells (madeCells v.cells (n.toNat * i.size)) e)) (by simp [execOp, ho, hle', hce, hrun]) ⟨_, _, _, rfl, hle.kl, Step.alloc_row K w _ n.toNat _ (fun b q => by simp [Value.ownBlock] at q; omega) rfl rfl rfl (by simp) (fun b hb => heap_alloc_old w _ b hb), ?_⟩
  refine ⟨hrel.put o.dst hd (.own s.H.length n.toNat _ ?_ ?_ (fun _ => ?_) rfl), Keeps.push h.base _⟩
  · simp [Kz.addRow, h.inv.n]
  · simp [Kz.addRow, h.inv.n]
  · simp [Kz.addRow, h.inv.n]
end Go.Proofs.YtdhlgbnljhgabaaGreatDoor.AM

/- Maps, iterators, heap variables. -/
namespace Go.Proofs.YtdhlgbnljhgabaaGreatDoor.AM
open Go

theorem op_mkMap {P : Program} {S : Nat → Bool} {K : Kz} {s : St} {a : Act} {w : World} {o : Oper} (h : StRel S K s a w) (hd : ∀ x, o.dst = some x → S x = false) {t : TypeId} (ho : o.op = .makeMap t none) :
    let r := OpRes.ok (.map s.H.length) (setH s (s.H ++ [.map []]))
    OpW P o a w (Done S K w s o.dst r) (Pan K w s r) := by
  intro r
  have hz := h.inv.verd K.n (Nat.le_refl _)
  have hrel := h.newVb (.map #[] 0) (.map []) ⟨hz.1, hz.2, rfl, w.heap.size, #[], 0, by simp [Kz.addVb], heap_alloc_new w _, .nil⟩ (fun _ _ _ _ _ e => by cases e)
  refine OpW.value (v := .map (some w.heap.size)) (w' := w.alloc (.map #[] 0)) (by simp [execOp, ho, Instr.makeMap]) ⟨_, _, _, rfl, (le_addVb h.inv _).kl, Step.alloc_vb K w _, ?_⟩
  exact ⟨hrel.put o.dst hd (.map _ _ (by simp [Kz.addVb, h.inv.n])), Keeps.push h.base _⟩

def strKey (P : Program) (t : TypeId) : Bool := match P.underlying t with | some .string => true | _ => false
theorem strKey_spec {P : Program} {t : TypeId} (h : strKey P t = true) : P.underlying t = some .string := by
  unfold strKey at h; split at h <;> simp_all

theorem run_checkKey {P : Program} {w : World} {t : TypeId} (ht : P.underlying t = some .string) (b : Bool) (d : Nat) (s : ByteArray) : (Instr.checkKey b (d + 1) t (.string s)).run P w = .ok () w := by
  simp [Instr.checkKey, run_underlying ht]

theorem run_getObj {P : Program} {w : World} {b : Nat} {o : Obj} (h : w.heap[b]? = some o) (hn : ∀ c e f, o ≠ .cells c e f) : (getObj b).run P w = .ok o w := by
  simp only [getObj, Sem.run, h]

theorem run_setObj {P : Program} {w : World} {b : Nat} {o o' : Obj} (h : w.heap[b]? = some o) (hn : ∀ c e f, o ≠ .cells c e f) : (setObj b o').run P w = .ok () { w with heap := w.heap.setIfInBounds b o' } := by
  simp only [setObj, Sem.run, h]

theorem MapRep.append {K : Kz} {es fs : List MapEntry} {as bs : List AV} (h : MapRep K es as) (k : MapRep K fs bs) : MapRep K (es ++ fs) (as ++ bs) := by
  induction h with
  | nil => exact k
  | cons e a b es as hk hv h ih => exact .cons e a b _ _ hk hv ih

def mapTP (P : Program) (t : TypeId) : Bool := match P.underlying t with | some (.map k _) => strKey P k | _ => false

/-- An object that is no row of cells is turned. -/
theorem setObj_heap {w : World} {b : Nat} {o : Obj} (h : b < w.heap.size) : ({ w with heap := w.heap.setIfInBounds b o } : World).heap[b]? = some o := by simp [h]
theorem setObj_other {w : World} {b k : Nat} {o : Obj} (h : k ≠ b) : ({ w with heap := w.heap.setIfInBounds b o } : World).heap[k]? = w.heap[k]? := by
  simp only [Array.getElem?_setIfInBounds]
  rw [if_neg (fun q => h q.symm)]

theorem StRel.setOb {S : Nat → Bool} {K : Kz} {s : St} {a : Act} {w : World} (h : StRel S K s a w) {id b : Nat} {o : AObj} {ob : Obj} (hid : id < s.H.length) (hb : K.vb id = some b) (hrv : K.rv id = nilv)
    (ho : ObjOK K { w with heap := w.heap.setIfInBounds b ob } id o) (hbok : BaseOK (s.H.set id o) s.base) : StRel S K (setH s (s.H.set id o)) a { w with heap := w.heap.setIfInBounds b ob } := by
  have hno : ∀ k, (K.rv id).ownBlock ≠ some k := fun k q => by rw [hrv] at q; simp [nilv, Value.ownBlock] at q
  refine h.toH ⟨Nat.le_refl _, fun _ _ e => e, fun _ => Nat.le_refl _, fun _ _ _ => rfl, fun _ c e => ⟨[], by rw [List.append_nil]; exact e⟩, fun _ _ e => e, fun _ _ e => e⟩ rfl ?_ (fun i k e => ?_) (fun i k e => (h.sl i k e).2) (by simpa using h.base) hbok
  · refine h.inv.setObj hid ho (fun k _ hk => setObj_other fun e => ?_) (fun k hk => ?_) (fun k hk => absurd hk (hno k))
    · subst e; exact hk.1 hb
    · rcases hk with hk | hk
      · exact (h.inv.vz id k hk).1
      · exact absurd hk (hno k)
  · refine setObj_other fun q => ?_
    subst q
    obtain ⟨_, q1, _⟩ := h.sl i k e
    exact q1 _ hb

theorem setOb_step {K : Kz} {w : World} {b : Nat} (o : Obj) (hb : K.owned b) : Step K w K { w with heap := w.heap.setIfInBounds b o } :=
  Step.of_heap rfl rfl rfl (by simp) fun k _ h1 _ => setObj_other fun e => h1 (e ▸ hb)

theorem op_mapUpd {P : Program} {S : Nat → Bool} {K : Kz} {s : St} {a : Act} {w : World} {o : Oper} (h : StRel S K s a w) (hd : ∀ x, o.dst = some x → S x = false) {t : TypeId} {om ok ov : Operand} {mv kv vv : Value} {id : Nat} {k : List UInt8} {v : AV} {kvs : List AV}
    (ho : o.op = .mapUpdate t om ok ov) (ht : mapTP P t = true) (e1 : a.eval om = mv) (e2 : a.eval ok = kv) (e3 : a.eval ov = vv) (hm : Rep K mv (.map id)) (hk : Rep K kv (.str k)) (hv : Rep K vv v) (hp : pure v = true)
    (hH : s.H[id]? = some (.map kvs)) (hl : lookupV (.str k) kvs = some none) :
    let r := OpRes.ok (.tuple []) (setH s (s.H.set id (.map (kvs ++ [.str k, v]))))
    OpW P o a w (Done S K w s o.dst r) (Pan K w s r) := by
  intro r
  cases hm with
  | map _ b hb =>
  have := rep_str hk; subst this
  obtain ⟨hver, hrv, hpk, b', es, cl, h1, h2, h3⟩ := h.inv.obj id _ hH
  rw [hb] at h1
  cases h1
  have hid : id < s.H.length := (List.getElem?_eq_some_iff.1 hH).1
  unfold mapTP at ht
  split at ht
  · rename_i key elem hd'
    have hks := strKey_spec ht
    obtain ⟨q, hq, hqr⟩ := find_rep (i := 0) h3 hl
    have hqn : q = none := by
      cases q with
      | none => rfl
      | some y => exact hqr.elim
    subst hqn
    have hgo := run_getObj (P := P) h2 (fun c e f q => by cases q)
    have hso := run_setObj (P := P) (o' := .map (es.push { key := .string ⟨k.toArray⟩, val := vv, born := cl }) (cl + 1)) h2 (fun c e f q => by cases q)
    have hck := run_checkKey (P := P) (w := w) hks false 9999 ⟨k.toArray⟩
    have hkp : Keeps s (setH s (s.H.set id (.map (kvs ++ [.str k, v])))) := Keeps.set fun _ _ _ _ _ => ⟨fun _ e => (by cases e), fun _ _ _ _ e => (by cases e)⟩
    refine OpW.skip (w' := { w with heap := w.heap.setIfInBounds b (.map (es.push { key := .string ⟨k.toArray⟩, val := vv, born := cl }) (cl + 1)) }) ?_ ⟨_, _, K, rfl, KL.refl K, setOb_step _ (.inl ⟨id, hb⟩), (h.setOb (b := b) hid hb hrv (show ObjOK K _ id (.map (kvs ++ [.str k, v])) from ⟨hver, hrv, ?_, b, _, _, hb, setObj_heap (lt_of_heap h2), ?_⟩) (hkp.2 s.base (Nat.le_refl _) h.bok)).put o.dst hd (.tuple [] [] .nil), hkp⟩
    · have hfk : (Instr.findKey key (.string ⟨k.toArray⟩) es.toList).run P w = .ok none w := by
        simp only [Instr.findKey, Sem.run_bind, run_underlying hks, Result.andThen_ok, hq, Sem.run_pure]
      simp only [execOp, ho, e1, e2, e3, Instr.mapUpdate, Sem.run_bind, run_underlying hd', Result.andThen_ok, hgo, hck, hfk, hso, Sem.run_pure]
    · rw [pureL_append, hpk]; simp [pureL, AM.pure, hp]
    · rw [Array.toList_push]
      exact h3.append (.cons _ _ _ _ _ (.str k) hv .nil)
  · simp at ht

def lookTP (P : Program) (t : TypeId) (z : AV) : Bool := match P.underlying t with | some (.map k e) => strKey P k && (match P.info? e with | some i => (match i.zero with | some v => vOK v z | none => false) | none => false) | _ => false

theorem op_lookup {P : Program} {S : Nat → Bool} {K : Kz} {s : St} {a : Act} {w : World} {o : Oper} (h : StRel S K s a w) (hd : ∀ x, o.dst = some x → S x = false) {t : TypeId} {om ok : Operand} {cok : Bool} {mv kv : Value} {k : List UInt8} {m z v : AV} {kvs : List AV} {f : Option AV}
    (ho : o.op = .lookup t om ok cok) (ht : lookTP P t z = true) (e1 : a.eval om = mv) (e2 : a.eval ok = kv) (hm : Rep K mv m) (hk : Rep K kv (.str k))
    (hmm : (m = .nilMap ∧ kvs = []) ∨ (m = .fmap kvs) ∨ (∃ id, m = .map id ∧ s.H[id]? = some (.map kvs))) (hl : lookupV (.str k) kvs = some f)
    (hv : v = match f with | some x => (bif cok then .tuple [x, .bool true] else x) | none => (bif cok then .tuple [z, .bool false] else z)) : OpW P o a w (Done S K w s o.dst (.ok v s)) (Pan K w s (.ok v s)) := by
  have := rep_str hk; subst this
  unfold lookTP at ht
  split at ht
  · rename_i key elem hd'
    simp only [Bool.and_eq_true] at ht
    obtain ⟨hks, hz⟩ := ht
    have hks := strKey_spec hks
    split at hz
    · rename_i i hi
      split at hz
      · rename_i zv hzv
        have hzr := vOK_rep hz K
        have hzrun : (zeroValue elem).run P w = .ok zv w := by simp [zeroValue, typeInfo, hi, hzv]
        have hes : ∃ es : Array MapEntry, MapRep K es.toList kvs ∧ ((mv = .map none ∧ es = #[]) ∨ ∃ b cl, mv = .map (some b) ∧ w.heap[b]? = some (.map es cl)) := by
          rcases hmm with ⟨rfl, rfl⟩ | rfl | ⟨id, rfl, hH⟩
          · cases hm; exact ⟨#[], .nil, .inl ⟨rfl, rfl⟩⟩
          · cases hm with
            | fmap b _ hf =>
              obtain ⟨_, es, cl, q1, q2⟩ := h.inv.fm b kvs hf
              exact ⟨es, q2, .inr ⟨b, cl, rfl, q1⟩⟩
          · cases hm with
            | map _ b hb =>
              obtain ⟨_, _, _, b', es, cl, h1, h2, h3⟩ := h.inv.obj id _ hH
              rw [hb] at h1
              cases h1
              exact ⟨es, h3, .inr ⟨b, cl, rfl, h2⟩⟩
        obtain ⟨es, hes, hmv⟩ := hes
        obtain ⟨q, hq, hqr⟩ := find_rep (i := 0) hes hl
        have hck := run_checkKey (P := P) (w := w) hks es.isEmpty 9999 ⟨k.toArray⟩
        have hfk : (Instr.findKey key (.string ⟨k.toArray⟩) es.toList).run P w = .ok q w := by
          simp only [Instr.findKey, Sem.run_bind, run_underlying hks, Result.andThen_ok, hq, Sem.run_pure]
        have hfin : ∃ v', (Instr.lookup t mv (.string ⟨k.toArray⟩) cok).run P w = .ok v' w ∧ Rep K v' v := by
          rcases hmv with ⟨rfl, rfl⟩ | ⟨b, cl, rfl, hw⟩
          · cases q with
            | none =>
              cases f with
              | some x => exact hqr.elim
              | none =>
                subst hv
                refine ⟨if cok then .tuple #[zv, .bool false] else zv, ?_, ?_⟩
                · simp only [Instr.lookup, Sem.run_bind, run_underlying hd', Result.andThen_ok, Sem.run_pure, hck, hfk, hzrun]
                · cases cok
                  · exact hzr
                  · exact .tuple [zv, .bool false] [z, .bool false] (.cons _ _ _ _ hzr (.one (.bool _)))
            | some y => 
              cases f with
              | none => exact hqr.elim
              | some x =>
                subst hv
                refine ⟨if cok then .tuple #[y.2, .bool true] else y.2, ?_, ?_⟩
                · simp only [Instr.lookup, Sem.run_bind, run_underlying hd', Result.andThen_ok, Sem.run_pure, hck, hfk]
                · cases cok
                  · exact hqr
                  · exact .tuple [y.2, .bool true] [x, .bool true] (.cons _ _ _ _ hqr (.one (.bool _)))
          · have hgo := run_getObj (P := P) hw (fun c e f q => by cases q)
            cases q with
            | none =>
              cases f with
              | some x => exact hqr.elim
              | none =>
                subst hv
                refine ⟨if cok then .tuple #[zv, .bool false] else zv, ?_, ?_⟩
                · simp only [Instr.lookup, Sem.run_bind, run_underlying hd', Result.andThen_ok, Sem.run_pure, hgo, hck, hfk, hzrun]
                · cases cok
                  · exact hzr
                  · exact .tuple [zv, .bool false] [z, .bool false] (.cons _ _ _ _ hzr (.one (.bool _)))
            | some y => 
              cases f with
              | none => exact hqr.elim
              | some x =>
                subst hv
                refine ⟨if cok then .tuple #[y.2, .bool true] else y.2, ?_, ?_⟩
                · simp only [Instr.lookup, Sem.run_bind, run_underlying hd', Result.andThen_ok, Sem.run_pure, hgo, hck, hfk]
                · cases cok
                  · exact hqr
                  · exact .tuple [y.2, .bool true] [x, .bool true] (.cons _ _ _ _ hqr (.one (.bool _)))
        obtain ⟨v', hrun, hr⟩ := hfin
        exact still h hd (by simp [execOp, ho, e1, e2, hrun]) hr
      · simp at hz
    · simp at hz
  · simp at ht

theorem op_range {P : Program} {S : Nat → Bool} {K : Kz} {s : St} {a : Act} {w : World} {o : Oper} (h : StRel S K s a w) (hd : ∀ x, o.dst = some x → S x = false) {t : TypeId} {ox : Operand} {xv : Value} {b : List UInt8} (ho : o.op = .range t ox) (ht : strKey P t = true) (e1 : a.eval ox = xv) (hx : Rep K xv (.str b)) :
    let r := OpRes.ok (.ptr s.H.length 0) (setH s (s.H ++ [.siter b 0]))
    OpW P o a w (Done S K w s o.dst r) (Pan K w s r) := by
  intro r
  have := rep_str hx; subst this
  have hz := h.inv.verd K.n (Nat.le_refl _)
  have hrel := h.newVb (.stringIter ⟨b.toArray⟩ 0) (.siter b 0) ⟨hz.1, hz.2, w.heap.size, by simp [Kz.addVb], heap_alloc_new w _⟩ (fun _ _ _ _ _ e => by cases e)
  refine OpW.value (v := .pointer (some ⟨w.heap.size, 0, none⟩)) (w' := w.alloc (.stringIter ⟨b.toArray⟩ 0)) (by simp [execOp, ho, e1, Instr.range, run_underlying (strKey_spec ht)]) ⟨_, _, _, rfl, (le_addVb h.inv _).kl, Step.alloc_vb K w _, ?_⟩
  exact ⟨hrel.put o.dst hd (.ptr _ _ _ (by simp [Kz.addVb, h.inv.n])), Keeps.push h.base _⟩

theorem op_next {P : Program} {S : Nat → Bool} {K : Kz} {s : St} {a : Act} {w : World} {o : Oper} (h : StRel S K s a w) (hd : ∀ x, o.dst = some x → S x = false) {ox : Operand} {xv : Value} {id pos : Nat} {b : List UInt8} {r : OpRes} (ho : o.op = .next ox true) (e1 : a.eval ox = xv) (hx : Rep K xv (.ptr id 0)) (hH : s.H[id]? = some (.siter b pos))
    (hr : r = if pos < b.length then (let q := Utf8.decode ⟨b.toArray⟩ pos; .ok (.tuple [.bool true, .int .i64 pos, .int .i32 q.1]) (setH s (s.H.set id (.siter b (pos + q.2))))) else .ok (.tuple [.bool false]) s) :
    OpW P o a w (Done S K w s o.dst r) (Pan K w s r) := by
  cases hx with
  | ptr _ _ b' hb =>
  obtain ⟨hver, hrv, b2, h1, h2⟩ := h.inv.obj id _ hH
  rw [hb] at h1
  cases h1
  have hid : id < s.H.length := (List.getElem?_eq_some_iff.1 hH).1
  have hgo := run_getObj (P := P) h2 (fun c e f q => by cases q)
  by_cases hp : pos < b.length
  · rw [if_pos hp] at hr
    simp only at hr
    subst hr
    have hkp : Keeps s (setH s (s.H.set id (.siter b (pos + (Utf8.decode ⟨b.toArray⟩ pos).2)))) := Keeps.set fun _ _ _ _ _ => ⟨fun _ e => (by cases e), fun _ _ _ _ e => (by cases e)⟩
    have hso := run_setObj (P := P) (o' := .stringIter ⟨b.toArray⟩ (pos + (Utf8.decode ⟨b.toArray⟩ pos).2)) h2 (fun c e f q => by cases q)
    refine OpW.value (v := .tuple #[.bool true, .int .i64 pos, .int .i32 (Utf8.decode ⟨b.toArray⟩ pos).1]) (w' := { w with heap := w.heap.setIfInBounds b' (.stringIter ⟨b.toArray⟩ (pos + (Utf8.decode ⟨b.toArray⟩ pos).2)) }) ?_ ⟨_, _, K, rfl, KL.refl K, setOb_step _ (.inl ⟨id, hb⟩), (h.setOb (b := b') hid hb hrv (show ObjOK K _ id (.siter b (pos + (Utf8.decode ⟨b.toArray⟩ pos).2)) from ⟨hver, hrv, b', hb, setObj_heap (lt_of_heap h2)⟩) (hkp.2 s.base (Nat.le_refl _) h.bok)).put o.dst hd ?_, hkp⟩
    · simp only [execOp, ho, e1, Instr.next, Sem.run_bind, hgo, Result.andThen_ok, size_str, if_pos hp, hso, Sem.run_pure, goInt]
    · exact .tuple [.bool true, .int .i64 pos, .int .i32 (Utf8.decode ⟨b.toArray⟩ pos).1] _ (.cons _ _ _ _ (.bool _) (.cons _ _ _ _ (.int _ _) (.one (.int _ _))))
  · rw [if_neg hp] at hr
    subst hr
    refine still h hd (v' := .tuple #[.bool false]) ?_ (.tuple [.bool false] _ (.one (.bool _)))
    simp only [execOp, ho, e1, Instr.next, Sem.run_bind, hgo, Result.andThen_ok, size_str, if_neg hp, Sem.run_pure]
end Go.Proofs.YtdhlgbnljhgabaaGreatDoor.AM

/- Heap variables; what is handed on to calls. -/
namespace Go.Proofs.YtdhlgbnljhgabaaGreatDoor.AM
open Go

theorem RepL.setA {K : Kz} {vs : List Value} {as : List AV} (h : RepL K vs as) {i : Nat} {v : Value} {a : AV} (hv : vs[i]? = some v) (ha : Rep K v a) : RepL K vs (as.set i a) := by
  have := h.set i ha
  have e : vs.set i v = vs := by
    apply List.ext_getElem?
    intro j
    rw [List.getElem?_set]
    by_cases q : i = j
    · subst q; rw [if_pos rfl, if_pos (List.getElem?_eq_some_iff.1 hv).1, hv]
    · rw [if_neg q]
  rwa [e] at this

theorem cell1L_set {l : List AV} (h : cell1L l = true) {a : AV} (ha : cell1 a = true) (i : Nat) : cell1L (l.set i a) = true := by
  rw [cell1L, List.all_eq_true] at h ⊢
  intro x hx
  rcases List.mem_or_eq_of_mem_set hx with q | q
  · exact h x q
  · subst q; exact ha

theorem rows_sound {S : Nat → Bool} {a : Act} {w : World} {vs : List Value} : ∀ (rows : List (Nat × Nat × Nat)) {K : Kz} {s : St} {z z' : List AV} {os : List AObj}, StRel S K s a w → RepL K vs z → cell1L z = true → (∀ x ∈ rows, 0 < x.2.2) → withRows z s.H.length rows = some (z', os) →
    ∃ K1, KLe K K1 ∧ Step K w K1 w ∧ StRel S K1 (setH s (s.H ++ os)) a w ∧ RepL K1 vs z' ∧ cell1L z' = true
  | [], K, s, z, z', os, h, hr, hc, _, hw => by
    simp only [withRows, Option.some.injEq, Prod.mk.injEq] at hw
    obtain ⟨rfl, rfl⟩ := hw
    refine ⟨K, KLe.refl K, Step.refl K w, ?_, hr, hc⟩
    rw [List.append_nil]
    exact h
  | (i, e, sz) :: rows, K, s, z, z', os, h, hr, hc, hsz, hw => by
    simp only [withRows] at hw
    split at hw
    · rename_i hzi
      cases hrec : withRows (z.set i (.own s.H.length 0)) (s.H.length + 1) rows with
      | none => rw [hrec] at hw; simp at hw
      | some q =>
        obtain ⟨z2, os2⟩ := q
        rw [hrec] at hw
        simp only [Option.map_some, Option.some.injEq, Prod.mk.injEq] at hw
        obtain ⟨rfl, rfl⟩ := hw
        obtain ⟨hle, hst, hrel⟩ := h.newRow e sz (hsz (i, e, sz) (by simp))
        obtain ⟨v, hv, hvr⟩ := hr.get hzi
        have := rep_nilS hvr; subst this
        have hr1 : RepL (K.addRow 0 nilv) vs (z.set i (.own s.H.length 0)) := by
          refine (hr.mono hle).setA hv (.own _ _ _ ?_ ?_ (fun _ => ?_) rfl)
          · simp [Kz.addRow, h.inv.n]
          · simp [Kz.addRow, h.inv.n]
          · simp [Kz.addRow, h.inv.n, nilv]
        have hlen : (setH s (s.H ++ [AObj.row false true e sz []])).H.length = s.H.length + 1 := by simp [setH]
        obtain ⟨K1, k1, k2, k3, k4, k5⟩ := rows_sound rows hrel hr1 (cell1L_set hc rfl i) (fun x hx => hsz x (by simp [hx])) (by rw [hlen]; exact hrec)
        refine ⟨K1, hle.trans k1, hst.trans k2, ?_, k4, k5⟩
        have e2 : (setH (setH s (s.H ++ [AObj.row false true e sz []])) ((setH s (s.H ++ [AObj.row false true e sz []])).H ++ os2)) = setH s (s.H ++ (AObj.row false true e sz [] :: os2)) := by simp [setH]
        rw [e2] at k3
        exact k3
    · simp at hw

theorem op_heapVar {P : Program} {S : Nat → Bool} {K : Kz} {s : St} {a : Act} {w : World} {o : Oper} (h : StRel S K s a w) (hd : ∀ x, o.dst = some x → S x = false) {cs : Array Value} {el : TypeId} {z z' : List AV} {os : List AObj} {rows : List (Nat × Nat × Nat)}
    (hrun : (execOp a.eval o).run P w = .ok (.value (.pointer (some ⟨w.heap.size, 0, none⟩))) (w.alloc (.cells cs el))) (hr : RepL K cs.toList z) (hc : cell1L z = true) (hsz : ∀ x ∈ rows, 0 < x.2.2) (hw : withRows z s.H.length rows = some (z', os)) :
    let r := OpRes.ok (.ptr (s.H.length + os.length) 0) (setH s (s.H ++ os ++ [.var z']))
    OpW P o a w (Done S K w s o.dst r) (Pan K w s r) := by
  intro r
  obtain ⟨K1, k1, k2, k3, k4, k5⟩ := rows_sound rows h hr hc hsz hw
  have hz := k3.inv.verd K1.n (Nat.le_refl _)
  have hlen : K1.n = s.H.length + os.length := by rw [k3.inv.n]; simp [setH]
  have hle2 := le_addVb k3.inv w.heap.size
  have hrel := k3.newVb (.cells cs el) (.var z') ⟨hz.1, hz.2, k5, w.heap.size, cs, el, by simp [Kz.addVb], heap_alloc_new w _, k4.mono hle2⟩ (fun _ _ _ _ _ e => by cases e)
  refine OpW.value hrun ⟨_, _, _, rfl, (k1.trans hle2).kl, k2.trans (Step.alloc_vb K1 w _), ?_⟩
  have e : setH (setH s (s.H ++ os)) ((setH s (s.H ++ os)).H ++ [AObj.var z']) = setH s (s.H ++ os ++ [AObj.var z']) := by simp [setH]
  rw [e] at hrel
  refine ⟨hrel.put o.dst hd (.ptr _ _ _ (by simp [Kz.addVb, hlen])), ?_⟩
  rw [List.append_assoc]
  exact Keeps.push h.base _

mutual
theorem noLp_of_plain : ∀ {a : AV}, plain a = true → noLp a = true
  | .func _ f c, h => by simp [plain] at h; simp [noLp, noLpL_of_plainL h.1, noLpL_of_plainL h.2]
  | .iface _ v, h => by simp [plain] at h; simp [noLp, noLp_of_plain h]
  | .agg cs, h => by simp [plain] at h; simp [noLp, noLpL_of_plainL h]
  | .tuple cs, h => by simp [plain] at h; simp [noLp, noLpL_of_plainL h]
  | .lvar _, h => by simp [plain] at h
  | .lptr .., h => by simp [plain] at h
  | .undef, h => by simp [plain] at h
  | .nilS, h => by simp [plain] at h
  | .own .., h => by simp [plain] at h
  | .rptr .., h => by simp [plain] at h
  | .nilPtr, _ | .nilMap, _ | .nilFunc, _ | .nilIface, _ | .bool _, _ | .int .., _ | .str _, _ | .list .., _ | .fptr .., _ | .fmap _, _ | .ptr .., _ | .map _, _ => rfl
theorem noLpL_of_plainL : ∀ {l : List AV}, plainL l = true → noLpL l = true
  | [], _ => rfl
  | a :: l, h => by simp [plainL] at h; simp [noLpL, noLp_of_plain h.1, noLpL_of_plainL h.2]
end

/-- A row is seen as frozen. -/
theorem StRel.view {S : Nat → Bool} {K : Kz} {s : St} {a : Act} {w : World} (h : StRel S K s a w) {id n e sz : Nat} {ro : Bool} {c : List AV} (hH : s.H[id]? = some (.row ro true e sz c)) (hn : n * sz = c.length) :
    ∃ K', KLe K K' ∧ K'.sl = K.sl ∧ Step K w K' w ∧ StRel S K' (setH s (s.H.set id (.row true true e sz c))) a w ∧ Rep K' (K.rv id) (.list c n) ∧ Keeps s (setH s (s.H.set id (.row true true e sz c))) := by
  have hkp : Keeps s (setH s (s.H.set id (.row true true e sz c))) := Keeps.set fun _ _ _ _ _ => ⟨fun _ q => (by cases q), fun _ _ _ _ q => (by cases q)⟩
  obtain ⟨hvb, hsz, hcc, hpp, xs, hown, hr⟩ := h.inv.obj id _ hH
  obtain ⟨hver, _⟩ := h.inv.row_ver hH hn
  have hid : id < s.H.length := (List.getElem?_eq_some_iff.1 hH).1
  rw [← hver] at hown
  have hset : ∀ K' : Kz, KLe K K' → K'.sl = K.sl → (K'.vb = K.vb) → (K'.rv = K.rv) → (K'.ver = K.ver) → K'.n = K.n → K'.fm = K.fm → (∀ b x, K'.fz b = some x → (K.fz b = some x) ∨ ((K.rv id).ownBlock = some b ∧ x = c)) → (∀ b x, K.fz b = some x → (K.rv id).ownBlock ≠ some b → K'.fz b = some x) →
      StRel S K' (setH s (s.H.set id (.row true true e sz c))) a w := by
    intro K' hle hsl e1 e2 e3 e4 e5 hf1 hf2
    refine h.toH hle hsl ?_ (fun _ _ _ => rfl) (fun i b q => ?_) (by simpa using h.base) (h.bok.set id _ fun _ => ⟨fun _ q => (by cases q), fun _ _ _ _ q => (by cases q)⟩)
    · refine ⟨by rw [e4, h.inv.n]; simp, fun i o q => ?_, fun i b q => by rw [e4]; exact h.inv.vbd i b (by rw [← e1]; exact q), fun i hi => by rw [e3, e2]; exact h.inv.verd i (by rw [← e4]; exact hi), fun b x q => ?_, fun b x q => ?_, by rw [e1]; exact h.inv.injv, by rw [e2]; exact h.inv.injr, by rw [e1, e2]; exact h.inv.vr, fun i b q => ?_, fun i b x q1 q2 => ?_⟩
      · rw [List.getElem?_set] at q
        by_cases qi : id = i
        · subst qi
          rw [if_pos rfl, if_pos hid] at q
          simp only [Option.some.injEq] at q
          subst q
          exact ⟨by rw [e1]; exact hvb, hsz, hcc, hpp, xs, by rw [e2, e3, ← hver]; exact hown, hr.mono hle⟩
        · rw [if_neg qi] at q
          exact (h.inv.obj i o q).mono hle (by rw [h.inv.n]; exact (List.getElem?_eq_some_iff.1 q).1) (by rw [e3]) (fun q2 => by rw [e1]; exact q2)
      · rcases hf1 b x q with q1 | ⟨q1, rfl⟩
        · obtain ⟨r1, cs, el, fr, r2, ys, zs, r3, r4⟩ := h.inv.fz b x q1
          exact ⟨r1, cs, el, fr, r2, ys, zs, r3, r4.mono hle⟩
        · refine ⟨hpp rfl, ?_⟩
          rcases hown.2 with ⟨q2, _⟩ | ⟨g, cap, cur, q2, _, q3, _, _, _, q4⟩
          · rw [q2] at q1; simp [Value.ownBlock] at q1
          · rw [q2] at q1
            simp only [Value.ownBlock, Option.some.injEq] at q1
            subst q1
            exact ⟨cur, e, (0, 0), q3, xs, cur.toList.drop (n * sz), by rw [← q4, List.take_append_drop], hr.mono hle⟩
      · rw [e5] at q
        obtain ⟨r1, es, cl, r2, r3⟩ := h.inv.fm b x q
        exact ⟨r1, es, cl, r2, r3.mono hle⟩
      · rw [e1] at q
        refine ⟨?_, by rw [e5]; exact (h.inv.vz i b q).2⟩
        cases q2 : K'.fz b with
        | none => rfl
        | some x =>
          rcases hf1 b x q2 with q3 | ⟨q3, _⟩
          · rw [(h.inv.vz i b q).1] at q3; cases q3
          · exact absurd q3 (h.inv.vr i id b q)
      · rw [e2] at q1
        rcases hf1 b x q2 with q3 | ⟨q3, rfl⟩
        · obtain ⟨p2, e2', sz2, cells2, r, q4, q5⟩ := h.inv.rz i b x q1 q3
          by_cases qi : id = i
          · subst qi
            rw [hH] at q4
            cases q4
            exact ⟨true, e, sz, c, r, by rw [List.getElem?_set, if_pos rfl, if_pos hid], q5⟩
          · exact ⟨p2, e2', sz2, cells2, r, by rw [List.getElem?_set, if_neg qi]; exact q4, q5⟩
        · have := h.inv.injr i id b q1 q3
          subst this
          exact ⟨true, e, sz, x, [], by rw [List.getElem?_set, if_pos rfl, if_pos hid], by simp⟩
    · obtain ⟨_, q1, q2, q3, q4⟩ := h.sl i b q
      refine ⟨by rw [e1]; exact q1, by rw [e2]; exact q2, ?_, by rw [e5]; exact q4⟩
      cases q5 : K'.fz b with
      | none => rfl
      | some x =>
        rcases hf1 b x q5 with q6 | ⟨q6, _⟩
        · rw [q3] at q6; cases q6
        · exact absurd q6 (q2 id)
  rcases hown.2 with ⟨q2, q3⟩ | ⟨g, cap, cur, q2, _, q3, q4, _, _, q5⟩
  · refine ⟨K, KLe.refl K, rfl, Step.refl K w, hset K (KLe.refl K) rfl rfl rfl rfl rfl rfl (fun _ _ q => .inl q) (fun _ _ q _ => q), ?_, hkp⟩
    have hc0 : c = [] := List.eq_nil_of_length_eq_zero (by rw [← hn, q3, Nat.zero_mul])
    rw [q2, hc0, q3]
    exact .list0
  · have hg : (K.rv id).ownBlock = some g := by rw [q2]; rfl
    have hpre : ∀ x, K.fz g = some x → ∃ r, c = x ++ r := fun x q => by
      obtain ⟨p2, e2', sz2, cells2, r, q4, q5⟩ := h.inv.rz id g x hg q
      rw [hH] at q4
      cases q4
      exact ⟨r, q5⟩
    have hle : KLe K (K.addFz g c) := by
      refine ⟨Nat.le_refl _, fun _ _ q => q, fun _ => Nat.le_refl _, fun _ _ _ => rfl, fun b x q => ?_, fun _ _ q => q, fun _ _ q => q⟩
      simp only [Kz.addFz]
      by_cases qb : b = g
      · subst qb
        obtain ⟨r, hr'⟩ := hpre x q
        exact ⟨r, by rw [if_pos rfl, hr']⟩
      · exact ⟨[], by rw [if_neg qb, List.append_nil]; exact q⟩
    refine ⟨K.addFz g c, hle, rfl, ⟨rfl, rfl, rfl, Nat.le_refl _, fun _ _ _ _ => rfl, fun _ _ q => q, fun _ _ q => .inl q, fun b _ q1 q2 => ?_, fun _ _ q n => absurd q n, fun b c' _ q n => (by simp only [Kz.addFz]; rw [if_neg (by rintro rfl; exact n (.inr ⟨id, hg⟩))]; exact q)⟩, hset (K.addFz g c) hle rfl rfl rfl rfl rfl rfl (fun b x q => ?_) (fun b x q qn => ?_), ?_, hkp⟩
    · simp only [Kz.addFz] at q2
      by_cases qb : b = g
      · subst qb; exact .inr ⟨id, hg⟩
      · rw [if_neg qb] at q2; exact absurd q1 q2
    · simp only [Kz.addFz] at q
      by_cases qb : b = g
      · subst qb; rw [if_pos rfl] at q; cases q; exact .inr ⟨hg, rfl⟩
      · rw [if_neg qb] at q; exact .inl q
    · simp only [Kz.addFz]
      rw [if_neg (by rintro rfl; exact qn hg)]
      exact q
    · rw [q2]
      exact .list g 0 n cap c c (by simp [Kz.addFz]) ⟨[], [], by simp, rfl⟩ q4
end Go.Proofs.YtdhlgbnljhgabaaGreatDoor.AM

/- Arguments of calls. -/
namespace Go.Proofs.YtdhlgbnljhgabaaGreatDoor.AM
open Go

def Viewed (S : Nat → Bool) (K : Kz) (s : St) (a : Act) (w : World) (H' : Hp) (K' : Kz) : Prop :=
  KLe K K' ∧ K'.sl = K.sl ∧ Step K w K' w ∧ StRel S K' (setH s H') a w ∧ Keeps s (setH s H')

theorem view1_sound {S : Nat → Bool} {K : Kz} {s : St} {a : Act} {w : World} (h : StRel S K s a w) {v : Value} {x y : AV} {H' : Hp} (hx : Rep K v x) (hv : view1 x s.H = some (y, H')) :
    ∃ K', Viewed S K s a w H' K' ∧ Rep K' v y ∧ noLp y = true := by
  unfold view1 at hv
  split at hv
  · rename_i id n
    split at hv
    · rename_i ro e sz c hH
      split at hv
      · rename_i hn
        simp only [Option.some.injEq, Prod.mk.injEq] at hv
        obtain ⟨rfl, rfl⟩ := hv
        obtain ⟨K', k1, k2, k3, k4, k5, k6⟩ := h.view hH hn
        refine ⟨K', ⟨k1, k2, k3, k4, k6⟩, ?_, rfl⟩
        obtain ⟨hver, _⟩ := h.inv.row_ver hH hn
        cases hx with
        | own _ _ _ hd hn' hvv ho => rw [hvv hver]; exact k5
      · simp at hv
    · simp at hv
  · simp only [Option.some.injEq, Prod.mk.injEq] at hv
    obtain ⟨rfl, rfl⟩ := hv
    have := rep_nilS hx; subst this
    exact ⟨K, ⟨KLe.refl K, rfl, Step.refl K w, h, Keeps.refl s⟩, .list0, rfl⟩
  · split at hv
    · rename_i hp
      simp only [Option.some.injEq, Prod.mk.injEq] at hv
      obtain ⟨rfl, rfl⟩ := hv
      exact ⟨K, ⟨KLe.refl K, rfl, Step.refl K w, h, Keeps.refl s⟩, hx, noLp_of_plain hp⟩
    · simp at hv

theorem Viewed.trans {S : Nat → Bool} {K K1 K2 : Kz} {s : St} {a : Act} {w : World} {H1 H2 : Hp} (h : Viewed S K s a w H1 K1) (k : Viewed S K1 (setH s H1) a w H2 K2) : Viewed S K s a w H2 K2 :=
  ⟨h.1.trans k.1, k.2.1.trans h.2.1, h.2.2.1.trans k.2.2.1, k.2.2.2.1, h.2.2.2.2.trans k.2.2.2.2⟩

theorem view1L_sound {S : Nat → Bool} {a : Act} {w : World} : ∀ {xs : List AV} {K : Kz} {s : St} {vs : List Value} {ys : List AV} {H' : Hp}, StRel S K s a w → RepL K vs xs → view1L xs s.H = some (ys, H') → ∃ K', Viewed S K s a w H' K' ∧ RepL K' vs ys ∧ noLpL ys = true
  | [], K, s, vs, ys, H', h, hr, hv => by
    simp only [view1L, Option.some.injEq, Prod.mk.injEq] at hv
    obtain ⟨rfl, rfl⟩ := hv
    cases hr
    exact ⟨K, ⟨KLe.refl K, rfl, Step.refl K w, h, Keeps.refl s⟩, .nil, rfl⟩
  | x :: xs, K, s, vs, ys, H', h, hr, hv => by
    simp only [view1L] at hv
    cases h1 : view1 x s.H with
    | none => rw [h1] at hv; simp at hv
    | some q =>
      obtain ⟨y, H1⟩ := q
      rw [h1] at hv
      simp only [Option.bind_some] at hv
      cases h2 : view1L xs H1 with
      | none => rw [h2] at hv; simp at hv
      | some q2 =>
        obtain ⟨ys2, H2⟩ := q2
        rw [h2] at hv
        simp only [Option.map_some, Option.some.injEq, Prod.mk.injEq] at hv
        obtain ⟨rfl, rfl⟩ := hv
        cases hr with
        | cons v _ vs _ hv1 hl =>
          obtain ⟨K1, k1, k2, k3⟩ := view1_sound h hv1 h1
          obtain ⟨K2, l1, l2, l3⟩ := view1L_sound (s := setH s H1) k1.2.2.2.1 (hl.mono k1.1) h2
          refine ⟨K2, k1.trans l1, .cons _ _ _ _ (k2.mono l1.1) l2, by simp [noLpL, k3, l3]⟩

theorem viewV_sound {S : Nat → Bool} {K : Kz} {s : St} {a : Act} {w : World} (h : StRel S K s a w) {v : Value} {x y : AV} {H' : Hp} (hx : Rep K v x) (hv : viewV x s.H = some (y, H')) :
    ∃ K', Viewed S K s a w H' K' ∧ Rep K' v y ∧ noLp y = true := by
  unfold viewV at hv
  split at hv
  · rename_i cs
    cases h1 : view1L cs s.H with
    | none => rw [h1] at hv; simp at hv
    | some q =>
      obtain ⟨ys, H1⟩ := q
      rw [h1] at hv
      simp only [Option.map_some, Option.some.injEq, Prod.mk.injEq] at hv
      obtain ⟨rfl, rfl⟩ := hv
      obtain ⟨vs, rfl, hr⟩ := rep_agg hx
      obtain ⟨K', k1, k2, k3⟩ := view1L_sound h hr h1
      exact ⟨K', k1, .agg vs ys k2, by simp [noLp, k3]⟩
  · exact view1_sound h hx hv

theorem viewL_sound {S : Nat → Bool} {a : Act} {w : World} : ∀ {xs : List AV} {K : Kz} {s : St} {vs : List Value} {ys : List AV} {H' : Hp}, StRel S K s a w → RepL K vs xs → viewL xs s.H = some (ys, H') → ∃ K', Viewed S K s a w H' K' ∧ RepL K' vs ys ∧ noLpL ys = true
  | [], K, s, vs, ys, H', h, hr, hv => by
    simp only [viewL, Option.some.injEq, Prod.mk.injEq] at hv
    obtain ⟨rfl, rfl⟩ := hv
    cases hr
    exact ⟨K, ⟨KLe.refl K, rfl, Step.refl K w, h, Keeps.refl s⟩, .nil, rfl⟩
  | x :: xs, K, s, vs, ys, H', h, hr, hv => by
    simp only [viewL] at hv
    cases h1 : viewV x s.H with
    | none => rw [h1] at hv; simp at hv
    | some q =>
      obtain ⟨y, H1⟩ := q
      rw [h1] at hv
      simp only [Option.bind_some] at hv
      cases h2 : viewL xs H1 with
      | none => rw [h2] at hv; simp at hv
      | some q2 =>
        obtain ⟨ys2, H2⟩ := q2
        rw [h2] at hv
        simp only [Option.map_some, Option.some.injEq, Prod.mk.injEq] at hv
        obtain ⟨rfl, rfl⟩ := hv
        cases hr with
        | cons v _ vs _ hv1 hl =>
          obtain ⟨K1, k1, k2, k3⟩ := viewV_sound h hv1 h1
          obtain ⟨K2, l1, l2, l3⟩ := viewL_sound (s := setH s H1) k1.2.2.2.1 (hl.mono k1.1) h2
          refine ⟨K2, k1.trans l1, .cons _ _ _ _ (k2.mono l1.1) l2, by simp [noLpL, k3, l3]⟩

/-- What a call comes to. -/
def Post (K : Kz) (H : Hp) (w : World) (r : Out × Hp) (e : Ending) (w' : World) : Prop :=
  ∃ K', KL K K' ∧ K'.sl = (fun _ => none) ∧ Step K w K' w' ∧ Inv K' r.2 w' ∧ (∀ b, b ≤ H.length → BaseOK H b → BaseOK r.2 b) ∧ (match r.1 with
    | .ret x => ∃ v, e = .returned v ∧ Rep K' v x
    | .pan x => ∃ v, e = .panicked [{ v, recovered := false }] ∧ Rep K' v x)

/-- Are all calls as they are told? -/
def RhoOK (P : Program) (ρ : Rho) : Prop :=
  ∀ f args H r, ρ f args H = some r → ∀ K w (cargs : List Value), Inv K H w → K.sl = (fun _ => none) → RepL K cargs args → noLpL args = true →
    (∃ fn c, P.funcs[f]? = some fn ∧ fn.body = some c ∧ fn.name ≠ "runtime.NumGoroutine") ∧ Calls P f cargs.toArray w (Post K H w r)

theorem inv_slots {K : Kz} {H : Hp} {w : World} (h : Inv K H w) (sl : Nat → Option Nat) : Inv (K.withSl sl) H w := by
  have hle : KL K (K.withSl sl) := ⟨Nat.le_refl _, fun _ _ e => e, fun _ => Nat.le_refl _, fun _ _ _ => rfl, fun _ c e => ⟨[], by rw [List.append_nil]; exact e⟩, fun _ _ e => e⟩
  have hpl : ∀ {es : List MapEntry} {kvs : List AV}, MapRep K es kvs → pureL kvs = true → MapRep (K.withSl sl) es kvs := by
    intro es kvs hm
    induction hm with
    | nil => intro _; exact .nil
    | cons e a b es as hk hv hm ih =>
      intro hp
      simp only [pureL, Bool.and_eq_true] at hp
      exact .cons e a b es as (hle.rep hk (noLp_of_pure hp.1)) (hle.rep hv (noLp_of_pure hp.2.1)) (ih hp.2.2)
  refine ⟨h.n, fun id o e => ?_, h.vbd, h.verd, fun b c e => ?_, fun b c e => ?_, h.injv, h.injr, h.vr, h.vz, h.rz⟩
  · have ho := h.obj id o e
    cases o with
    | var c => obtain ⟨q1, q2, q3, b, cs, el, q4, q5, q6⟩ := ho; exact ⟨q1, q2, q3, b, cs, el, q4, q5, hle.repL q6 (noLpL_of_cell1L q3)⟩
    | row ro p e sz c => obtain ⟨q1, q2, q3, q4, xs, q5, q6⟩ := ho; exact ⟨q1, q2, q3, q4, xs, q5, hle.repL q6 (noLpL_of_cell1L q3)⟩
    | map kvs => obtain ⟨q1, q2, q3, b, es, cl, q4, q5, q6⟩ := ho; exact ⟨q1, q2, q3, b, es, cl, q4, q5, hpl q6 q3⟩
    | siter s pos => obtain ⟨q1, q2, b, q4, q5⟩ := ho; exact ⟨q1, q2, b, q4, q5⟩
  · obtain ⟨q1, cs, el, fr, q2, xs, ys, q3, q4⟩ := h.fz b c e
    exact ⟨q1, cs, el, fr, q2, xs, ys, q3, hle.repL q4 (noLpL_of_pureL q1)⟩
  · obtain ⟨q1, es, cl, q2, q3⟩ := h.fm b c e
    exact ⟨q1, es, cl, q2, hpl q3 q1⟩

theorem rep_withSl {K : Kz} (h : K.sl = fun _ => none) (sl : Nat → Option Nat) {v : Value} {x : AV} (hv : Rep K v x) : Rep (K.withSl sl) v x :=
  Rep.mono (K := K) (K' := K.withSl sl) ⟨Nat.le_refl K.n, fun _ _ e => e, fun _ => Nat.le_refl _, fun _ _ _ => rfl, fun _ c e => ⟨[], by rw [List.append_nil]; exact e⟩, fun _ _ e => e, fun i b e => (by rw [h] at e; cases e)⟩ hv

theorem lift_call {S : Nat → Bool} {K K' : Kz} {s : St} {a : Act} {w w' : World} {H' : Hp} (h : StRel S K s a w) (hk : KL K K') (hst : Step (K.withSl fun _ => none) w K' w') (hinv : Inv K' H' w') (hb : BaseOK H' s.base) :
    KLe K (K'.withSl K.sl) ∧ Step K w (K'.withSl K.sl) w' ∧ StRel S (K'.withSl K.sl) (setH s H') a w' := by
  have hle : KLe K (K'.withSl K.sl) := ⟨hk.n, hk.vb, hk.ver, hk.rv, hk.fz, hk.fm, fun _ _ e => e⟩
  have hno : ∀ {i b}, K.sl i = some b → ¬ K.owned b := fun {i b} e q => by
    obtain ⟨_, q1, q2, _⟩ := h.sl i b e
    rcases q with ⟨j, q⟩ | ⟨j, q⟩
    · exact q1 j q
    · exact q2 j q
  refine ⟨hle, ⟨hst.os, hst.tape, hst.output, hst.size, fun b hb h1 _ => hst.kept b hb h1 (fun _ q => by cases q), hst.owned, fun _ _ q => .inl q, hst.fz, hst.fm, hst.fzx⟩, h.toH hle rfl (inv_slots hinv K.sl) (fun i b e => hst.kept b (h.slot_lt e) (hno e) (fun _ q => by cases q)) (fun i b e => ?_) ?_ hb⟩
  · obtain ⟨_, q1, q2, q3, q4⟩ := h.sl i b e
    have hlt := h.slot_lt e
    refine ⟨fun j q => hno e (hst.owned b hlt (.inl ⟨j, q⟩)), fun j q => hno e (hst.owned b hlt (.inr ⟨j, q⟩)), ?_, ?_⟩
    · show K'.fz b = none
      cases q : K'.fz b with
      | none => rfl
      | some x => exact absurd (hst.fz b hlt q3 (by rw [q]; simp)) (hno e)
    · show K'.fm b = none
      cases q : K'.fm b with
      | none => rfl
      | some x => exact absurd (hst.fm b hlt q4 (by rw [q]; simp)) (hno e)
  · have h1 := hk.n
    rw [h.inv.n, hinv.n] at h1
    have := h.base
    omega

theorem op_call {P : Program} {ρ : Rho} (hρ : RhoOK P ρ) {S : Nat → Bool} {K : Kz} {s : St} {a : Act} {w : World} {o : Oper} (h : StRel S K s a w) (hd : ∀ x, o.dst = some x → S x = false) {of : Operand} {oas : Array Operand} {ats : Array TypeId} {fv : Value} {g : Nat} {first as cap args : List AV} {H' : Hp} {vas : List Value} {r : OpRes}
    (ho : o.op = .call { callee := .value of, args := oas, argTypes := ats }) (hfe : a.eval of = fv) (hf : Rep K fv (.func (.func g) first cap)) (hae : oas.map a.eval = vas.toArray) (ha : RepL K vas as) (hv : viewL (first ++ as ++ cap) s.H = some (args, H'))
    (hr : (match ρ g args H' with | some (.ret v, H) => some (.ok v (setH s H)) | some (.pan v, H) => some (.pan v H) | none => none) = some r) :
    OpW P o a w (Done S K w s o.dst r) (Pan K w s r) := by
  cases hf with
  | func _ vf vc _ _ hff hcc =>
  obtain ⟨K1, k1, hrl, hnl⟩ := viewL_sound h ((hff.append ha).append hcc) hv
  cases hq : ρ g args H' with
  | none => rw [hq] at hr; simp at hr
  | some out =>
    rw [hq] at hr
    have hrel := k1.2.2.2.1
    obtain ⟨⟨fn, c, hfn, hbody, hname⟩, hcall⟩ := hρ g args H' out hq (K1.withSl fun _ => none) w _ (inv_slots hrel.inv _) rfl (RepL.slots _ hrl hnl) hnl
    have hrun : (execOp a.eval o).run P w = .ok (.enter g (vf ++ vas ++ vc).toArray) w := by
      simp [execOp, ho, resolve, hfe, hae, Deferred.ofValue, invoke, callFunc, hfn, hname, hbody]
    intro next Q hn hp
    unfold Oper.wp
    rw [hrun]
    simp only [Oper.upon]
    refine hcall.mono fun e w' hpost => ?_
    obtain ⟨K2, q1, q2, q3, q4, q5, q6⟩ := hpost
    obtain ⟨out1, H2⟩ := out
    have hkl : KL K1 K2 := ⟨q1.n, q1.vb, q1.ver, q1.rv, q1.fz, q1.fm⟩
    have hbase : s.base ≤ H'.length := hrel.base
    obtain ⟨l1, l2, l3⟩ := lift_call hrel hkl q3 q4 (q5 s.base hbase hrel.bok)
    have hkeep : Keeps s (setH s H2) := ⟨rfl, fun b hb hbo => q5 b (Nat.le_trans hb hbase) (k1.2.2.2.2.2 b hb hbo)⟩
    cases out1 with
    | ret x =>
      obtain ⟨v, rfl, hvr⟩ := q6
      simp only [Option.some.injEq] at hr
      subst hr
      refine hn _ _ ⟨x, setH s H2, K2.withSl K.sl, rfl, (k1.1.kl).trans (by have := l1.kl; rw [← k1.2.1]; exact this), ?_, ?_, hkeep⟩
      · rw [← k1.2.1]; exact k1.2.2.1.trans l2
      · rw [← k1.2.1]
        refine StRel.put (s := setH s H2) l3 o.dst hd ?_
        exact rep_withSl q2 _ hvr
    | pan x =>
      obtain ⟨v, rfl, hvr⟩ := q6
      simp only [Option.some.injEq] at hr
      subst hr
      refine hp _ _ ⟨x, H2, K2.withSl K.sl, rfl, (k1.1.kl).trans (by have := l1.kl; rw [← k1.2.1]; exact this), ?_, ?_, ?_, hkeep⟩
      · rw [← k1.2.1]; exact k1.2.2.1.trans l2
      · rw [← k1.2.1]; exact l3.inv
      · exact rep_withSl q2 _ hvr

theorem op_panic {P : Program} {S : Nat → Bool} {K : Kz} {s : St} {a : Act} {w : World} {o : Oper} (h : StRel S K s a w) {ox : Operand} {xv : Value} {t : TypeId} {x : AV} (ho : o.op = .panic ox) (hxe : a.eval ox = xv) (hx : Rep K xv (.iface t x)) :
    OpW P o a w (Done S K w s o.dst (.pan (.iface t x) s.H)) (Pan K w s (.pan (.iface t x) s.H)) := by
  intro next Q _ hp
  cases hx with
  | iface _ v _ hv =>
  have hrun : (execOp a.eval o).run P w = .halt (.panic (.iface t v)) w := by
    simp [execOp, ho, hxe, Instr.panic]
  unfold Oper.wp
  rw [hrun]
  exact hp _ _ ⟨_, _, K, rfl, KL.refl K, Step.refl K w, h.inv, .iface t v x hv, Keeps.refl s⟩
end Go.Proofs.YtdhlgbnljhgabaaGreatDoor.AM
