/- Proved: florinlaw26.ScriptLong returns true for every input (the listed package-level variables hold what the program's text lays; no other condition). Part 5 of 13. -/
import Derived.Test.YtdhlgbnljhgabaaGreatDoorAm4
import Derived.Orders
/- A function called: its code, its results. -/
namespace Go.Proofs.YtdhlgbnljhgabaaGreatDoor.AM
open Go

def resOK (P : Program) : List ResultVar → List Res → Bool
  | [], [] => true
  | .tmp t :: rs, .tmp i :: qs => decide (t = i) && resOK P rs qs
  | .cell t ty :: rs, .cell i sz ag :: qs => decide (t = i) && isAggP P ty ag && (!ag || szP P ty sz) && resOK P rs qs
  | _, _ => false

def resF (tmps : Array Value) : ResultVar → Sem Value
  | .tmp t => Pure.pure (tmps.getD t undef)
  | .cell x t => do loadVar t (← asAddr (tmps.getD x undef))

theorem results_eq (fn : Func) (tmps : Array Value) : results fn tmps = (do
    let vs ← fn.results.mapM (resF tmps)
    Pure.pure (if h : vs.size = 1 then vs[0] else .tuple vs)) := by
  unfold results
  have : (fun x : ResultVar => (match x with
    | .tmp t => Pure.pure (tmps.getD t undef)
    | .cell a t => do loadVar t (← asAddr (tmps.getD a undef)) : Sem Value)) = resF tmps := by
    funext x
    cases x <;> rfl
  rw [← this]
  rfl

theorem run_results_list {P : Program} {S : Nat → Bool} {K : Kz} {s : St} {a : Act} {w : World} (h : StRel S K s a w) : ∀ {rs : List ResultVar} {qs : List Res} {vs : List AV}, resOK P rs qs = true → resL s qs = some vs →
    ∃ us, (rs.mapM (resF a.tmps)).run P w = .ok us w ∧ RepL K us vs
  | [], [], vs, _, hv => by
    simp only [resL, Option.some.injEq] at hv
    subst hv
    exact ⟨[], by simp, .nil⟩
  | .tmp t :: rs, .tmp i :: qs, vs, hc, hv => by
    simp only [resOK, Bool.and_eq_true, decide_eq_true_eq] at hc
    obtain ⟨rfl, hc⟩ := hc
    simp only [resL, resV, Option.bind_some] at hv
    cases e : resL s qs with
    | none => rw [e] at hv; simp at hv
    | some l =>
      rw [e] at hv
      simp only [Option.map_some, Option.some.injEq] at hv
      subst hv
      obtain ⟨us, h1, h2⟩ := run_results_list h hc e
      have hx : Rep K (a.tmps.getD t undef) (ev s.t (.tmp t)) := h.ev (x := .tmp t) (y := .tmp t) (by simp [opdOK])
      refine ⟨a.tmps.getD t undef :: us, ?_, .cons _ _ _ _ hx h2⟩
      rw [List.mapM_cons]
      simp only [resF, Sem.run_bind, Sem.run_pure, Result.andThen_ok]
      rw [h1]
      simp
  | .cell t ty :: rs, .cell i sz ag :: qs, vs, hc, hv => by
    simp only [resOK, Bool.and_eq_true, decide_eq_true_eq] at hc
    obtain ⟨⟨⟨rfl, c1⟩, c2⟩, hc⟩ := hc
    simp only [resL, resV] at hv
    cases e0 : loadA s sz ag (ev s.t (.tmp t)) with
    | none => rw [e0] at hv; simp at hv
    | some x =>
      rw [e0] at hv
      simp only [Option.bind_some] at hv
      cases e : resL s qs with
      | none => rw [e] at hv; simp at hv
      | some l =>
        rw [e] at hv
        simp only [Option.map_some, Option.some.injEq] at hv
        subst hv
        obtain ⟨us, h1, h2⟩ := run_results_list h hc e
        have hx : Rep K (a.tmps.getD t undef) (ev s.t (.tmp t)) := h.ev (x := .tmp t) (y := .tmp t) (by simp [opdOK])
        obtain ⟨b, off, c, e1, hat, hrd⟩ := loadA_at h hx e0
        obtain ⟨v', hrun, hv'⟩ := run_loadVar_at (P := P) hat hrd c1 (fun q => by subst q; simpa using c2)
        refine ⟨v' :: us, ?_, .cons _ _ _ _ hv' h2⟩
        rw [List.mapM_cons]
        simp only [resF, Sem.run_bind, Sem.run_pure, e1]
        have : (asAddr (.pointer (some ⟨b, off, none⟩))).run P w = .ok ⟨b, off, none⟩ w := rfl
        rw [this]
        simp only [Result.andThen_ok, hrun]
        rw [h1]
        simp
  | [], _ :: _, _, hc, _ => by simp [resOK] at hc
  | .tmp _ :: _, [], _, hc, _ => by simp [resOK] at hc
  | .cell .. :: _, [], _, hc, _ => by simp [resOK] at hc
  | .tmp _ :: _, .cell .. :: _, _, hc, _ => by simp [resOK] at hc
  | .cell .. :: _, .tmp _ :: _, _, hc, _ => by simp [resOK] at hc

theorem run_results {P : Program} {S : Nat → Bool} {K : Kz} {s : St} {a : Act} {w : World} (h : StRel S K s a w) {fn : Func} {qs : List Res} {vs : List AV} (hc : resOK P fn.results.toList qs = true) (hv : resL s qs = some vs) :
    ∃ v, (results fn a.tmps).run P w = .ok v w ∧ Rep K v (one vs) := by
  obtain ⟨us, h1, h2⟩ := run_results_list h hc hv
  rw [results_eq, Array.mapM_eq_mapM_toList]
  simp only [Sem.run_bind, Sem.run_map, h1, Result.andThen_ok, Sem.run_pure]
  cases h2 with
  | nil => exact ⟨_, rfl, .tuple [] [] .nil⟩
  | cons u x us xs hu hl =>
    cases hl with
    | nil => exact ⟨_, rfl, hu⟩
    | cons u2 x2 us xs hu2 hl =>
      refine ⟨_, rfl, ?_⟩
      rw [dif_neg (by simp)]
      exact .tuple _ _ (.cons _ _ _ _ hu (.cons _ _ _ _ hu2 hl))

/-- The real function that a code stands for. -/
def chkFun (P : Program) (S : Nat → Bool) (cd : Array Oper → List DOper → Bool) (f : Nat) (fn : AFun) : Bool :=
  match P.funcs[f]? with
  | some func => match func.body with
    | some c => decide (func.name ≠ "runtime.NumGoroutine") && decide (func.ntmps = fn.n) && resOK P func.results.toList fn.res && chkCode P S cd fn.body c
    | none => false
  | none => false

/-- A primitive does what it says. -/
def PrimOK (P : Program) (f : Nat) (p : List AV → Hp → R) : Prop :=
  ∀ args H r, p args H = some r → ∀ K w (cargs : List Value), Inv K H w → K.sl = (fun _ => none) → RepL K cargs args → noLpL args = true →
    (∃ fn c, P.funcs[f]? = some fn ∧ fn.body = some c ∧ fn.name ≠ "runtime.NumGoroutine") ∧ Calls P f cargs.toArray w (Post K H w r)

def FunOK (P : Program) (f : Nat) : Fun → Prop
  | .prim p => PrimOK P f p
  | .code fn => ∃ S cd, chkFun P S cd f fn = true ∧ ∀ ρ, RhoOK P ρ → DrawOK P S ρ cd

theorem entry_rel {S : Nat → Bool} {K : Kz} {H : Hp} {w : World} {cargs : List Value} {args : List AV} (hi : Inv K H w) (hsl : K.sl = fun _ => none) (hr : RepL K cargs args) (_hn : noLpL args = true) (n m : Nat) (hnm : m = n - cargs.length) :
    StRel S K ⟨args ++ List.replicate (n - args.length) .undef, H, H.length⟩ { tmps := cargs.toArray ++ Array.replicate m undef, defers := [] } w := by
  have hl := hr.length
  have hnv : ∀ i, TmpOK K w i ((cargs.toArray ++ Array.replicate m undef).getD i undef) ((args ++ List.replicate (n - args.length) AV.undef).getD i .undef) ∧ noVar ((args ++ List.replicate (n - args.length) AV.undef).getD i .undef) = true := by
    intro i
    rcases Nat.lt_or_ge i args.length with q | q
    · have e1 : (args ++ List.replicate (n - args.length) AV.undef).getD i .undef = args[i] := by
        simp [List.getD_eq_getElem?_getD, List.getElem?_append_left q, List.getElem?_eq_getElem q]
      have e2 : (cargs.toArray ++ Array.replicate m undef).getD i undef = cargs[i]'(by omega) := by
        rw [Array.getD_eq_getD_getElem?, Array.getElem?_append_left (by simp; omega)]
        simp [List.getElem?_eq_getElem (show i < cargs.length by omega)]
      rw [e1, e2]
      obtain ⟨v', k1, k2⟩ := hr.get (List.getElem?_eq_getElem q)
      rw [List.getElem?_eq_getElem (show i < cargs.length by omega)] at k1
      simp only [Option.some.injEq] at k1
      rw [k1]
      exact ⟨tmpOK_of_rep k2, noVar_of_rep k2⟩
    · have e1 : (args ++ List.replicate (n - args.length) AV.undef).getD i .undef = .undef := by
        rw [List.getD_eq_getElem?_getD, List.getElem?_append_right q, List.getElem?_replicate]
        split <;> rfl
      rw [e1]
      exact ⟨.undef _, rfl⟩
  refine ⟨hi, rfl, by simp; omega, fun i => (hnv i).1, fun i b e => ?_, fun i j b e => ?_, fun i _ => (hnv i).2, Nat.le_refl _, baseOK_all hi⟩
  · rw [hsl] at e; cases e
  · rw [hsl] at e; cases e

theorem keeps_post {s0 s : St} (h : Keeps s0 s) (hb : s0.base = s0.H.length) {n : Nat} (hn : n ≤ s.H.length) : ∀ b, b ≤ s0.H.length → BaseOK s0.H b → BaseOK (s.H.take n) b :=
  fun b hb1 q => (h.2 b (by rw [hb]; exact hb1) q).take hn

mutual
theorem noLp_of_below {n : Nat} : ∀ {a : AV}, below n a = true → noLp a = true
  | .func _ f c, h => by simp only [below, Bool.and_eq_true] at h; simp [noLp, noLpL_of_belowL h.1, noLpL_of_belowL h.2]
  | .iface _ v, h => by simp only [below] at h; simp [noLp, noLp_of_below h]
  | .agg cs, h => by simp only [below] at h; simp [noLp, noLpL_of_belowL h]
  | .tuple cs, h => by simp only [below] at h; simp [noLp, noLpL_of_belowL h]
  | .lvar _, h => by simp [below] at h
  | .lptr .., h => by simp [below] at h
  | .undef, _ | .nilS, _ | .nilPtr, _ | .nilMap, _ | .nilFunc, _ | .nilIface, _ | .bool _, _ | .int .., _ | .str _, _ | .list .., _ | .own .., _ | .ptr .., _ | .rptr .., _ | .fptr .., _ | .map _, _ | .fmap _, _ => rfl
theorem noLpL_of_belowL {n : Nat} : ∀ {l : List AV}, belowL n l = true → noLpL l = true
  | [], _ => rfl
  | a :: l, h => by simp only [belowL, Bool.and_eq_true] at h; simp [noLpL, noLp_of_below h.1, noLpL_of_belowL h.2]
end

mutual
theorem noLp_frz {n : Nat} {g : Nat → Option (List AV)} {H : Hp} : ∀ {a x : AV}, frzV n g H a = some x → noLp x = true
  | .undef, x, h | .lvar _, x, h | .lptr .., x, h => by simp [frzV] at h
  | .own id k, x, h => by
    simp only [frzV] at h
    split at h
    · simp only [Option.some.injEq] at h; subst h; rfl
    · split at h
      · split at h
        · simp only [Option.some.injEq] at h; subst h; rfl
        · simp at h
      · simp at h
  | .ptr id off, x, h => by
    simp only [frzV] at h
    split at h
    · simp only [Option.some.injEq] at h; subst h; rfl
    · cases e : g id with
      | none => rw [e] at h; simp at h
      | some c => rw [e] at h; simp only [Option.map_some, Option.some.injEq] at h; subst h; rfl
  | .rptr .., x, h => by
    simp only [frzV] at h
    split at h
    · simp only [Option.some.injEq] at h; subst h; rfl
    · simp at h
  | .map id, x, h => by
    simp only [frzV] at h
    split at h
    · simp only [Option.some.injEq] at h; subst h; rfl
    · split at h
      · simp only [Option.some.injEq] at h; subst h; rfl
      · simp at h
  | .func fn f c, x, h => by
    simp only [frzV] at h
    cases e : frzL n g H f with
    | none => rw [e] at h; simp at h
    | some y =>
      rw [e] at h
      simp only [Option.bind_some] at h
      cases e2 : frzL n g H c with
      | none => rw [e2] at h; simp at h
      | some z =>
        rw [e2] at h
        simp only [Option.map_some, Option.some.injEq] at h; subst h
        simp [noLp, noLpL_frz e, noLpL_frz e2]
  | .iface t v, x, h => by
    simp only [frzV] at h
    cases e : frzV n g H v with
    | none => rw [e] at h; simp at h
    | some y => rw [e] at h; simp only [Option.map_some, Option.some.injEq] at h; subst h; simp [noLp, noLp_frz e]
  | .agg cs, x, h => by
    simp only [frzV] at h
    cases e : frzL n g H cs with
    | none => rw [e] at h; simp at h
    | some y => rw [e] at h; simp only [Option.map_some, Option.some.injEq] at h; subst h; simp [noLp, noLpL_frz e]
  | .tuple cs, x, h => by
    simp only [frzV] at h
    cases e : frzL n g H cs with
    | none => rw [e] at h; simp at h
    | some y => rw [e] at h; simp only [Option.map_some, Option.some.injEq] at h; subst h; simp [noLp, noLpL_frz e]
  | .nilS, x, h | .nilPtr, x, h | .nilMap, x, h | .nilFunc, x, h | .nilIface, x, h | .bool _, x, h | .int .., x, h | .str _, x, h | .list .., x, h | .fptr .., x, h | .fmap _, x, h => by
    simp only [frzV, Option.some.injEq] at h; subst h; rfl
theorem noLpL_frz {n : Nat} {g : Nat → Option (List AV)} {H : Hp} : ∀ {a x : List AV}, frzL n g H a = some x → noLpL x = true
  | [], x, h => by simp only [frzL, Option.some.injEq] at h; subst h; rfl
  | a :: l, x, h => by
    simp only [frzL] at h
    cases e : frzV n g H a with
    | none => rw [e] at h; simp at h
    | some y =>
      rw [e] at h
      simp only [Option.bind_some] at h
      cases e2 : frzL n g H l with
      | none => rw [e2] at h; simp at h
      | some z =>
        rw [e2] at h
        simp only [Option.map_some, Option.some.injEq] at h; subst h
        simp [noLpL, noLp_frz e, noLpL_frz e2]
end
theorem noLp_frozen {n : Nat} {H : Hp} {a x : AV} (h : freeze n H a = some x) : noLp x = true := noLp_frz h

theorem belowL_one {n : Nat} {vs : List AV} (h : belowL n vs = true) : noLp (one vs) = true := by
  have key : ∀ (l : List AV), belowL n l = true → noLpL l = true := fun l q => noLpL_of_belowL q
  cases vs with
  | nil => rfl
  | cons a l =>
    cases l with
    | nil =>
      have := key _ h
      simp only [noLpL, Bool.and_eq_true] at this
      exact this.1
    | cons b l =>
      simp only [one, noLp]
      exact key _ h

theorem fin_sound {P : Program} {S : Nat → Bool} {K K0 : Kz} {s s0 : St} {a : Act} {w w0 : World} {func : Func} {fn : AFun} {r : Out × Hp} (h0 : Inv K0 s0.H w0) (hb0 : s0.base = s0.H.length) (hk : KL K0 K) (hs : Step K0 w0 K w) (h : StRel S K s a w) (hkp : Keeps s0 s)
    (_hsl0 : K0.sl = fun _ => none)
    (hres : resOK P func.results.toList fn.res = true) (hr : fin fn s0.H.length s = some r) : ∃ v, (results func a.tmps).run P w = .ok v w ∧ Post K0 s0.H w0 r (.returned v) w := by
  unfold fin at hr
  cases e : resL s fn.res with
  | none => rw [e] at hr; simp at hr
  | some vs =>
    rw [e] at hr
    simp only [Option.bind_some] at hr
    obtain ⟨v, hv, hrep⟩ := run_results (P := P) h hres e
    refine ⟨v, hv, ?_⟩
    split at hr
    · split at hr
      · rename_i hbl
        simp only [Option.some.injEq] at hr
        subst hr
        refine ⟨K.withSl fun _ => none, ⟨hk.n, hk.vb, hk.ver, hk.rv, hk.fz, hk.fm⟩, rfl, ⟨hs.os, hs.tape, hs.output, hs.size, hs.kept, fun b hb q => hs.owned b hb q, fun _ _ q => (by cases q), fun b hb q1 q2 => hs.fz b hb q1 q2, fun b hb q1 q2 => hs.fm b hb q1 q2, hs.fzx⟩, inv_slots h.inv _, fun b hb q => hkp.2 b (by rw [hb0]; exact hb) q, v, rfl, Rep.slots _ hrep (belowL_one hbl)⟩
      · simp at hr
    · cases e2 : freeze s0.H.length s.H (one vs) with
      | none => rw [e2] at hr; simp at hr
      | some x =>
        rw [e2] at hr
        simp only [Option.map_some, Option.some.injEq] at hr
        subst hr
        have hbase : s.base = s0.H.length := by rw [hkp.1, hb0]
        have hle : s0.H.length ≤ s.H.length := by rw [← hbase]; exact h.base
        have hbok : BaseOK s.H s0.H.length := by rw [← hbase]; exact h.bok
        have hkl := cut_KL (n := s0.H.length) h0 rfl hk h.inv
        have hst := cut_Step (H := s.H) (n := s0.H.length) hs
        have hrep2 := frz_rep (n := s0.H.length) h.inv 8 hrep e2
        have hno : noLp x = true := noLp_frozen e2
        refine ⟨(K.cut s.H s0.H.length).withSl fun _ => none, ⟨hkl.n, hkl.vb, hkl.ver, hkl.rv, hkl.fz, hkl.fm⟩, rfl, ⟨hst.os, hst.tape, hst.output, hst.size, hst.kept, fun b hb q => hst.owned b hb q, fun _ _ q => (by cases q), fun b hb q1 q2 => hst.fz b hb q1 q2, fun b hb q1 q2 => hst.fm b hb q1 q2, hst.fzx⟩, inv_slots (h.inv.cut hle hbok) _, keeps_post hkp hb0 hle, v, rfl, Rep.slots _ hrep2 hno⟩

theorem call_sound {P : Program} {F : Nat → Option Fun} {N : Nat} (hF : ∀ f x, F f = some x → FunOK P f x) : ∀ d, RhoOK P (call F N d)
  | 0 => fun f args H r h => by simp [call] at h
  | d + 1 => by
    intro f args H r h K w cargs hi hsl hr hn
    simp only [call] at h
    cases hf : F f with
    | none => rw [hf] at h; simp at h
    | some x =>
      rw [hf] at h
      have hx := hF f x hf
      cases x with
      | prim p => exact hx args H r h K w cargs hi hsl hr hn
      | code fn =>
        simp only at h
        obtain ⟨S, cd, hc, hD⟩ := hx
        have hρ := call_sound (N := N) hF d
        unfold chkFun at hc
        split at hc
        · rename_i func hfunc
          split at hc
          · rename_i c hbody
            simp only [Bool.and_eq_true, decide_eq_true_eq] at hc
            obtain ⟨⟨⟨c1, c2⟩, c3⟩, c4⟩ := hc
            refine ⟨⟨func, c, hfunc, hbody, c1⟩, calls_of_wp hfunc hbody (Code.wp_mono (fun e a' w' q => ?_) (exec_sound hρ (hD _ hρ) c4 (entry_rel hi hsl hr hn fn.n _ (by rw [c2]; simp)) h))⟩
            cases e with
            | normal =>
              obtain ⟨s', K', q1, q2, q3, q4, q5⟩ := q
              obtain ⟨v, k1, k2⟩ := fin_sound (s0 := ⟨args ++ List.replicate (fn.n - args.length) .undef, H, H.length⟩) hi rfl q2 q3 q4 q5 hsl c3 q1
              exact ⟨q4.d, v, k1, k2⟩
            | ret =>
              obtain ⟨s', K', q1, q2, q3, q4, q5⟩ := q
              obtain ⟨v, k1, k2⟩ := fin_sound (s0 := ⟨args ++ List.replicate (fn.n - args.length) .undef, H, H.length⟩) hi rfl q2 q3 q4 q5 hsl c3 q1
              exact ⟨q4.d, v, k1, k2⟩
            | exit id =>
              obtain ⟨s', K', q1, _⟩ := q
              simp at q1
            | panic ch =>
              obtain ⟨pv, v, s', K', rfl, q1, q2, q3, q4, q5, q6, q7⟩ := q
              simp only at q1
              split at q1
              · rename_i hp
                simp only [Option.some.injEq] at q1
                subst q1
                refine ⟨q2, ?_⟩
                have hle : H.length ≤ s'.H.length := by
                  have h1 := q3.n
                  rw [hi.n, q5.n] at h1
                  exact h1
                have hbok : BaseOK s'.H H.length := q7.2 H.length (Nat.le_refl _) (baseOK_all hi)
                have hkl := cut_KL (n := H.length) hi rfl q3 q5
                have hst := cut_Step (H := s'.H) (n := H.length) q4
                exact ⟨(K'.cut s'.H H.length).withSl fun _ => none, ⟨hkl.n, hkl.vb, hkl.ver, hkl.rv, hkl.fz, hkl.fm⟩, rfl, ⟨hst.os, hst.tape, hst.output, hst.size, hst.kept, fun b hb q => hst.owned b hb q, fun _ _ q => (by cases q), fun b hb q1 q2 => hst.fz b hb q1 q2, fun b hb q1 q2 => hst.fm b hb q1 q2, hst.fzx⟩, inv_slots (q5.cut hle hbok) _, fun b hb q => (q7.2 b hb q).take hle, pv, rfl, Rep.slots _ (cut_pure q5 q6 hp) (noLp_of_pure hp)⟩
              · simp at q1
            | _ => exact q.elim
          · simp at hc
        · simp at hc
end Go.Proofs.YtdhlgbnljhgabaaGreatDoor.AM

/- Operations that agree on what they read. -/
namespace Go.Proofs.YtdhlgbnljhgabaaGreatDoor.AM
open Go

mutual
theorem beq_eq : ∀ {a b : AV}, beq a b = true → a = b
  | .undef, b, h | .nilS, b, h | .nilPtr, b, h | .nilMap, b, h | .nilFunc, b, h | .nilIface, b, h => by cases b <;> first | rfl | (simp [beq] at h; done)
  | .bool _, b, h | .int .., b, h | .str _, b, h | .own .., b, h | .ptr .., b, h | .rptr .., b, h | .lptr .., b, h | .map _, b, h => by
    cases b <;> first | (simp [beq] at h; done) | (simp only [beq, Bool.and_eq_true, decide_eq_true_eq, beq_iff_eq] at h; simp [h])
  | .list l n, b, h | .fptr l n, b, h => by
    cases b <;> first | (simp [beq] at h; done) | (simp only [beq, Bool.and_eq_true, decide_eq_true_eq] at h; rw [beqL_eq h.1, h.2])
  | .lvar l, b, h | .fmap l, b, h | .agg l, b, h | .tuple l, b, h => by
    cases b <;> first | (simp [beq] at h; done) | (simp only [beq] at h; rw [beqL_eq h])
  | .func f x y, b, h => by
    cases b <;> first | (simp [beq] at h; done) | (simp only [beq, Bool.and_eq_true, decide_eq_true_eq] at h; rw [h.1.1, beqL_eq h.1.2, beqL_eq h.2])
  | .iface t x, b, h => by
    cases b <;> first | (simp [beq] at h; done) | (simp only [beq, Bool.and_eq_true, decide_eq_true_eq] at h; rw [h.1, beq_eq h.2])
theorem beqL_eq : ∀ {a b : List AV}, beqL a b = true → a = b
  | [], [], _ => rfl
  | [], _ :: _, h => by simp [beqL] at h
  | _ :: _, [], h => by simp [beqL] at h
  | x :: a, y :: b, h => by
    simp only [beqL, Bool.and_eq_true] at h
    rw [beq_eq h.1, beqL_eq h.2]
end

def AOp.opds : AOp → List Opd
  | .move x | .boxL x | .boxH x _ | .load _ _ x | .nilCheck x | .un _ x | .conv _ x | .mkIface _ x | .fieldAddr _ x | .field _ _ _ x | .extract x _ | .len _ x | .panic x | .range x | .next x | .makeRow _ _ _ _ x => [x]
  | .pick c a b => [c, a, b]
  | .allocL _ | .allocH .. | .newRow .. | .mkMap => []
  | .mk _ ps => ps.map (·.2.2)
  | .mkList _ _ _ ps => ps.map (·.2)
  | .mkRow _ _ _ _ ps => ps.map (·.2)
  | .store _ a x | .bin _ _ a x | .eqAgg _ _ a x | .indexAddr _ a x | .index _ _ a x | .append _ _ _ a x | .appendS _ a x | .lookup _ _ a x => [a, x]
  | .mkFunc _ f c => f ++ c
  | .mapUpd m k v => [m, k, v]
  | .slice _ x lo hi => x :: (lo.toList ++ hi.toList)
  | .mm _ xs => xs
  | .call f as => f :: as

def OpRes.withT (t : List AV) : OpRes → OpRes
  | .ok v s => .ok v (setT s t)
  | .pan v H => .pan v H
def OpRes.withH (H : Hp) : OpRes → OpRes
  | .ok v s => .ok v (setH s H)
  | .pan v G => .pan v G

theorem map_ev {t t' : List AV} : ∀ {ys : List Opd}, (∀ y ∈ ys, ev t' y = ev t y) → ys.map (ev t') = ys.map (ev t)
  | [], _ => rfl
  | y :: ys, h => by
    rw [List.map_cons, List.map_cons, h y (by simp), map_ev fun z hz => h z (by simp [hz])]

theorem bnd_ev {t t' : List AV} {d : Nat} {o : Option Opd} (h : ∀ y ∈ o.toList, ev t' y = ev t y) : bnd d t' o = bnd d t o := by
  cases o with
  | none => rfl
  | some y => simp only [bnd]; rw [h y (by simp)]

theorem appendV_setT {s : St} {t : List AV} {e sz b m : Nat} {x : AV} {news : List AV} {pn : Bool} : appendV (setT s t) e sz b x m news pn = (appendV s e sz b x m news pn).map (OpRes.withT t) := by
  unfold appendV
  simp only [show (setT s t).base = s.base from rfl, show (setT s t).H = s.H from rfl]
  cases x <;> simp only [Option.map_none]
  · split
    · split <;> rfl
    · rfl
  · split
    · split <;> rename_i hh <;> first | rfl | (simp [hh, OpRes.withT, setH, setT]; done) | (simp only [if_pos hh]; rfl) | (simp only [if_neg hh]; rfl)
    · rfl

/-- Temporaries are asked through the operands alone, but for local structs. -/
theorem opA_setT {ρ : Rho} {op : AOp} {d : Option Nat} {s : St} {t : List AV} (hev : ∀ y ∈ op.opds, ev t y = ev s.t y) (hl : t.length = s.t.length) (hd : ∀ x, d = some x → noVar (t.getD x .undef) = noVar (s.t.getD x .undef))
    (h1 : ∀ sz ag a x off, op = .load sz ag a → ev s.t a = .lptr x off → t.getD x .undef = s.t.getD x .undef) (h2 : ∀ sz a v, op ≠ .store sz a v) : opA ρ op d (setT s t) = (opA ρ op d s).map (OpRes.withT t) := by
  cases op with
  | store sz a v => exact absurd rfl (h2 _ _ _)
  | load sz ag a =>
    have e := hev a (by simp [AOp.opds])
    simp only [opA, setT, e]
    have : loadA { s with t := t } sz ag (ev s.t a) = loadA s sz ag (ev s.t a) := by
      unfold loadA
      cases hq : ev s.t a <;> simp only
      rename_i x off
      rw [h1 _ _ _ _ _ rfl hq]
    rw [this]
    cases loadA s sz ag (ev s.t a) <;> rfl
  | allocL z =>
    cases d with
    | none => rfl
    | some d =>
      simp only [opA, setT, hd d rfl, hl]
      split <;> rfl
  | boxL x =>
    have e := hev x (by simp [AOp.opds])
    cases d with
    | none => rfl
    | some d =>
      simp only [opA, setT, hd d rfl, hl, e]
      split <;> rfl
  | move x | un _ x | conv _ x | mkIface _ x | fieldAddr _ x =>
    have e := hev x (by simp [AOp.opds])
    simp only [opA, setT, e, Option.map_map]
    first | rfl | (congr 1; done)
  | pick c x y =>
    have e1 := hev c (by simp [AOp.opds])
    have e2 := hev x (by simp [AOp.opds])
    have e3 := hev y (by simp [AOp.opds])
    simp only [opA, setT, e1, e2, e3]
    cases ev s.t c <;> rfl
  | allocH z rows =>
    simp only [opA, setT]
    cases withRows z s.H.length rows <;> rfl
  | boxH x rows =>
    have e := hev x (by simp [AOp.opds])
    simp only [opA, setT, e]
    split
    · cases withRows (ev s.t x).cells s.H.length rows <;> rfl
    · rfl
  | newRow => rfl
  | mkMap => rfl
  | mk z ps =>
    have e : ps.map (fun p => (p.1, p.2.1, ev t p.2.2)) = ps.map (fun p => (p.1, p.2.1, ev s.t p.2.2)) := by
      apply List.map_congr_left
      intro p hp
      rw [hev p.2.2 (by simp only [AOp.opds]; exact List.mem_map_of_mem hp)]
    simp only [opA, setT, e]
    cases fillP z (ps.map fun p => (p.1, p.2.1, ev s.t p.2.2)) <;> rfl
  | mkList sz n z ps =>
    have e : ps.map (fun p => (p.1 * sz, sz, ev t p.2)) = ps.map (fun p => (p.1 * sz, sz, ev s.t p.2)) := by
      apply List.map_congr_left
      intro p hp
      rw [hev p.2 (by simp only [AOp.opds]; exact List.mem_map_of_mem hp)]
    simp only [opA, setT, e]
    cases fillP (repZ z n) (ps.map fun p => (p.1 * sz, sz, ev s.t p.2)) with
    | none => rfl
    | some c => simp only [Option.bind_some]; split <;> rfl
  | mkRow el sz n z ps =>
    have e : ps.map (fun p => (p.1 * sz, sz, ev t p.2)) = ps.map (fun p => (p.1 * sz, sz, ev s.t p.2)) := by
      apply List.map_congr_left
      intro p hp
      rw [hev p.2 (by simp only [AOp.opds]; exact List.mem_map_of_mem hp)]
    simp only [opA, setT, e]
    cases fillP (repZ z n) (ps.map fun p => (p.1 * sz, sz, ev s.t p.2)) with
    | none => rfl
    | some c => simp only [Option.bind_some]; split <;> rfl
  | nilCheck x =>
    have e := hev x (by simp [AOp.opds])
    simp only [opA, setT, e]
    split <;> first | rfl | (split <;> rename_i hh <;> first | rfl | (simp only [if_pos hh]; rfl) | (simp only [if_neg hh]; rfl) | (simp [hh, OpRes.withT, setT]; done))
  | bin b ty x y =>
    have e1 := hev x (by simp [AOp.opds])
    have e2 := hev y (by simp [AOp.opds])
    simp only [opA, setT, e1, e2, Option.map_map]
    rfl
  | eqAgg n ks x y =>
    have e1 := hev x (by simp [AOp.opds])
    have e2 := hev y (by simp [AOp.opds])
    simp only [opA, setT, e1, e2]
    split
    · rename_i a b _ _; cases eqLeaves ks a b <;> rfl
    · rfl
  | mkFunc fn f c =>
    have e1 := map_ev (t := s.t) (t' := t) (ys := f) fun y hy => hev y (by simp [AOp.opds, hy])
    have e2 := map_ev (t := s.t) (t' := t) (ys := c) fun y hy => hev y (by simp [AOp.opds, hy])
    simp only [opA, setT, e1, e2]
    rfl
  | mapUpd m k v =>
    have e1 := hev m (by simp [AOp.opds])
    have e2 := hev k (by simp [AOp.opds])
    have e3 := hev v (by simp [AOp.opds])
    simp only [opA, setT, e1, e2, e3]
    split
    · split
      · split
        · split <;> rfl
        · rfl
      · rfl
    · rfl
  | lookup z ok m k =>
    have e1 := hev m (by simp [AOp.opds])
    have e2 := hev k (by simp [AOp.opds])
    simp only [opA, setT, e1, e2]
    split
    · split <;> rfl
    · rfl
  | makeRow el sz bytes z l =>
    have e := hev l (by simp [AOp.opds])
    simp only [opA, setT, e]
    split
    · split <;> rfl
    · rfl
  | slice k x lo hi =>
    have e := hev x (by simp [AOp.opds])
    have e1 := bnd_ev (t := s.t) (t' := t) (d := 0) (o := lo) fun y hy => hev y (by simp [AOp.opds] at hy ⊢; exact .inr (.inl hy))
    have e2 := bnd_ev (t := s.t) (t' := t) (d := lenX k (ev s.t x)) (o := hi) fun y hy => hev y (by simp [AOp.opds] at hy ⊢; exact .inr (.inr hy))
    simp only [opA, setT, e, e1, e2]
    split
    · split
      · simp only [Option.map_map]; rfl
      · rfl
    · rfl
  | field off sz ag x =>
    have e := hev x (by simp [AOp.opds])
    simp only [opA, setT, e]
    split
    · simp only [Option.map_map]; rfl
    · rfl
  | indexAddr k x i =>
    have e1 := hev x (by simp [AOp.opds])
    have e2 := hev i (by simp [AOp.opds])
    simp only [opA, setT, e1, e2, Option.map_map]
    rfl
  | index k ag x i =>
    have e1 := hev x (by simp [AOp.opds])
    have e2 := hev i (by simp [AOp.opds])
    simp only [opA, setT, e1, e2, Option.map_map]
    rfl
  | extract x i =>
    have e := hev x (by simp [AOp.opds])
    simp only [opA, setT, e]
    split
    · simp only [Option.map_map]; rfl
    · rfl
  | len st x =>
    have e := hev x (by simp [AOp.opds])
    simp only [opA, setT, e, Option.map_map]
    rfl
  | mm m xs =>
    have e := map_ev (t := s.t) (t' := t) (ys := xs) fun y hy => hev y (by simpa [AOp.opds] using hy)
    simp only [opA, setT, e]
    split
    · simp only [Option.map_map]; rfl
    · rfl
  | append el sz bytes x y =>
    have e1 := hev x (by simp [AOp.opds])
    have e2 := hev y (by simp [AOp.opds])
    simp only [opA]
    rw [show (setT s t).t = t from rfl, e1, e2, show (setT s t).H = s.H from rfl]
    cases newCells s.H sz (ev s.t y) with
    | none => rfl
    | some q => simp only [Option.bind_some]; exact appendV_setT
  | appendS el x y =>
    have e1 := hev x (by simp [AOp.opds])
    have e2 := hev y (by simp [AOp.opds])
    simp only [opA]
    rw [show (setT s t).t = t from rfl, e1, e2]
    split
    · exact appendV_setT
    · rfl
  | call f as =>
    have e1 := hev f (by simp [AOp.opds])
    have e2 := map_ev (t := s.t) (t' := t) (ys := as) fun y hy => hev y (by simp [AOp.opds, hy])
    simp only [opA, setT, e1, e2]
    split
    · rename_i g first cap _
      cases viewL (first ++ as.map (ev s.t) ++ cap) s.H with
      | none => rfl
      | some q =>
        simp only [Option.bind_some]
        split <;> rfl
    · rfl
  | panic x =>
    have e := hev x (by simp [AOp.opds])
    simp only [opA, setT, e]
    split
    · split <;> rfl
    · rfl
  | range x =>
    have e := hev x (by simp [AOp.opds])
    simp only [opA, setT, e]
    split <;> rfl
  | next x =>
    have e := hev x (by simp [AOp.opds])
    simp only [opA, setT, e]
    split
    · split
      · split <;> rfl
      · rfl
    · rfl

/-- A store reads and writes the slot that it is led to. -/
theorem store_setT {ρ : Rho} {d : Option Nat} {s : St} {t : List AV} {sz : Nat} {a v : Opd} {r : OpRes} (hev : ∀ y ∈ [a, v], ev t y = ev s.t y) (_hl : t.length = s.t.length) (h1 : ∀ x off, ev s.t a = .lptr x off → t.getD x .undef = s.t.getD x .undef)
    (h : opA ρ (.store sz a v) d s = some r) :
    ∃ s1, r = .ok (.tuple []) s1 ∧ ((s1.t = s.t ∧ opA ρ (.store sz a v) d (setT s t) = some (.ok (.tuple []) (setT s1 t))) ∨
      ∃ x off c c', ev s.t a = .lptr x off ∧ s.t.getD x .undef = .lvar c ∧ s1 = setT s (s.t.set x (.lvar c')) ∧ opA ρ (.store sz a v) d (setT s t) = some (.ok (.tuple []) (setT s (t.set x (.lvar c'))))) := by
  have e1 := hev a (by simp)
  have e2 := hev v (by simp)
  simp only [opA] at h ⊢
  rw [show (setT s t).t = t from rfl, e1, e2]
  unfold storeA at h ⊢
  by_cases hc : (ev s.t v).cells.length = sz ∧ cell1L (ev s.t v).cells = true
  · rw [if_pos hc] at h ⊢
    cases hq : ev s.t a <;> simp only [hq] at h ⊢ <;> first | (simp at h; done) | skip
    · rename_i id off
      cases hH : s.H[id]? with
      | none => rw [hH] at h; simp at h
      | some o =>
        rw [hH] at h
        rw [show (setT s t).H = s.H from rfl, hH]
        cases o <;> simp only at h ⊢ <;> first | (simp at h; done) | skip
        rename_i c
        rw [show (setT s t).base = s.base from rfl]
        split at h
        · rename_i hb
          rw [if_pos hb]
          split at h
          · rename_i hb2
            rw [if_pos hb2]
            cases hw : wr c off (ev s.t v).cells with
            | none => rw [hw] at h; simp at h
            | some c' =>
              rw [hw] at h
              simp only [Option.map_some, Option.some.injEq] at h
              subst h
              exact ⟨_, rfl, .inl ⟨rfl, rfl⟩⟩
          · simp at h
        · rename_i hb
          rw [if_neg hb]
          cases hw : wr c off (ev s.t v).cells with
          | none => rw [hw] at h; simp at h
          | some c' =>
            rw [hw] at h
            simp only [Option.map_some, Option.some.injEq] at h
            subst h
            exact ⟨_, rfl, .inl ⟨rfl, rfl⟩⟩
    · rename_i id off n
      rw [show (setT s t).H = s.H from rfl]
      cases hH : rowOf s.H id n with
      | none => rw [hH] at h; simp at h
      | some o =>
        rw [hH] at h
        obtain ⟨ro, p, e, sz', c⟩ := o
        cases ro <;> simp only at h ⊢ <;> first | (simp at h; done) | skip
        split at h
        · rename_i hb
          rw [if_pos hb]
          cases hw : wr c off (ev s.t v).cells with
          | none => rw [hw] at h; simp at h
          | some c' =>
            rw [hw] at h
            simp only [Option.map_some, Option.some.injEq] at h
            subst h
            exact ⟨_, rfl, .inl ⟨rfl, rfl⟩⟩
        · simp at h
    · rename_i x off
      have hx := h1 x off hq
      rw [show (setT s t).t = t from rfl, hx]
      cases hv : s.t.getD x .undef <;> simp only [hv] at h ⊢ <;> first | (simp at h; done) | skip
      rename_i c
      cases hw : wr c off (ev s.t v).cells with
      | none => rw [hw] at h; simp at h
      | some c' =>
        rw [hw] at h
        simp only [Option.map_some, Option.some.injEq] at h
        subst h
        exact ⟨_, rfl, .inr ⟨x, off, c, c', rfl, hv, rfl, rfl⟩⟩
  · rw [if_neg hc] at h
    simp at h
end Go.Proofs.YtdhlgbnljhgabaaGreatDoor.AM

/- Quiet operations: what they leave alone, what they hang on. -/
namespace Go.Proofs.YtdhlgbnljhgabaaGreatDoor.AM
open Go

theorem OpRes.ok_inj {v v' : AV} {s s' : St} (h : OpRes.ok v s = OpRes.ok v' s') : v = v' ∧ s = s' := by cases h; exact ⟨rfl, rfl⟩

theorem map_ok {o : Option AV} {s : St} {r : OpRes} (h : (o.map fun v => OpRes.ok v s) = some r) : ∃ v, o = some v ∧ r = .ok v s := by
  cases o with
  | none => simp at h
  | some v => simp only [Option.map_some, Option.some.injEq] at h; exact ⟨v, rfl, h.symm⟩

/-- A quiet operation leaves the state as it is, and never panics. -/
theorem quiet_state {ρ : Rho} {op : AOp} {d : Option Nat} {s : St} {r : OpRes} (hc : isC op = false) (h : opA ρ op d s = some r) : ∃ v, r = .ok v s := by
  cases op <;> first | (simp [isC] at hc; done) | skip
  case move x => simp only [opA, Option.some.injEq] at h; exact ⟨_, h.symm⟩
  case pick c x y =>
    simp only [opA] at h
    split at h
    · simp only [Option.some.injEq] at h; exact ⟨_, h.symm⟩
    · simp at h
  case allocL z =>
    simp only [opA] at h
    split at h
    · split at h
      · simp only [Option.some.injEq] at h; exact ⟨_, h.symm⟩
      · simp at h
    · simp at h
  case boxL z =>
    simp only [opA] at h
    split at h
    · split at h
      · simp only [Option.some.injEq] at h; exact ⟨_, h.symm⟩
      · simp at h
    · simp at h
  case mkList sz n z ps =>
    simp only [opA] at h
    cases e : fillP (repZ z n) (ps.map fun p => (p.1 * sz, sz, ev s.t p.2)) with
    | none => rw [e] at h; simp at h
    | some c =>
      rw [e] at h
      simp only [Option.bind_some] at h
      split at h
      · simp only [Option.some.injEq] at h; exact ⟨_, h.symm⟩
      · simp at h
  case nilCheck x =>
    simp only [opA] at h
    split at h <;> first | (simp at h; done) | (simp only [Option.some.injEq] at h; exact ⟨_, h.symm⟩) | skip
    split at h
    · simp only [Option.some.injEq] at h; exact ⟨_, h.symm⟩
    · simp at h
  case eqAgg n ks x y =>
    simp only [opA] at h
    split at h
    · rename_i a b _ _
      cases e : eqLeaves ks a b with
      | none => rw [e] at h; simp at h
      | some q => rw [e] at h; simp only [Option.map_some, Option.some.injEq] at h; exact ⟨_, h.symm⟩
    · simp at h
  case slice k x lo hi =>
    simp only [opA] at h
    split at h
    · split at h
      · obtain ⟨v, _, e⟩ := map_ok h; exact ⟨v, e⟩
      · simp at h
    · simp at h
  case field off sz ag x =>
    simp only [opA] at h
    split at h
    · obtain ⟨v, _, e⟩ := map_ok h; exact ⟨v, e⟩
    · simp at h
  case extract x i =>
    simp only [opA] at h
    split at h
    · obtain ⟨v, _, e⟩ := map_ok h; exact ⟨v, e⟩
    · simp at h
  case mm m xs =>
    simp only [opA] at h
    split at h
    · obtain ⟨v, _, e⟩ := map_ok h; exact ⟨v, e⟩
    · simp at h
  all_goals
    simp only [opA] at h
    obtain ⟨v, _, e⟩ := map_ok h
    exact ⟨v, e⟩

/-- Where no heap object is asked, the heap is the same to it. -/
theorem quiet_heap {ρ : Rho} {op : AOp} {d : Option Nat} {s : St} {H : Hp} (hc : isC op = false) (hh : isH s.t op = false) : opA ρ op d (setH s H) = (opA ρ op d s).map (OpRes.withH H) := by
  have hmap : ∀ (o : Option AV), (o.map fun v => OpRes.ok v (setH s H)) = (o.map fun v => OpRes.ok v s).map (OpRes.withH H) := fun o => by cases o <;> rfl
  cases op <;> first | (simp [isC] at hc; done) | skip
  case move x => rfl
  case pick c x y =>
    simp only [opA, show (setH s H).t = s.t from rfl]
    split <;> rfl
  case allocL z =>
    simp only [opA, show (setH s H).t = s.t from rfl]
    split
    · split <;> rfl
    · rfl
  case boxL z =>
    simp only [opA, show (setH s H).t = s.t from rfl]
    split
    · split <;> rfl
    · rfl
  case mk z ps => simp only [opA]; exact hmap _
  case bin => simp only [opA]; exact hmap _
  case un => simp only [opA]; exact hmap _
  case mkIface t x => rfl
  case mkFunc fn f c => rfl
  case index => simp only [opA]; exact hmap _
  case conv k x =>
    simp only [isH] at hh
    simp only [opA, show (setH s H).t = s.t from rfl, show (setH s H).H = H from rfl]
    have : convV k (ev s.t x) H = convV k (ev s.t x) s.H := by
      unfold convV
      cases k <;> cases hq : ev s.t x <;> first | rfl | (rw [hq] at hh; simp [heapyV] at hh)
    rw [this]
    exact hmap _
  case mkList sz n z ps =>
    simp only [opA, show (setH s H).t = s.t from rfl]
    cases fillP (repZ z n) (ps.map fun p => (p.1 * sz, sz, ev s.t p.2)) with
    | none => rfl
    | some c => simp only [Option.bind_some]; split <;> rfl
  case eqAgg n ks x y =>
    simp only [opA, show (setH s H).t = s.t from rfl]
    split
    · rename_i a b _ _; cases eqLeaves ks a b <;> rfl
    · rfl
  case slice k x lo hi =>
    simp only [opA, show (setH s H).t = s.t from rfl]
    split
    · split
      · exact hmap _
      · rfl
    · rfl
  case field off sz ag x =>
    simp only [opA, show (setH s H).t = s.t from rfl]
    split
    · exact hmap _
    · rfl
  case extract x i =>
    simp only [opA, show (setH s H).t = s.t from rfl]
    split
    · exact hmap _
    · rfl
  case mm m xs =>
    simp only [opA, show (setH s H).t = s.t from rfl]
    split
    · exact hmap _
    · rfl
  case load sz ag a =>
    simp only [isH] at hh
    simp only [opA, show (setH s H).t = s.t from rfl]
    have : loadA (setH s H) sz ag (ev s.t a) = loadA s sz ag (ev s.t a) := by
      unfold loadA
      cases hq : ev s.t a <;> first | rfl | (rw [hq] at hh; simp [heapyV] at hh)
    rw [this]
    exact hmap _
  case nilCheck x =>
    simp only [isH] at hh
    simp only [opA, show (setH s H).t = s.t from rfl]
    cases hq : ev s.t x <;> first | (rw [hq] at hh; simp [heapyV] at hh; done) | rfl | skip
    rename_i fn a b
    cases fn <;> rfl
  case fieldAddr off x =>
    simp only [isH] at hh
    simp only [opA, show (setH s H).t = s.t from rfl, show (setH s H).H = H from rfl]
    have : offBy H off (ev s.t x) = offBy s.H off (ev s.t x) := by
      unfold offBy
      cases hq : ev s.t x <;> first | rfl | (rw [hq] at hh; simp [heapyV] at hh)
    rw [this]
    exact hmap _
  case indexAddr k x i =>
    simp only [isH] at hh
    simp only [opA, show (setH s H).t = s.t from rfl, show (setH s H).H = H from rfl]
    have : indexA H k (ev s.t x) (ev s.t i) = indexA s.H k (ev s.t x) (ev s.t i) := by
      unfold indexA
      cases ev s.t i <;> try rfl
      cases k <;> cases hq : ev s.t x <;> first | rfl | (rw [hq] at hh; simp [heapyV] at hh)
    rw [this]
    exact hmap _
  case len st x =>
    simp only [isH] at hh
    simp only [opA, show (setH s H).t = s.t from rfl, show (setH s H).H = H from rfl]
    have : lenV st H (ev s.t x) = lenV st s.H (ev s.t x) := by
      unfold lenV
      cases st <;> cases hq : ev s.t x <;> first | rfl | (rw [hq] at hh; simp [heapyV] at hh)
    rw [this]
    exact hmap _

theorem appendV_base {s s1 : St} {e sz b m : Nat} {x v : AV} {news : List AV} {pn : Bool} (h : appendV s e sz b x m news pn = some (.ok v s1)) : s1.base = s.base := by
  unfold appendV at h
  split at h
  · split at h
    · split at h
      · simp only [Option.some.injEq] at h; cases h; rfl
      · simp only [Option.some.injEq] at h; cases h; rfl
    · simp at h
  · split at h
    · split at h
      · simp only [Option.some.injEq] at h; cases h; rfl
      · simp at h
    · simp at h
  · simp at h

theorem storeA_base {s s1 : St} {sz : Nat} {a x : AV} (h : storeA s sz a x = some s1) : s1.base = s.base := by
  unfold storeA at h
  by_cases hc : x.cells.length = sz ∧ cell1L x.cells = true
  · rw [if_pos hc] at h
    have fin : ∀ {o : Option (List AV)} {f : List AV → St}, o.map f = some s1 → (∀ c, (f c).base = s.base) → s1.base = s.base := fun {o f} e hf => by
      cases o with
      | none => simp at e
      | some c => simp only [Option.map_some, Option.some.injEq] at e; rw [← e]; exact hf c
    cases a <;> simp only at h <;> first | (simp at h; done) | skip
    · rename_i id off
      cases hH : s.H[id]? with
      | none => rw [hH] at h; simp at h
      | some o =>
        rw [hH] at h
        cases o <;> simp only at h <;> first | (simp at h; done) | skip
        split at h
        · split at h
          · exact fin h (fun _ => rfl)
          · simp at h
        · exact fin h (fun _ => rfl)
    · rename_i id off n
      cases hH : rowOf s.H id n with
      | none => rw [hH] at h; simp at h
      | some o =>
        rw [hH] at h
        obtain ⟨ro, p, e, sz', c⟩ := o
        cases ro <;> simp only at h <;> first | (simp at h; done) | skip
        split at h
        · exact fin h (fun _ => rfl)
        · simp at h
    · rename_i y off
      cases hv : s.t.getD y .undef <;> simp only [hv] at h <;> first | (simp at h; done) | skip
      exact fin h (fun _ => rfl)
  · rw [if_neg hc] at h
    simp at h

theorem base_same {ρ : Rho} {op : AOp} {d : Option Nat} {s s1 : St} {v : AV} (h : opA ρ op d s = some (.ok v s1)) : s1.base = s.base := by
  by_cases hc : isC op = false
  · obtain ⟨v', e⟩ := quiet_state hc h
    cases e; rfl
  cases op <;> first | (simp [isC] at hc; done) | skip
  case allocH z rows =>
    simp only [opA] at h
    cases e : withRows z s.H.length rows with
    | none => rw [e] at h; simp at h
    | some q => rw [e] at h; simp only [Option.map_some, Option.some.injEq] at h; cases h; rfl
  case boxH x rows =>
    simp only [opA] at h
    split at h
    · cases e : withRows (ev s.t x).cells s.H.length rows with
      | none => rw [e] at h; simp at h
      | some q => rw [e] at h; simp only [Option.map_some, Option.some.injEq] at h; cases h; rfl
    · simp at h
  case newRow => simp only [opA, Option.some.injEq] at h; cases h; rfl
  case mkMap => simp only [opA, Option.some.injEq] at h; cases h; rfl
  case mkRow el sz n z ps =>
    simp only [opA] at h
    cases e : fillP (repZ z n) (ps.map fun p => (p.1 * sz, sz, ev s.t p.2)) with
    | none => rw [e] at h; simp at h
    | some c =>
      rw [e] at h
      simp only [Option.bind_some] at h
      split at h
      · simp only [Option.some.injEq] at h; cases h; rfl
      · simp at h
  case store sz a x =>
    simp only [opA] at h
    cases e : storeA s sz (ev s.t a) (ev s.t x) with
    | none => rw [e] at h; simp at h
    | some s' =>
      rw [e] at h
      simp only [Option.map_some, Option.some.injEq] at h
      cases h
      exact storeA_base e
  case mapUpd m k x =>
    simp only [opA] at h
    split at h
    · split at h
      · split at h
        · split at h
          · simp only [Option.some.injEq] at h; cases h; rfl
          · simp at h
        · simp at h
      · simp at h
    · simp at h
  case lookup z ok m k =>
    simp only [opA] at h
    split at h
    · split at h <;> first | (simp at h; done) | (simp only [Option.some.injEq] at h; cases h; rfl)
    · simp at h
  case makeRow =>
    simp only [opA] at h
    split at h
    · split at h
      · simp only [Option.some.injEq] at h; cases h; rfl
      · simp at h
    · simp at h
  case append el sz bytes x y =>
    simp only [opA] at h
    cases e : newCells s.H sz (ev s.t y) with
    | none => rw [e] at h; simp at h
    | some q => rw [e] at h; exact appendV_base h
  case appendS el x y =>
    simp only [opA] at h
    split at h
    · exact appendV_base h
    · simp at h
  case call f as =>
    simp only [opA] at h
    split at h
    · rename_i g first cap _
      cases e : viewL (first ++ as.map (ev s.t) ++ cap) s.H with
      | none => rw [e] at h; simp at h
      | some q =>
        rw [e] at h
        simp only [Option.bind_some] at h
        split at h
        · simp only [Option.some.injEq] at h; cases h; rfl
        · simp only [Option.some.injEq] at h; cases h
        · simp at h
    · simp at h
  case panic x =>
    simp only [opA] at h
    split at h
    · split at h
      · simp only [Option.some.injEq] at h; cases h
      · simp at h
    · simp at h
  case range x =>
    simp only [opA] at h
    split at h
    · simp only [Option.some.injEq] at h; cases h; rfl
    · simp at h
  case next x =>
    simp only [opA] at h
    split at h
    · split at h
      · split at h
        · simp only [Option.some.injEq] at h; cases h; rfl
        · simp only [Option.some.injEq] at h; cases h; rfl
      · simp at h
    · simp at h

/-- Temporaries change by stores into local structs alone. -/
theorem tmps_same {ρ : Rho} {op : AOp} {d : Option Nat} {s s1 : St} {v : AV} (h : opA ρ op d s = some (.ok v s1)) :
    s1.t = s.t ∨ ∃ sz a y x off c c', op = .store sz a y ∧ ev s.t a = .lptr x off ∧ s.t.getD x .undef = .lvar c ∧ s1 = setT s (s.t.set x (.lvar c')) := by
  by_cases hs : ∃ sz a y, op = .store sz a y
  · obtain ⟨sz, a, y, rfl⟩ := hs
    obtain ⟨s2, e, q⟩ := store_setT (t := s.t) (fun _ _ => rfl) rfl (fun _ _ _ => rfl) h
    cases e
    rcases q with ⟨q1, q2⟩ | ⟨x, off, c, c', q1, q2, q3, q4⟩
    · exact .inl q1
    · exact .inr ⟨sz, a, y, x, off, c, c', rfl, q1, q2, q3⟩
  · have := opA_setT (ρ := ρ) (op := op) (d := d) (s := s) (t := s.t) (fun _ _ => rfl) rfl (fun _ _ => rfl) (fun _ _ _ _ _ _ _ => rfl) (fun sz a y e => hs ⟨sz, a, y, e⟩)
    rw [show setT s s.t = s from rfl, h] at this
    simp only [Option.map_some, Option.some.injEq, OpRes.withT] at this
    obtain ⟨_, e⟩ := OpRes.ok_inj this
    exact .inl (by rw [e]; rfl)
end Go.Proofs.YtdhlgbnljhgabaaGreatDoor.AM

/- A region that draws its order: what is asked of its operations, and what its run in text order tells. -/
namespace Go.Proofs.YtdhlgbnljhgabaaGreatDoor.AM
open Go

def opdT : Opd → List Nat
  | .tmp i => [i]
  | _ => []

def AOper.tmps (o : AOper) : List Nat := o.op.opds.flatMap opdT ++ (match o.guard with | some (g, _) => [g] | none => [])

def memN (l : List Nat) : Option Nat → Bool
  | some d => l.contains d
  | none => false

def sameN : Option Nat → Option Nat → Bool
  | some x, some y => decide (x = y)
  | _, _ => false

/-- Two operations, the first at a place ahead of the other's in the text: they are bound in this order, or neither asks for the other. -/
def pairOK (i : Nat) (a b : DOper) : Bool :=
  !sameN a.o.dst b.o.dst && !sameN a.slot b.o.dst &&
  (b.pre.contains i || (!memN b.o.tmps a.o.dst && !memN a.o.tmps b.o.dst && !(isC a.o.op && isC b.o.op) && !((isC a.o.op || isC b.o.op) && sameN a.slot b.slot) && !sameN a.o.dst b.slot))

def pairsOK : Nat → List DOper → Bool
  | _, [] => true
  | i, a :: l => !sameN a.slot a.o.dst && l.all (pairOK i a) && pairsOK (i + 1) l

def preAt (dos : List DOper) (i : Nat) (o : Oper) (d : DOper) : Bool :=
  (o.after.toList.all fun e => !Region.binds .any e || decide (e.on < i)) &&
  d.pre.all fun p => o.after.toList.any fun e => Region.binds .any e && (decide (e.on = p) || (match dos[e.on]? with | some q => q.pre.contains p | none => false))

def preL (dos : List DOper) : Nat → List Oper → List DOper → Bool
  | _, [], [] => true
  | i, o :: os, d :: ds => preAt dos i o d && preL dos (i + 1) os ds
  | _, _, _ => false

def chkD (P : Program) (S : Nat → Bool) (ops : Array Oper) (dos : List DOper) : Bool :=
  P.follows .mixedOrders && chkOs P S ops ops.toList (dos.map (·.o)) && preL dos 0 ops.toList dos && pairsOK 0 dos

theorem sameN_false {a b : Option Nat} (h : sameN a b = false) : ∀ x, a = some x → b ≠ some x := by
  intro x e1 e2
  subst e1 e2
  simp [sameN] at h
theorem memN_false {l : List Nat} {a : Option Nat} (h : memN l a = false) : ∀ x, a = some x → x ∉ l := by
  intro x e
  subst e
  simpa [memN] using h

theorem pairsOK_get : ∀ {l : List DOper} {n : Nat}, pairsOK n l = true → (∀ (i : Nat) (a : DOper), l[i]? = some a → sameN a.slot a.o.dst = false) ∧ ∀ (i j : Nat) (a b : DOper), i < j → l[i]? = some a → l[j]? = some b → pairOK (n + i) a b = true
  | [], n, _ => ⟨fun i a e => by simp at e, fun i j a b _ e => by simp at e⟩
  | c :: l, n, h => by
    simp only [pairsOK, Bool.and_eq_true, Bool.not_eq_true', List.all_eq_true] at h
    obtain ⟨⟨h1, h2⟩, h3⟩ := h
    obtain ⟨k1, k2⟩ := pairsOK_get h3
    refine ⟨fun i a e => ?_, fun i j a b hij e1 e2 => ?_⟩
    · cases i with
      | zero => simp at e; subst e; exact h1
      | succ i => exact k1 i a (by simpa using e)
    · cases j with
      | zero => omega
      | succ j =>
        have e2' : l[j]? = some b := by simpa using e2
        cases i with
        | zero => simp at e1; subst e1; exact h2 b (List.mem_of_getElem? e2')
        | succ i => have := k2 i j a b (by omega) (by simpa using e1) e2'; rwa [show n + 1 + i = n + (i + 1) by omega] at this

theorem preL_get {dos : List DOper} : ∀ {os : List Oper} {ds : List DOper} {n : Nat}, preL dos n os ds = true → ∀ (i : Nat) (o : Oper) (d : DOper), os[i]? = some o → ds[i]? = some d → preAt dos (n + i) o d = true
  | [], [], n, _, i, o, d, e, _ => by simp at e
  | o' :: os, d' :: ds, n, h, i, o, d, e1, e2 => by
    simp only [preL, Bool.and_eq_true] at h
    cases i with
    | zero => simp at e1 e2; subst e1 e2; exact h.1
    | succ i => have := preL_get h.2 i o d (by simpa using e1) (by simpa using e2); rwa [show n + 1 + i = n + (i + 1) by omega] at this
  | [], _ :: _, n, h, _, _, _, _, _ => by simp [preL] at h
  | _ :: _, [], n, h, _, _, _, _, _ => by simp [preL] at h

theorem chkOs_get {P : Program} {S : Nat → Bool} {ops : Array Oper} : ∀ {os : List Oper} {ds : List DOper}, chkOs P S ops os (ds.map (·.o)) = true → os.length = ds.length ∧ ∀ (i : Nat) (o : Oper) (d : DOper), os[i]? = some o → ds[i]? = some d → chkO P S ops o d.o = true
  | [], [], _ => ⟨rfl, fun i o d e => by simp at e⟩
  | o' :: os, d' :: ds, h => by
    simp only [List.map_cons, chkOs, Bool.and_eq_true] at h
    obtain ⟨k1, k2⟩ := chkOs_get h.2
    refine ⟨by simp [k1], fun i o d e1 e2 => ?_⟩
    cases i with
    | zero => simp at e1 e2; subst e1 e2; exact h.1
    | succ i => exact k2 i o d (by simpa using e1) (by simpa using e2)
  | [], _ :: _, h => by simp [chkOs] at h
  | _ :: _, [], h => by simp [chkOs] at h

def scons {α : Type} (x : α) (f : Nat → α) : Nat → α
  | 0 => x
  | n + 1 => f n

/-- What the run in text order tells. -/
structure Tr (ρ : Rho) (dos : List DOper) (i0 : Nat) (ld : List (Nat × Ld)) (sn : List (Nat × Hp)) (s : St) (k : St → R) (kp : AV → Hp → R) (r : Out × Hp) (m : Nat) (st mid : Nat → St) (vl : Nat → AV) (wt : Nat → Bool) : Prop where
  hm : m ≤ dos.length
  st0 : st 0 = s
  step : ∀ i o, i < m → dos[i]? = some o → want (st i).t o.o.guard = some (wt i) ∧ st (i + 1) = put (mid i) o.o.dst (vl i) ∧ (wt i = false → mid i = st i ∧ vl i = .tuple []) ∧ (wt i = true → slotOK (st i).t o = true ∧ opA ρ o.o.op o.o.dst (st i) = some (.ok (vl i) (mid i)))
  ldck : ∀ i j a b, i < j → j < m → dos[i]? = some a → dos[j]? = some b → wt i = true → wt j = true → isC a.o.op = false → isH (st i).t a.o.op = true → isC b.o.op = true → b.pre.contains (i0 + i) = true ∨ again ρ (mid j).H ⟨a.o.op, a.o.dst, st i, vl i⟩ = true
  snck : ∀ i j a b, i < j → j < m → dos[i]? = some a → dos[j]? = some b → wt i = true → wt j = true → isC a.o.op = true → isC b.o.op = false → isH (st j).t b.o.op = true → b.pre.contains (i0 + i) = true ∨ again ρ (st i).H ⟨b.o.op, b.o.dst, st j, vl j⟩ = true
  ldex : ∀ j b x q, j < m → dos[j]? = some b → wt j = true → isC b.o.op = true → (x, q) ∈ ld → b.pre.contains x = true ∨ again ρ (mid j).H q = true
  snex : ∀ j b x H, j < m → dos[j]? = some b → wt j = true → isC b.o.op = false → isH (st j).t b.o.op = true → (x, H) ∈ sn → b.pre.contains x = true ∨ again ρ H ⟨b.o.op, b.o.dst, st j, vl j⟩ = true
  fin : (m = dos.length ∧ k (st m) = some r) ∨ (∃ o v H, dos[m]? = some o ∧ want (st m).t o.o.guard = some true ∧ slotOK (st m).t o = true ∧ opA ρ o.o.op o.o.dst (st m) = some (.pan v H) ∧ kp v H = some r ∧ ∀ j o', m < j → dos[j]? = some o' → o'.pre.contains (i0 + m) = true)

theorem againL_mem {ρ : Rho} {H : Hp} {pre : List Nat} : ∀ {l : List (Nat × Ld)}, againL ρ H pre l = true → ∀ x q, (x, q) ∈ l → pre.contains x = true ∨ again ρ H q = true
  | [], _, x, q, h => by simp at h
  | (y, p) :: l, h, x, q, hm => by
    simp only [againL, Bool.and_eq_true, Bool.or_eq_true] at h
    cases hm with
    | head => exact h.1
    | tail _ hm => exact againL_mem h.2 x q hm
theorem againS_mem {ρ : Rho} {pre : List Nat} {q : Ld} : ∀ {l : List (Nat × Hp)}, againS ρ pre q l = true → ∀ x H, (x, H) ∈ l → pre.contains x = true ∨ again ρ H q = true
  | [], _, x, H, h => by simp at h
  | (y, p) :: l, h, x, H, hm => by
    simp only [againS, Bool.and_eq_true, Bool.or_eq_true] at h
    cases hm with
    | head => exact h.1
    | tail _ hm => exact againS_mem h.2 x H hm
theorem allPre_get {n : Nat} : ∀ {l : List DOper}, allPre n l = true → ∀ (j : Nat) o, l[j]? = some o → o.pre.contains n = true
  | [], _, j, o, e => by simp at e
  | a :: l, h, j, o, e => by
    simp only [allPre, Bool.and_eq_true] at h
    cases j with
    | zero => simp at e; subst e; exact h.1
    | succ j => exact allPre_get h.2 j o (by simpa using e)

theorem Tr.cons {ρ : Rho} {o : DOper} {os : List DOper} {i0 : Nat} {ld ld' : List (Nat × Ld)} {sn sn' : List (Nat × Hp)} {s s1 : St} {v : AV} {w : Bool} {k : St → R} {kp : AV → Hp → R} {r : Out × Hp} {m : Nat} {st mid : Nat → St} {vl : Nat → AV} {wt : Nat → Bool}
    (t : Tr ρ os (i0 + 1) ld' sn' (put s1 o.o.dst v) k kp r m st mid vl wt) (hld : ∀ x, x ∈ ld → x ∈ ld') (hsn : ∀ x, x ∈ sn → x ∈ sn')
    (h1 : want s.t o.o.guard = some w) (h2 : w = false → s1 = s ∧ v = .tuple []) (h3 : w = true → slotOK s.t o = true ∧ opA ρ o.o.op o.o.dst s = some (.ok v s1))
    (h4 : w = true → isC o.o.op = false → isH s.t o.o.op = true → (i0, (⟨o.o.op, o.o.dst, s, v⟩ : Ld)) ∈ ld') (h5 : w = true → isC o.o.op = true → (i0, s.H) ∈ sn')
    (h6 : w = true → isC o.o.op = true → ∀ x q, (x, q) ∈ ld → o.pre.contains x = true ∨ again ρ s1.H q = true) (h7 : w = true → isC o.o.op = false → isH s.t o.o.op = true → ∀ x H, (x, H) ∈ sn → o.pre.contains x = true ∨ again ρ H ⟨o.o.op, o.o.dst, s, v⟩ = true) :
    Tr ρ (o :: os) i0 ld sn s k kp r (m + 1) (scons s st) (scons s1 mid) (scons v vl) (scons w wt) where
  hm := by have := t.hm; simp; omega
  st0 := rfl
  step i a hi e := by
    cases i with
    | zero => simp at e; subst e; exact ⟨h1, t.st0, h2, h3⟩
    | succ i => exact t.step i a (by omega) (by simpa using e)
  ldck i j a b hij hj e1 e2 w1 w2 c1 c2 c3 := by
    cases j with
    | zero => omega
    | succ j =>
      cases i with
      | zero => simp at e1; subst e1; exact t.ldex j b _ _ (by omega) (by simpa using e2) w2 c3 (h4 w1 c1 c2)
      | succ i => have := t.ldck i j a b (by omega) (by omega) (by simpa using e1) (by simpa using e2) w1 w2 c1 c2 c3; rwa [show i0 + 1 + i = i0 + (i + 1) by omega] at this
  snck i j a b hij hj e1 e2 w1 w2 c1 c2 c3 := by
    cases j with
    | zero => omega
    | succ j =>
      cases i with
      | zero => simp at e1; subst e1; exact t.snex j b _ _ (by omega) (by simpa using e2) w2 c2 c3 (h5 w1 c1)
      | succ i => have := t.snck i j a b (by omega) (by omega) (by simpa using e1) (by simpa using e2) w1 w2 c1 c2 c3; rwa [show i0 + 1 + i = i0 + (i + 1) by omega] at this
  ldex j b x q hj e w1 c1 hq := by
    cases j with
    | zero => simp at e; subst e; exact h6 w1 c1 x q hq
    | succ j => exact t.ldex j b x q (by omega) (by simpa using e) w1 c1 (hld _ hq)
  snex j b x H hj e w1 c1 c2 hq := by
    cases j with
    | zero => simp at e; subst e; exact h7 w1 c1 c2 x H hq
    | succ j => exact t.snex j b x H (by omega) (by simpa using e) w1 c1 c2 (hsn _ hq)
  fin := by
    rcases t.fin with ⟨q1, q2⟩ | ⟨a, pv, H, q1, q2, q3, q4, q5, q6⟩
    · exact .inl ⟨by simp [q1], q2⟩
    · refine .inr ⟨a, pv, H, by simpa using q1, q2, q3, q4, q5, fun j o' hj e => ?_⟩
      cases j with
      | zero => omega
      | succ j => have := q6 j o' (by omega) (by simpa using e); rwa [show i0 + 1 + m = i0 + (m + 1) by omega] at this

theorem trace_of {ρ : Rho} {k : St → R} {kp : AV → Hp → R} {r : Out × Hp} : ∀ {os : List DOper} {i0 : Nat} {ld : List (Nat × Ld)} {sn : List (Nat × Hp)} {s : St}, opsD ρ os i0 ld sn s k kp = some r → ∃ m st mid vl wt, Tr ρ os i0 ld sn s k kp r m st mid vl wt
  | [], i0, ld, sn, s, h => ⟨0, fun _ => s, fun _ => s, fun _ => .undef, fun _ => false, ⟨Nat.le_refl _, rfl, fun i o hi => by omega, fun i j a b h1 h2 => by omega, fun i j a b h1 h2 => by omega, fun j b x q h1 => by omega, fun j b x q h1 => by omega, .inl ⟨rfl, h⟩⟩⟩
  | o :: os, i0, ld, sn, s, h => by
    simp only [opsD] at h
    cases hw : want s.t o.o.guard with
    | none => rw [hw] at h; simp at h
    | some w =>
      rw [hw] at h
      cases w with
      | false =>
        simp only [cond_false] at h
        obtain ⟨m, st, mid, vl, wt, t⟩ := trace_of h
        exact ⟨_, _, _, _, _, t.cons (fun _ q => q) (fun _ q => q) hw (fun _ => ⟨rfl, rfl⟩) (by simp) (by simp) (by simp) (by simp) (by simp)⟩
      | true =>
        simp only [cond_true] at h
        cases hs : slotOK s.t o with
        | false => rw [hs] at h; simp at h
        | true =>
          rw [hs] at h
          simp only [cond_true] at h
          cases hr : opA ρ o.o.op o.o.dst s with
          | none => rw [hr] at h; simp at h
          | some res =>
            rw [hr] at h
            cases res with
            | pan v H =>
              simp only at h
              cases ha : allPre i0 os with
              | false => rw [ha] at h; simp at h
              | true =>
                rw [ha] at h
                simp only [cond_true] at h
                refine ⟨0, fun _ => s, fun _ => s, fun _ => .undef, fun _ => false, ⟨Nat.zero_le _, rfl, fun i o hi => by omega, fun i j a b h1 h2 => by omega, fun i j a b h1 h2 => by omega, fun j b x q h1 => by omega, fun j b x q h1 => by omega, .inr ⟨o, v, H, rfl, hw, hs, hr, h, fun j o' hj e => ?_⟩⟩⟩
                cases j with
                | zero => omega
                | succ j => exact allPre_get ha j o' (by simpa using e)
            | ok v s1 =>
              simp only at h
              cases hc : isC o.o.op with
              | true =>
                rw [hc] at h
                simp only [cond_true] at h
                cases hl : againL ρ s1.H o.pre ld with
                | false => rw [hl] at h; simp at h
                | true =>
                  rw [hl] at h
                  simp only [cond_true] at h
                  obtain ⟨m, st, mid, vl, wt, t⟩ := trace_of h
                  exact ⟨_, _, _, _, _, t.cons (fun _ q => q) (fun _ q => List.mem_cons_of_mem _ q) hw (by simp) (fun _ => ⟨hs, hr⟩) (fun _ q => by rw [hc] at q; cases q) (fun _ _ => List.mem_cons_self) (fun _ _ => againL_mem hl) (fun _ q => by rw [hc] at q; cases q)⟩
              | false =>
                rw [hc] at h
                simp only [cond_false] at h
                cases hh : isH s.t o.o.op with
                | true =>
                  rw [hh] at h
                  simp only [cond_true] at h
                  cases hl : againS ρ o.pre ⟨o.o.op, o.o.dst, s, v⟩ sn with
                  | false => rw [hl] at h; simp at h
                  | true =>
                    rw [hl] at h
                    simp only [cond_true] at h
                    obtain ⟨m, st, mid, vl, wt, t⟩ := trace_of h
                    exact ⟨_, _, _, _, _, t.cons (fun _ q => List.mem_cons_of_mem _ q) (fun _ q => q) hw (by simp) (fun _ => ⟨hs, hr⟩) (fun _ _ _ => List.mem_cons_self) (fun _ q => by rw [hc] at q; cases q) (fun _ q => by rw [hc] at q; cases q) (fun _ _ _ => againS_mem hl)⟩
                | false =>
                  rw [hh] at h
                  simp only [cond_false] at h
                  obtain ⟨m, st, mid, vl, wt, t⟩ := trace_of h
                  exact ⟨_, _, _, _, _, t.cons (fun _ q => q) (fun _ q => q) hw (by simp) (fun _ => ⟨hs, hr⟩) (fun _ _ q => by rw [hh] at q; cases q) (fun _ q => by rw [hc] at q; cases q) (fun _ q => by rw [hc] at q; cases q) (fun _ _ q => by rw [hh] at q; cases q)⟩
end Go.Proofs.YtdhlgbnljhgabaaGreatDoor.AM

/- A region that draws its order: the states between. -/
namespace Go.Proofs.YtdhlgbnljhgabaaGreatDoor.AM
open Go

structure Stat (P : Program) (S : Nat → Bool) (ops : Array Oper) (dos : List DOper) : Prop where
  len : ops.size = dos.length
  chk : ∀ (i : Nat) (o : Oper) (d : DOper), ops[i]? = some o → dos[i]? = some d → chkO P S ops o d.o = true
  pre : ∀ (i : Nat) (o : Oper) (d : DOper), ops[i]? = some o → dos[i]? = some d → preAt dos i o d = true
  self : ∀ (i : Nat) (a : DOper), dos[i]? = some a → ∀ x, a.slot = some x → a.o.dst ≠ some x
  dd : ∀ (i j : Nat) (a b : DOper), i < j → dos[i]? = some a → dos[j]? = some b → ∀ x, a.o.dst = some x → b.o.dst ≠ some x
  sd : ∀ (i j : Nat) (a b : DOper), i < j → dos[i]? = some a → dos[j]? = some b → ∀ x, a.slot = some x → b.o.dst ≠ some x
  free : ∀ (i j : Nat) (a b : DOper), i < j → dos[i]? = some a → dos[j]? = some b → i ∈ b.pre ∨ ((∀ x, a.o.dst = some x → x ∉ b.o.tmps) ∧ (∀ x, b.o.dst = some x → x ∉ a.o.tmps) ∧ ¬ (isC a.o.op = true ∧ isC b.o.op = true) ∧ (∀ x, (isC a.o.op = true ∨ isC b.o.op = true) → a.slot = some x → b.slot ≠ some x) ∧ (∀ x, a.o.dst = some x → b.slot ≠ some x))

theorem stat_of {P : Program} {S : Nat → Bool} {ops : Array Oper} {dos : List DOper} (h : chkD P S ops dos = true) : P.follows .mixedOrders = true ∧ Stat P S ops dos := by
  simp only [chkD, Bool.and_eq_true] at h
  obtain ⟨⟨⟨h1, h2⟩, h3⟩, h4⟩ := h
  obtain ⟨k1, k2⟩ := chkOs_get h2
  obtain ⟨l1, l2⟩ := pairsOK_get h4
  have key : ∀ (i j : Nat) (a b : DOper), i < j → dos[i]? = some a → dos[j]? = some b → pairOK i a b = true := fun i j a b hij e1 e2 => by
    have := l2 i j a b hij e1 e2
    rwa [Nat.zero_add] at this
  refine ⟨h1, by simpa using k1, fun i o d e1 e2 => k2 i o d (by simpa using e1) e2, fun i o d e1 e2 => ?_, fun i a e x q => ?_, fun i j a b hij e1 e2 x q => ?_, fun i j a b hij e1 e2 x q => ?_, fun i j a b hij e1 e2 => ?_⟩
  · have := preL_get h3 i o d (by simpa using e1) e2
    rwa [Nat.zero_add] at this
  · exact sameN_false (l1 i a e) x q
  · have := key i j a b hij e1 e2
    simp only [pairOK, Bool.and_eq_true, Bool.not_eq_true'] at this
    exact sameN_false this.1.1 x q
  · have := key i j a b hij e1 e2
    simp only [pairOK, Bool.and_eq_true, Bool.not_eq_true'] at this
    exact sameN_false this.1.2 x q
  · have := key i j a b hij e1 e2
    simp only [pairOK, Bool.and_eq_true, Bool.or_eq_true, Bool.not_eq_true', Bool.and_eq_false_iff, Bool.or_eq_false_iff] at this
    rcases this.2 with q | ⟨⟨⟨⟨q1, q2⟩, q3⟩, q4⟩, q5⟩
    · exact .inl (by simpa using q)
    · refine .inr ⟨fun x q => memN_false q1 x q, fun x q => memN_false q2 x q, fun q => ?_, fun x q1' q => ?_, fun x q => sameN_false q5 x q⟩
      · rcases q3 with q3 | q3
        · rw [q.1] at q3; cases q3
        · rw [q.2] at q3; cases q3
      · rcases q4 with ⟨k1, k2⟩ | q4
        · rcases q1' with q1' | q1'
          · rw [q1'] at k1; cases k1
          · rw [q1'] at k2; cases k2
        · exact sameN_false q4 x q

theorem ev_set_lvar {t : List AV} {x y : Nat} {c c' : List AV} (h : t.getD x .undef = .lvar c) : ev (t.set x (.lvar c')) (.tmp y) = ev t (.tmp y) := by
  simp only [ev, getD_put]
  by_cases q : x = y ∧ x < t.length
  · rw [if_pos q]
    obtain ⟨rfl, _⟩ := q
    rw [h]
  · rw [if_neg q]

theorem ev_get {t t' : List AV} {y : Nat} (h : t.getD y .undef = t'.getD y .undef) : ev t (.tmp y) = ev t' (.tmp y) := by simp only [ev, h]

theorem put_get {s : St} {d : Option Nat} {v : AV} {y : Nat} (h : d ≠ some y) : (put s d v).t.getD y .undef = s.t.getD y .undef := by
  cases d with
  | none => rfl
  | some d =>
    simp only [put, getD_put]
    split
    · rename_i q; exact absurd (by rw [q.1]) h
    · rfl
theorem put_H {s : St} {d : Option Nat} {v : AV} : (put s d v).H = s.H := by cases d <;> rfl
theorem put_base {s : St} {d : Option Nat} {v : AV} : (put s d v).base = s.base := by cases d <;> rfl
theorem put_len {s : St} {d : Option Nat} {v : AV} : (put s d v).t.length = s.t.length := by cases d <;> simp [put]

section
variable {ρ : Rho} {dos : List DOper} {s0 : St} {k : St → R} {kp : AV → Hp → R} {r : Out × Hp} {m : Nat} {st mid : Nat → St} {vl : Nat → AV} {wt : Nat → Bool}

/-- A changing operation that is done. -/
def CW (dos : List DOper) (wt : Nat → Bool) (i : Nat) : Prop := ∃ a, dos[i]? = some a ∧ isC a.o.op = true ∧ wt i = true

theorem mid_t (t : Tr ρ dos 0 [] [] s0 k kp r m st mid vl wt) {i : Nat} {a : DOper} (hi : i < m) (e : dos[i]? = some a) :
    (mid i).base = (st i).base ∧ ((mid i).t = (st i).t ∨ ∃ x c c', wt i = true ∧ isC a.o.op = true ∧ a.slot = some x ∧ (st i).t.getD x .undef = .lvar c ∧ mid i = setT (st i) ((st i).t.set x (.lvar c'))) := by
  obtain ⟨h1, h2, h3, h4⟩ := t.step i a hi e
  cases hw : wt i with
  | false => rw [(h3 hw).1]; exact ⟨rfl, .inl rfl⟩
  | true =>
    obtain ⟨q1, q2⟩ := h4 hw
    refine ⟨base_same q2, ?_⟩
    rcases tmps_same q2 with q | ⟨sz, x, y, z, off, c, c', k1, k2, k3, k4⟩
    · exact .inl q
    · refine .inr ⟨z, c, c', rfl, by rw [k1]; rfl, ?_, k3, k4⟩
      unfold slotOK at q1
      rw [k1] at q1
      simp only [k2] at q1
      simpa using q1

theorem one_get (t : Tr ρ dos 0 [] [] s0 k kp r m st mid vl wt) {i : Nat} {a : DOper} (hi : i < m) (e : dos[i]? = some a) {y : Nat} (hd : a.o.dst ≠ some y) (hs : ¬ (CW dos wt i ∧ a.slot = some y)) : (st (i + 1)).t.getD y .undef = (st i).t.getD y .undef := by
  obtain ⟨_, h2, _, _⟩ := t.step i a hi e
  rw [h2, put_get hd]
  rcases (mid_t t hi e).2 with q | ⟨x, c, c', q1, q2, q3, q4, q5⟩
  · rw [q]
  · rw [q5]
    simp only [setT, getD_put]
    split
    · rename_i q
      obtain ⟨rfl, _⟩ := q
      exact absurd ⟨⟨a, e, q2, q1⟩, q3⟩ hs
    · rfl

theorem one_ev (t : Tr ρ dos 0 [] [] s0 k kp r m st mid vl wt) {i : Nat} {a : DOper} (hi : i < m) (e : dos[i]? = some a) {y : Nat} (hd : a.o.dst ≠ some y) : ev (st (i + 1)).t (.tmp y) = ev (st i).t (.tmp y) := by
  obtain ⟨_, h2, _, _⟩ := t.step i a hi e
  rw [h2, ev_get (put_get hd)]
  rcases (mid_t t hi e).2 with q | ⟨x, c, c', q1, q2, q3, q4, q5⟩
  · rw [q]
  · rw [q5]; exact ev_set_lvar q4

theorem one_H (t : Tr ρ dos 0 [] [] s0 k kp r m st mid vl wt) {i : Nat} (hi : i < m) (hc : ¬ CW dos wt i) : (st (i + 1)).H = (st i).H := by
  have hlt : i < dos.length := Nat.lt_of_lt_of_le hi t.hm
  have e := List.getElem?_eq_getElem hlt
  obtain ⟨_, h2, h3, h4⟩ := t.step i _ hi e
  rw [h2, put_H]
  cases hw : wt i with
  | false => rw [(h3 hw).1]
  | true =>
    obtain ⟨_, q2⟩ := h4 hw
    cases hq : isC (dos[i]).o.op with
    | true => exact absurd ⟨_, e, hq, hw⟩ hc
    | false =>
      obtain ⟨v, q⟩ := quiet_state hq q2
      rw [(OpRes.ok_inj q).2]

theorem one_len (t : Tr ρ dos 0 [] [] s0 k kp r m st mid vl wt) {i : Nat} (hi : i < m) : (st (i + 1)).t.length = (st i).t.length ∧ (st (i + 1)).base = (st i).base := by
  have hlt : i < dos.length := Nat.lt_of_lt_of_le hi t.hm
  have e := List.getElem?_eq_getElem hlt
  obtain ⟨_, h2, _, _⟩ := t.step i _ hi e
  obtain ⟨q1, q2⟩ := mid_t t hi e
  rw [h2, put_len, put_base]
  refine ⟨?_, q1⟩
  rcases q2 with q | ⟨x, c, c', _, _, _, _, q5⟩
  · rw [q]
  · rw [q5]; simp [setT]

theorem many_get (t : Tr ρ dos 0 [] [] s0 k kp r m st mid vl wt) {y j j' : Nat} (hj : j ≤ j') (hm : j' ≤ m) (hd : ∀ i a, j ≤ i → i < j' → dos[i]? = some a → a.o.dst ≠ some y) (hs : ∀ i a, j ≤ i → i < j' → dos[i]? = some a → CW dos wt i → a.slot ≠ some y) :
    (st j').t.getD y .undef = (st j).t.getD y .undef := by
  induction hj with
  | refl => rfl
  | @step n hn ih =>
    have hlt : n < dos.length := Nat.lt_of_lt_of_le (by omega) t.hm
    have e := List.getElem?_eq_getElem hlt
    rw [one_get t (by omega) e (hd n _ hn (Nat.lt_succ_self n) e) (fun q => hs n _ hn (Nat.lt_succ_self n) e q.1 q.2)]
    exact ih (by omega) (fun i a h1 h2 => hd i a h1 (by omega)) (fun i a h1 h2 => hs i a h1 (by omega))

theorem many_ev (t : Tr ρ dos 0 [] [] s0 k kp r m st mid vl wt) {y j j' : Nat} (hj : j ≤ j') (hm : j' ≤ m) (hd : ∀ i a, j ≤ i → i < j' → dos[i]? = some a → a.o.dst ≠ some y) :
    ev (st j').t (.tmp y) = ev (st j).t (.tmp y) := by
  induction hj with
  | refl => rfl
  | @step n hn ih =>
    have hlt : n < dos.length := Nat.lt_of_lt_of_le (by omega) t.hm
    have e := List.getElem?_eq_getElem hlt
    rw [one_ev t (by omega) e (hd n _ hn (Nat.lt_succ_self n) e)]
    exact ih (by omega) (fun i a h1 h2 => hd i a h1 (by omega))

theorem many_H (t : Tr ρ dos 0 [] [] s0 k kp r m st mid vl wt) {j j' : Nat} (hj : j ≤ j') (hm : j' ≤ m) (hc : ∀ i, j ≤ i → i < j' → ¬ CW dos wt i) : (st j').H = (st j).H := by
  induction hj with
  | refl => rfl
  | @step n hn ih =>
    rw [one_H t (by omega) (hc n hn (Nat.lt_succ_self n))]
    exact ih (by omega) (fun i h1 h2 => hc i h1 (by omega))

theorem all_len (t : Tr ρ dos 0 [] [] s0 k kp r m st mid vl wt) : ∀ {j : Nat}, j ≤ m → (st j).t.length = s0.t.length ∧ (st j).base = s0.base
  | 0, _ => by rw [t.st0]; exact ⟨rfl, rfl⟩
  | j + 1, h => by
    obtain ⟨h1, h2⟩ := one_len t (i := j) (by omega)
    obtain ⟨h3, h4⟩ := all_len t (j := j) (by omega)
    exact ⟨by rw [h1, h3], by rw [h2, h4]⟩

theorem last_CW (j : Nat) : ∀ j', j ≤ j' → (∀ i, j ≤ i → i < j' → ¬ CW dos wt i) ∨ ∃ g, j ≤ g ∧ g < j' ∧ CW dos wt g ∧ ∀ i, g < i → i < j' → ¬ CW dos wt i := by
  intro j' hj
  induction hj with
  | refl => exact .inl fun i h1 h2 => by omega
  | @step n hn ih =>
    by_cases hc : CW dos wt n
    · exact .inr ⟨n, hn, Nat.lt_succ_self n, hc, fun i h1 h2 => by omega⟩
    · rcases ih with q | ⟨g, q1, q2, q3, q4⟩
      · refine .inl fun i h1 h2 => ?_
        by_cases hi : i = n
        · subst hi; exact hc
        · exact q i h1 (by omega)
      · refine .inr ⟨g, q1, by omega, q3, fun i h1 h2 => ?_⟩
        by_cases hi : i = n
        · subst hi; exact hc
        · exact q4 i h1 (by omega)

theorem next_CW (m j : Nat) (hj : j ≤ m) : ∃ g, j ≤ g ∧ g ≤ m ∧ (∀ i, j ≤ i → i < g → ¬ CW dos wt i) ∧ (g < m → CW dos wt g) := by
  obtain ⟨n, rfl⟩ : ∃ n, m = j + n := ⟨m - j, by omega⟩
  clear hj
  induction n generalizing j with
  | zero => exact ⟨j, Nat.le_refl _, Nat.le_refl _, fun i h1 h2 => by omega, fun h => by omega⟩
  | succ n ih =>
    by_cases hc : CW dos wt j
    · exact ⟨j, Nat.le_refl _, by omega, fun i h1 h2 => by omega, fun _ => hc⟩
    · obtain ⟨g, q1, q2, q3, q4⟩ := ih (j + 1)
      refine ⟨g, by omega, by omega, fun i h1 h2 => ?_, fun h => q4 (by omega)⟩
      by_cases hi : i = j
      · subst hi; exact hc
      · exact q3 i (by omega) h2

/-- The first changing operation that is yet to be done. -/
structure Stage (dos : List DOper) (wt : Nat → Bool) (m : Nat) (L : Nat → Bool) (g : Nat) : Prop where
  le : g ≤ m
  done : ∀ j, j < g → CW dos wt j → L j = true
  next : g < m → CW dos wt g ∧ L g = false

/-- The state after the operations of 'L', in any order. -/
structure Can (dos : List DOper) (m : Nat) (st : Nat → St) (L : Nat → Bool) (g : Nat) (s : St) : Prop where
  H : s.H = (st g).H
  base : s.base = (st 0).base
  len : s.t.length = (st 0).t.length
  other : ∀ x, (∀ i a, i < m → dos[i]? = some a → a.o.dst ≠ some x) → s.t.getD x .undef = (st g).t.getD x .undef
  yes : ∀ i a x, i < m → dos[i]? = some a → a.o.dst = some x → L i = true → s.t.getD x .undef = (st (max g (i + 1))).t.getD x .undef
  no : ∀ i a x, i < m → dos[i]? = some a → a.o.dst = some x → L i = false → s.t.getD x .undef = (st 0).t.getD x .undef

/-- What is done stands with all that must stand ahead of it. -/
def Closed (dos : List DOper) (L : Nat → Bool) : Prop := ∀ i a, dos[i]? = some a → L i = true → ∀ p ∈ a.pre, L p = true

variable {P : Program} {S : Nat → Bool} {ops : Array Oper}

theorem CW_order (hst : Stat P S ops dos) {i j : Nat} (hij : i < j) (h1 : CW dos wt i) {b : DOper} (e : dos[j]? = some b) (hb : isC b.o.op = true) : i ∈ b.pre := by
  obtain ⟨a, q1, q2, q3⟩ := h1
  rcases hst.free i j a b hij q1 e with q | ⟨_, _, q, _⟩
  · exact q
  · exact absurd ⟨q2, hb⟩ q

/-- Past the stage no changing operation is done. -/
theorem stage_past (hst : Stat P S ops dos) {L : Nat → Bool} {g : Nat} (hcl : Closed dos L) (hg : Stage dos wt m L g) {j : Nat} (h1 : g ≤ j) (h2 : j < m) (hc : CW dos wt j) : L j = false := by
  obtain ⟨q1, q2⟩ := hg.next (by omega)
  by_cases hj : j = g
  · subst hj; exact q2
  · cases hL : L j with
    | false => rfl
    | true =>
      obtain ⟨b, e1, e2, e3⟩ := hc
      have := hcl j b e1 hL g (CW_order hst (by omega) q1 e1 e2)
      rw [this] at q2; cases q2

variable (hst : Stat P S ops dos) (t : Tr ρ dos 0 [] [] s0 k kp r m st mid vl wt) {L : Nat → Bool} {g : Nat} {s : St}

include hst t in
/-- What an operation reads by its operands. -/
theorem can_ev (hcl : Closed dos L) (hg : Stage dos wt m L g) (hs : Can dos m st L g s) {i : Nat} {a : DOper} (hi : i ≤ m) (e : dos[i]? = some a) (hL : L i = false) (hpre : ∀ p ∈ a.pre, L p = true) {y : Nat} (hy : y ∈ a.o.tmps) :
    ev s.t (.tmp y) = ev (st i).t (.tmp y) := by
  have hgm := hg.le
  by_cases hw : ∃ j b, j < m ∧ dos[j]? = some b ∧ b.o.dst = some y
  · obtain ⟨j, b, hj, e2, e3⟩ := hw
    have hu : ∀ j' b', dos[j']? = some b' → b'.o.dst = some y → j' = j := fun j' b' q1 q2 => by
      rcases Nat.lt_trichotomy j' j with q | q | q
      · exact absurd e3 (hst.dd j' j b' b q q1 e2 y q2)
      · exact q
      · exact absurd q2 (hst.dd j j' b b' q e2 q1 y e3)
    rcases Nat.lt_trichotomy j i with q | q | q
    · rcases hst.free j i b a q e2 e with q1 | ⟨q1, _⟩
      · have hLj := hpre j q1
        rw [ev_get (hs.yes j b y hj e2 e3 hLj)]
        rcases Nat.le_total (max g (j + 1)) i with q2 | q2
        · exact (many_ev t q2 hi (fun i' a' h1 h2 h3 h4 => by have := hu i' a' h3 h4; omega)).symm
        · exact many_ev t q2 (by omega) (fun i' a' h1 h2 h3 h4 => by have := hu i' a' h3 h4; omega)
      · exact absurd hy (q1 y e3)
    · subst q
      rw [ev_get (hs.no j b y hj e2 e3 hL)]
      exact (many_ev t (Nat.zero_le _) hi (fun i' a' h1 h2 h3 h4 => by have := hu i' a' h3 h4; omega)).symm
    · have hLj : L j = false := by
        rcases hst.free i j a b q e e2 with q1 | ⟨_, q1, _⟩
        · cases hq : L j with
          | false => rfl
          | true => have := hcl j b e2 hq i q1; rw [hL] at this; cases this
        · exact absurd hy (q1 y e3)
      rw [ev_get (hs.no j b y hj e2 e3 hLj)]
      exact (many_ev t (Nat.zero_le _) hi (fun i' a' h1 h2 h3 h4 => by have := hu i' a' h3 h4; omega)).symm
  · have hn : ∀ i' a', i' < m → dos[i']? = some a' → a'.o.dst ≠ some y := fun i' a' h1 h2 h3 => hw ⟨i', a', h1, h2, h3⟩
    rw [ev_get (hs.other y hn)]
    rcases Nat.le_total g i with q2 | q2
    · exact (many_ev t q2 hi (fun i' a' h1 h2 h3 => hn i' a' (by omega) h3)).symm
    · exact many_ev t q2 hgm (fun i' a' h1 h2 h3 => hn i' a' (by omega) h3)

include hst t in
/-- A local struct that an operation reads or writes. -/
theorem can_slot (hcl : Closed dos L) (hg : Stage dos wt m L g) (hs : Can dos m st L g s) {i : Nat} {a : DOper} (hi : i ≤ m) (e : dos[i]? = some a) (hL : L i = false) (hpre : ∀ p ∈ a.pre, L p = true) {x : Nat} (hx : a.slot = some x) :
    s.t.getD x .undef = (st i).t.getD x .undef := by
  have hgm := hg.le
  have hback : ∀ j b, g ≤ j → j < i → dos[j]? = some b → CW dos wt j → b.slot ≠ some x := fun j b h1 h2 h3 h4 h5 => by
    rcases hst.free j i b a h2 h3 e with q | ⟨_, _, _, q, _⟩
    · have := hpre j q
      rw [stage_past hst hcl hg h1 (by omega) h4] at this; cases this
    · obtain ⟨b', k1, k2, k3⟩ := h4
      rw [h3] at k1; cases k1
      exact q x (.inl k2) h5 hx
  have hfwd : ∀ j b, i ≤ j → j < g → dos[j]? = some b → CW dos wt j → b.slot ≠ some x := fun j b h1 h2 h3 h4 h5 => by
    have hLj := hg.done j h2 h4
    have hij : i < j := by
      rcases Nat.lt_or_ge i j with q | q
      · exact q
      · have : i = j := by omega
        subst this
        rw [hL] at hLj; cases hLj
    rcases hst.free i j a b hij e h3 with q | ⟨_, _, _, q, _⟩
    · have := hcl j b h3 hLj i q
      rw [hL] at this; cases this
    · obtain ⟨b', k1, k2, k3⟩ := h4
      rw [h3] at k1; cases k1
      exact q x (.inr k2) hx h5
  by_cases hw : ∃ j b, j < m ∧ dos[j]? = some b ∧ b.o.dst = some x
  · obtain ⟨j, b, hj, e2, e3⟩ := hw
    have hu : ∀ j' b', dos[j']? = some b' → b'.o.dst = some x → j' = j := fun j' b' q1 q2 => by
      rcases Nat.lt_trichotomy j' j with q | q | q
      · exact absurd e3 (hst.dd j' j b' b q q1 e2 x q2)
      · exact q
      · exact absurd q2 (hst.dd j j' b b' q e2 q1 x e3)
    rcases Nat.lt_trichotomy j i with q | q | q
    · rcases hst.free j i b a q e2 e with q1 | ⟨_, _, _, _, q1⟩
      · have hLj := hpre j q1
        rw [hs.yes j b x hj e2 e3 hLj]
        rcases Nat.le_total (max g (j + 1)) i with q2 | q2
        · exact (many_get t q2 hi (fun i' a' h1 h2 h3 h4 => by have := hu i' a' h3 h4; omega) (fun i' a' h1 h2 h3 h4 => hback i' a' (by omega) h2 h3 h4)).symm
        · exact many_get t q2 (by omega) (fun i' a' h1 h2 h3 h4 => by have := hu i' a' h3 h4; omega) (fun i' a' h1 h2 h3 h4 => hfwd i' a' h1 (by omega) h3 h4)
      · exact absurd hx (q1 x e3)
    · have hba : b = a := by
        rw [q, e] at e2
        exact (Option.some.inj e2).symm
      rw [hba] at e3
      exact absurd e3 (hst.self i a e x hx)
    · exact absurd e3 (hst.sd i j a b q e e2 x hx)
  · have hn : ∀ i' a', i' < m → dos[i']? = some a' → a'.o.dst ≠ some x := fun i' a' h1 h2 h3 => hw ⟨i', a', h1, h2, h3⟩
    rw [hs.other x hn]
    rcases Nat.le_total g i with q2 | q2
    · exact (many_get t q2 hi (fun i' a' h1 h2 h3 => hn i' a' (by omega) h3) (fun i' a' h1 h2 h3 h4 => hback i' a' h1 h2 h3 h4)).symm
    · exact many_get t q2 hgm (fun i' a' h1 h2 h3 => hn i' a' (by omega) h3) (fun i' a' h1 h2 h3 h4 => hfwd i' a' h1 h2 h3 h4)

include hst t in
/-- What stands where an operation is to put its result. -/
theorem can_dst (hs : Can dos m st L g s) {i : Nat} {a : DOper} (hi : i < m) (e : dos[i]? = some a) (hL : L i = false) {y : Nat} (hy : a.o.dst = some y) : s.t.getD y .undef = (st i).t.getD y .undef := by
  rw [hs.no i a y hi e hy hL]
  refine (many_get t (Nat.zero_le i) (by omega) (fun i' a' h1 h2 h3 h4 => ?_) (fun i' a' h1 h2 h3 h4 h5 => ?_)).symm
  · exact absurd hy (hst.dd i' i a' a h2 h3 e y h4)
  · exact absurd hy (hst.sd i' i a' a h2 h3 e y h5)
end
end Go.Proofs.YtdhlgbnljhgabaaGreatDoor.AM

/- A region that draws its order: each operation, whenever it comes. -/
namespace Go.Proofs.YtdhlgbnljhgabaaGreatDoor.AM
open Go

theorem put_at {s s' : St} {d : Option Nat} {v : AV} {x : Nat} (hd : d = some x) (hl : s.t.length = s'.t.length) : (put s d v).t.getD x .undef = (put s' d v).t.getD x .undef := by
  subst hd
  simp only [put, getD_put]
  by_cases q : x < s.t.length
  · have q' : x < s'.t.length := by omega
    simp [q, q']
  · have q' : ¬ x < s'.t.length := by omega
    simp only [q, q', and_false, if_false]
    simp only [List.getD_eq_getElem?_getD]
    rw [List.getElem?_eq_none (by omega), List.getElem?_eq_none (by omega)]

/-- How an operation changes temporaries, in both states. -/
def TRel (a : DOper) (cw : Prop) (s s1 q q1 : St) : Prop :=
  (q1.t = q.t ∧ s1.t = s.t) ∨ ∃ x c', a.slot = some x ∧ cw ∧ q1.t = q.t.set x (.lvar c') ∧ s1.t = s.t.set x (.lvar c')

theorem TRel.len {a : DOper} {cw : Prop} {s s1 q q1 : St} (h : TRel a cw s s1 q q1) : s1.t.length = s.t.length ∧ q1.t.length = q.t.length := by
  rcases h with ⟨h1, h2⟩ | ⟨x, c', _, _, h1, h2⟩
  · rw [h1, h2]; exact ⟨rfl, rfl⟩
  · rw [h1, h2]; simp
theorem TRel.eq {a : DOper} {cw : Prop} {s s1 q q1 : St} (h : TRel a cw s s1 q q1) (hl : s.t.length = q.t.length) {y : Nat} (hy : s.t.getD y .undef = q.t.getD y .undef) : s1.t.getD y .undef = q1.t.getD y .undef := by
  rcases h with ⟨h1, h2⟩ | ⟨x, c', _, _, h1, h2⟩
  · rw [h1, h2]; exact hy
  · rw [h1, h2, getD_put, getD_put, hl, hy]
theorem TRel.away {a : DOper} {cw : Prop} {s s1 q q1 : St} (h : TRel a cw s s1 q q1) {y : Nat} (hy : a.slot ≠ some y) : s1.t.getD y .undef = s.t.getD y .undef := by
  rcases h with ⟨h1, h2⟩ | ⟨x, c', h3, _, h1, h2⟩
  · rw [h2]
  · rw [h2, getD_put]
    split
    · rename_i q; rw [q.1] at h3; exact absurd h3 hy
    · rfl

section
variable {ρ : Rho} {dos : List DOper} {s0 : St} {k : St → R} {kp : AV → Hp → R} {r : Out × Hp} {m : Nat} {st mid : Nat → St} {vl : Nat → AV} {wt : Nat → Bool}
variable {P : Program} {S : Nat → Bool} {ops : Array Oper}
variable (hst : Stat P S ops dos) (t : Tr ρ dos 0 [] [] s0 k kp r m st mid vl wt) {L : Nat → Bool} {g : Nat} {s : St}

theorem mem_tmps {o : AOper} {n : Nat} (h : Opd.tmp n ∈ o.op.opds) : n ∈ o.tmps := by
  unfold AOper.tmps
  exact List.mem_append_left _ (List.mem_flatMap.2 ⟨_, h, by simp [opdT]⟩)

include hst t in
theorem can_want (hcl : Closed dos L) (hg : Stage dos wt m L g) (hs : Can dos m st L g s) {i : Nat} {a : DOper} (hi : i ≤ m) (e : dos[i]? = some a) (hL : L i = false) (hpre : ∀ p ∈ a.pre, L p = true) {b : Bool} (hw : want (st i).t a.o.guard = some b) :
    want s.t a.o.guard = some b := by
  cases hgd : a.o.guard with
  | none => rw [hgd] at hw; exact hw
  | some q =>
    obtain ⟨n, w⟩ := q
    rw [hgd] at hw
    have hn : n ∈ a.o.tmps := by unfold AOper.tmps; rw [hgd]; simp
    have h := can_ev hst t hcl hg hs hi e hL hpre hn
    simp only [ev] at h
    simp only [want] at hw ⊢
    cases h1 : (st i).t.getD n .undef <;> rw [h1] at hw h <;> simp only at hw h <;> first | (simp at hw; done) | skip
    · cases h2 : s.t.getD n .undef <;> rw [h2] at h <;> simp only at h <;> first | (cases h; done) | skip
      cases h; exact hw
    · rename_i vs
      cases h2 : s.t.getD n .undef <;> rw [h2] at h <;> simp only at h <;> first | (cases h; done) | skip
      cases h; exact hw

theorem slot_load {t : List AV} {a : DOper} {sz : Nat} {ag : Bool} {y : Opd} {x off : Nat} (h : slotOK t a = true) (e : a.o.op = .load sz ag y) (q : ev t y = .lptr x off) : a.slot = some x := by
  unfold slotOK at h
  rw [e] at h
  simp only [q] at h
  simpa using h
theorem slot_store {t : List AV} {a : DOper} {sz : Nat} {y v : Opd} {x off : Nat} (h : slotOK t a = true) (e : a.o.op = .store sz y v) (q : ev t y = .lptr x off) : a.slot = some x := by
  unfold slotOK at h
  rw [e] at h
  simp only [q] at h
  simpa using h

include hst t in
theorem can_opds (hcl : Closed dos L) (hg : Stage dos wt m L g) (hs : Can dos m st L g s) {i : Nat} {a : DOper} (hi : i ≤ m) (e : dos[i]? = some a) (hL : L i = false) (hpre : ∀ p ∈ a.pre, L p = true) : ∀ y ∈ a.o.op.opds, ev s.t y = ev (st i).t y := by
  intro y hy
  cases y with
  | tmp n => exact can_ev hst t hcl hg hs hi e hL hpre (mem_tmps hy)
  | c v => rfl

include t in
theorem can_base (hs : Can dos m st L g s) {i : Nat} (hi : i ≤ m) : s.base = (st i).base ∧ s.t.length = (st i).t.length := by
  obtain ⟨h1, h2⟩ := all_len t hi
  rw [hs.base, hs.len, h1, h2, t.st0]
  exact ⟨rfl, rfl⟩

include hst in
theorem stage_is (hg : Stage dos wt m L g) {i : Nat} {a : DOper} (hi : i ≤ m) (e : dos[i]? = some a) (hL : L i = false) (hpre : ∀ p ∈ a.pre, L p = true) (hc : isC a.o.op = true) (hcw : i < m → CW dos wt i) : g = i := by
  have hle := hg.le
  rcases Nat.lt_trichotomy g i with q | q | q
  · obtain ⟨q1, q2⟩ := hg.next (by omega)
    have := hpre g (CW_order hst q q1 e hc)
    rw [q2] at this; cases this
  · exact q
  · have := hg.done i q (hcw (by omega))
    rw [hL] at this; cases this

include hst t in
/-- An operation comes to the same, whenever it comes. -/
theorem can_res (hcl : Closed dos L) (hg : Stage dos wt m L g) (hs : Can dos m st L g s) {i : Nat} {a : DOper} (hi : i < m) (e : dos[i]? = some a) (hL : L i = false) (hpre : ∀ p ∈ a.pre, L p = true) (hw : wt i = true) :
    ∃ s1, opA ρ a.o.op a.o.dst s = some (.ok (vl i) s1) ∧ (CW dos wt i → s1.H = (mid i).H) ∧ (¬ CW dos wt i → s1.H = s.H) ∧ s1.base = s.base ∧ TRel a (CW dos wt i) s s1 (st i) (mid i) := by
  obtain ⟨_, _, _, h4⟩ := t.step i a hi e
  obtain ⟨hsl, hr⟩ := h4 hw
  obtain ⟨hb, hl⟩ := can_base t hs (show i ≤ m by omega)
  have hev := can_opds hst t hcl hg hs (by omega) e hL hpre
  have hdst : ∀ x, a.o.dst = some x → noVar (s.t.getD x .undef) = noVar ((st i).t.getD x .undef) := fun x q => by rw [can_dst hst t hs hi e hL q]
  have hslot : ∀ x, a.slot = some x → s.t.getD x .undef = (st i).t.getD x .undef := fun x q => can_slot hst t hcl hg hs (by omega) e hL hpre q
  cases hc : isC a.o.op with
  | true =>
    have hcw : CW dos wt i := ⟨a, e, hc, hw⟩
    have hgi := stage_is hst hg (by omega) e hL hpre hc (fun _ => hcw)
    have hse : s = setT (st i) s.t := by
      have := hs.H
      rw [hgi] at this
      cases s
      simp only at this hb
      rw [this, hb]
      rfl
    by_cases hso : ∃ sz y v, a.o.op = .store sz y v
    · obtain ⟨sz, y, v, ho⟩ := hso
      rw [ho] at hr hev ⊢
      obtain ⟨s1, k1, k2⟩ := store_setT (t := s.t) hev hl (fun x off q => hslot x (slot_store hsl ho q)) hr
      obtain ⟨kv, ks⟩ := OpRes.ok_inj k1
      rcases k2 with ⟨k2, k3⟩ | ⟨x, off, c, c', k2, k3, k4, k5⟩
      · rw [← hse] at k3
        refine ⟨setT s1 s.t, by rw [kv]; exact k3, fun _ => by rw [ks]; rfl, fun q => absurd hcw q, ?_, .inl ⟨by rw [ks, k2], rfl⟩⟩
        have := base_same hr
        rw [ks] at this
        rw [hb]
        exact this
      · rw [← hse] at k5
        refine ⟨_, by rw [kv]; exact k5, fun _ => by rw [ks, k4]; rfl, fun q => absurd hcw q, by rw [hb]; rfl, .inr ⟨x, c', slot_store hsl ho k2, hcw, by rw [ks, k4]; rfl, rfl⟩⟩
    · have := opA_setT (ρ := ρ) (d := a.o.dst) (s := st i) (t := s.t) hev hl hdst (fun sz ag y x off q1 q2 => hslot x (slot_load hsl q1 q2)) (fun sz y v q => hso ⟨sz, y, v, q⟩)
      rw [hr, ← hse] at this
      simp only [Option.map_some, OpRes.withT] at this
      refine ⟨_, this, fun _ => rfl, fun q => absurd hcw q, ?_, .inl ⟨?_, rfl⟩⟩
      · rw [hb]; show (mid i).base = _; exact base_same hr
      · rcases tmps_same hr with q | ⟨sz, y, v, _, _, _, _, q, _⟩
        · exact q
        · exact absurd ⟨sz, y, v, q⟩ hso
  | false =>
    have hncw : ¬ CW dos wt i := fun ⟨b, q1, q2, _⟩ => by rw [e] at q1; cases q1; rw [hc] at q2; cases q2
    obtain ⟨v', q⟩ := quiet_state hc hr
    obtain ⟨_, hmid⟩ := OpRes.ok_inj q
    rw [hmid] at hr
    have hagain : ∀ H, again ρ H ⟨a.o.op, a.o.dst, st i, vl i⟩ = true → opA ρ a.o.op a.o.dst (setH (st i) H) = some (.ok (vl i) (setH (st i) H)) := fun H q => by
      unfold again at q
      simp only at q
      split at q
      · rename_i w s' q1
        obtain ⟨v'', q2⟩ := quiet_state hc q1
        obtain ⟨_, k2⟩ := OpRes.ok_inj q2
        rw [q1, k2, beq_eq q]
      · cases q
    have hsame : s.H = (st i).H → opA ρ a.o.op a.o.dst (setH (st i) s.H) = some (.ok (vl i) (setH (st i) s.H)) := fun q => by
      rw [q, show setH (st i) (st i).H = st i from rfl]
      exact hr
    have key : opA ρ a.o.op a.o.dst (setH (st i) s.H) = some (.ok (vl i) (setH (st i) s.H)) := by
      cases hh : isH (st i).t a.o.op with
      | false =>
        rw [quiet_heap hc hh, hr]
        rfl
      | true =>
        rcases Nat.lt_trichotomy g i with q | q | q
        · obtain ⟨⟨b, q1, q2, q3⟩, q4⟩ := hg.next (by omega)
          rcases t.snck g i b a q hi q1 e q3 hw q2 hc hh with k1 | k1
          · rw [Nat.zero_add] at k1
            have := hpre g (by simpa using k1)
            rw [q4] at this; cases this
          · rw [hs.H]; exact hagain _ k1
        · exact hsame (by rw [hs.H, q])
        · rcases last_CW (dos := dos) (wt := wt) i g (by omega) with k1 | ⟨j, k1, k2, k3, k4⟩
          · exact hsame (by rw [hs.H, many_H t (by omega) hg.le k1])
          · have hLj := hg.done j k2 k3
            have hij : i < j := by
              rcases Nat.lt_or_ge i j with q5 | q5
              · exact q5
              · have : i = j := by omega
                subst this
                exact absurd k3 hncw
            obtain ⟨b, q1, q2, q3⟩ := k3
            have hjm : j < m := by have := hg.le; omega
            rcases t.ldck i j a b hij hjm e q1 hw q3 hc hh q2 with k5 | k5
            · rw [Nat.zero_add] at k5
              have := hcl j b q1 hLj i (by simpa using k5)
              rw [hL] at this; cases this
            · have hHj : s.H = (mid j).H := by
                rw [hs.H, many_H t (show j + 1 ≤ g by omega) hg.le (fun i' h1 h2 => k4 i' (by omega) h2), (t.step j b hjm q1).2.1, put_H]
              rw [hHj]; exact hagain _ k5
    have hse : s = setT (setH (st i) s.H) s.t := by
      cases s
      simp only at hb
      rw [hb]
      rfl
    have := opA_setT (ρ := ρ) (d := a.o.dst) (s := setH (st i) s.H) (t := s.t) (op := a.o.op) hev hl hdst (fun sz ag y x off q1 q2 => hslot x (slot_load hsl q1 q2)) (fun sz y v q => by rw [q] at hc; simp [isC] at hc)
    rw [key, ← hse] at this
    simp only [Option.map_some, OpRes.withT] at this
    rw [← hse] at this
    exact ⟨s, this, fun q => absurd q hncw, fun _ => rfl, rfl, .inl ⟨by rw [hmid], rfl⟩⟩

def addL (L : Nat → Bool) (i : Nat) : Nat → Bool := fun j => L j || decide (j = i)

include hst t in
/-- The state after one more operation. -/
theorem can_next (hcl : Closed dos L) (hg : Stage dos wt m L g) (hs : Can dos m st L g s) {i : Nat} {a : DOper} (hi : i < m) (e : dos[i]? = some a) (hL : L i = false) (hpre : ∀ p ∈ a.pre, L p = true) {s1 : St}
    (hH1 : CW dos wt i → s1.H = (mid i).H) (hH2 : ¬ CW dos wt i → s1.H = s.H) (hb1 : s1.base = s.base) (hT : TRel a (CW dos wt i) s s1 (st i) (mid i)) :
    ∃ g', Stage dos wt m (addL L i) g' ∧ Can dos m st (addL L i) g' (put s1 a.o.dst (vl i)) := by
  obtain ⟨_, hput, _, _⟩ := t.step i a hi e
  obtain ⟨hb, hl⟩ := can_base t hs (show i ≤ m by omega)
  obtain ⟨hl1, hl2⟩ := hT.len
  have haL : ∀ j, addL L i j = true → j = i ∨ L j = true := fun j q => by
    simp only [addL, Bool.or_eq_true, decide_eq_true_eq] at q
    exact q.symm
  have haF : ∀ j, addL L i j = false → j ≠ i ∧ L j = false := fun j q => by
    simp only [addL, Bool.or_eq_false_iff, decide_eq_false_iff_not] at q
    exact ⟨q.2, q.1⟩
  have hu : ∀ (j j' : Nat) (b b' : DOper) (x : Nat), dos[j]? = some b → b.o.dst = some x → dos[j']? = some b' → b'.o.dst = some x → j' = j := fun j j' b b' x k1 k2 q1 q2 => by
    rcases Nat.lt_trichotomy j' j with q | q | q
    · exact absurd k2 (hst.dd j' j b' b q q1 k1 x q2)
    · exact q
    · exact absurd q2 (hst.dd j j' b b' q k1 q1 x k2)
  have hown : ∀ x, a.o.dst = some x → (put s1 a.o.dst (vl i)).t.getD x .undef = (st (i + 1)).t.getD x .undef := fun x q => by
    rw [hput]
    exact put_at q (by rw [hl1, hl2, hl])
  by_cases hcw : CW dos wt i
  · obtain ⟨a', q1, q2, q3⟩ := hcw
    rw [e] at q1
    cases q1
    have hcw : CW dos wt i := ⟨a, e, q2, q3⟩
    have hgi := stage_is hst hg (by omega) e hL hpre q2 (fun _ => hcw)
    subst hgi
    obtain ⟨g', n1, n2, n3, n4⟩ := next_CW (dos := dos) (wt := wt) m (g + 1) (by omega)
    refine ⟨g', ⟨n2, fun j hj hc => ?_, fun hlt => ⟨n4 hlt, ?_⟩⟩, ⟨?_, by rw [put_base, hb1, hs.base], by rw [put_len, hl1, hs.len], fun x hx => ?_, fun j b x hj k1 k2 k3 => ?_, fun j b x hj k1 k2 k3 => ?_⟩⟩
    · simp only [addL, Bool.or_eq_true, decide_eq_true_eq]
      rcases Nat.lt_trichotomy j g with q | q | q
      · exact .inl (hg.done j q hc)
      · exact .inr q
      · exact absurd hc (n3 j q hj)
    · simp only [addL, Bool.or_eq_false_iff, decide_eq_false_iff_not]
      exact ⟨stage_past hst hcl hg (by omega) hlt (n4 hlt), by omega⟩
    · rw [put_H, hH1 hcw, many_H t n1 n2 n3, hput, put_H]
    · have hd := hx g a hi e
      rw [put_get hd, hT.eq hl (hs.other x hx), many_get t n1 n2 (fun i' a' h1 h2 h3 => hx i' a' (by omega) h3) (fun i' a' h1 h2 h3 h4 => absurd h4 (n3 i' h1 h2)), hput, put_get hd]
    · by_cases hji : j = g
      · subst hji
        rw [e] at k1; cases k1
        rw [hown x k2, Nat.max_eq_left n1]
        exact (many_get t n1 n2 (fun i' a' h1 h2 h3 h4 => by have := hu _ _ _ _ x e k2 h3 h4; omega) (fun i' a' h1 h2 h3 h4 => absurd h4 (n3 i' h1 h2))).symm
      · have hLj : L j = true := (haL j k3).resolve_left hji
        have hd : a.o.dst ≠ some x := fun q => hji (hu _ _ _ _ x e q k1 k2)
        rw [put_get hd]
        rcases Nat.lt_trichotomy j g with q | q | q
        · have h1 : s.t.getD x .undef = (st g).t.getD x .undef := by rw [hs.yes j b x hj k1 k2 hLj, Nat.max_eq_left (by omega)]
          rw [hT.eq hl h1, Nat.max_eq_left (by omega), many_get t n1 n2 (fun i' a' h1 h2 h3 h4 => by have := hu _ _ _ _ x k1 k2 h3 h4; omega) (fun i' a' h1 h2 h3 h4 => absurd h4 (n3 i' h1 h2)), hput, put_get hd]
        · exact absurd q hji
        · have hns : a.slot ≠ some x := fun q5 => hst.sd g j a b q e k1 x q5 k2
          rw [hT.away hns, hs.yes j b x hj k1 k2 hLj, Nat.max_eq_right (by omega)]
          rcases Nat.le_total g' (j + 1) with q5 | q5
          · rw [Nat.max_eq_right q5]
          · rw [Nat.max_eq_left q5]
            exact (many_get t q5 n2 (fun i' a' h1 h2 h3 h4 => by have := hu _ _ _ _ x k1 k2 h3 h4; omega) (fun i' a' h1 h2 h3 h4 => absurd h4 (n3 i' (by omega) h2))).symm
    · obtain ⟨hji, hLj⟩ := haF j k3
      have hd : a.o.dst ≠ some x := fun q => hji (hu _ _ _ _ x e q k1 k2)
      have hns : a.slot ≠ some x := fun q5 => by
        rcases Nat.lt_trichotomy j g with q | q | q
        · rcases hst.free j g b a q k1 e with q6 | ⟨_, _, _, _, q6⟩
          · have := hpre j q6; rw [hLj] at this; cases this
          · exact q6 x k2 q5
        · exact hji q
        · exact hst.sd g j a b q e k1 x q5 k2
      rw [put_get hd, hT.away hns, hs.no j b x hj k1 k2 hLj]
  · have hTt : s1.t = s.t := by
      rcases hT with ⟨_, q⟩ | ⟨_, _, _, q, _⟩
      · exact q
      · exact absurd q hcw
    have hgm := hg.le
    refine ⟨g, ⟨hg.le, fun j hj hc => ?_, fun hlt => ⟨(hg.next hlt).1, ?_⟩⟩, ⟨by rw [put_H, hH2 hcw, hs.H], by rw [put_base, hb1, hs.base], by rw [put_len, hl1, hs.len], fun x hx => ?_, fun j b x hj k1 k2 k3 => ?_, fun j b x hj k1 k2 k3 => ?_⟩⟩
    · simp only [addL, Bool.or_eq_true]
      exact .inl (hg.done j hj hc)
    · simp only [addL, Bool.or_eq_false_iff, decide_eq_false_iff_not]
      exact ⟨(hg.next hlt).2, fun q => hcw (q ▸ (hg.next hlt).1)⟩
    · rw [put_get (hx i a hi e), hTt]
      exact hs.other x hx
    · by_cases hji : j = i
      · subst hji
        rw [e] at k1; cases k1
        rw [hown x k2]
        refine (many_get t (Nat.le_max_right _ _) (by omega) (fun i' a' h1 h2 h3 h4 => by have := hu _ _ _ _ x e k2 h3 h4; omega) (fun i' a' h1 h2 h3 h4 h5 => ?_)).symm
        have hLj := hg.done i' (by omega) h4
        rcases hst.free j i' a a' (by omega) e h3 with q | ⟨_, _, _, _, q⟩
        · have := hcl i' a' h3 hLj j q
          rw [hL] at this; cases this
        · exact q x k2 h5
      · have hLj : L j = true := (haL j k3).resolve_left hji
        have hd : a.o.dst ≠ some x := fun q => hji (hu _ _ _ _ x e q k1 k2)
        rw [put_get hd, hTt]
        exact hs.yes j b x hj k1 k2 hLj
    · obtain ⟨hji, hLj⟩ := haF j k3
      have hd : a.o.dst ≠ some x := fun q => hji (hu _ _ _ _ x e q k1 k2)
      rw [put_get hd, hTt]
      exact hs.no j b x hj k1 k2 hLj
end
end Go.Proofs.YtdhlgbnljhgabaaGreatDoor.AM

/- A region that draws its order is sound. -/
namespace Go.Proofs.YtdhlgbnljhgabaaGreatDoor.AM
open Go

/-- How many are yet to be done. -/
def unl (L : Nat → Bool) : Nat → Nat
  | 0 => 0
  | n + 1 => unl L n + (if L n = true then 0 else 1)

theorem unl_far {L : Nat → Bool} {i : Nat} : ∀ {n : Nat}, n ≤ i → unl (addL L i) n = unl L n
  | 0, _ => rfl
  | n + 1, h => by
    simp only [unl]
    rw [unl_far (by omega)]
    have : addL L i n = L n := by simp [addL, show ¬ n = i by omega]
    rw [this]
theorem unl_add {L : Nat → Bool} {i : Nat} (hL : L i = false) : ∀ {n : Nat}, i < n → unl L n = unl (addL L i) n + 1
  | 0, h => by omega
  | n + 1, h => by
    simp only [unl]
    by_cases hi : i = n
    · subst hi
      rw [unl_far (Nat.le_refl i)]
      have : addL L i i = true := by simp [addL]
      rw [this, hL]
      simp
    · rw [unl_add hL (show i < n by omega)]
      have : addL L i n = L n := by simp [addL, show ¬ n = i by omega]
      rw [this]
      omega
theorem unl_zero {L : Nat → Bool} : ∀ {n : Nat}, unl L n = 0 → ∀ i, i < n → L i = true
  | 0, _, i, h => by omega
  | n + 1, h, i, hi => by
    simp only [unl] at h
    by_cases hn : i = n
    · subst hn
      cases hq : L i with
      | true => rfl
      | false => rw [hq] at h; simp at h
    · exact unl_zero (n := n) (by omega) i (by omega)
theorem unl_none : ∀ {n : Nat}, unl (fun _ => false) n = n
  | 0 => rfl
  | n + 1 => by simp [unl, unl_none (n := n)]

theorem mem_ready {ops : Array Oper} {listed : Array Bool} {i : Nat} (h : i ∈ Region.ready .any ops listed) : ∃ o, ops[i]? = some o ∧ listed.getD i true = false ∧ ∀ e ∈ o.after.toList, Region.binds .any e = true → listed.getD e.on false = true := by
  unfold Region.ready at h
  obtain ⟨h1, h2⟩ := List.mem_filter.1 h
  simp only [List.mem_range] at h1
  simp only [Bool.and_eq_true, Bool.not_eq_true'] at h2
  obtain ⟨h2, h3⟩ := h2
  refine ⟨ops[i], Array.getElem?_eq_getElem h1, h2, fun e he hb => ?_⟩
  rw [Array.getElem?_eq_getElem h1] at h3
  simp only [Option.map_some, Option.getD_some] at h3
  rw [← Array.all_toList, List.all_eq_true] at h3
  have := h3 e he
  rw [hb] at this
  simpa using this

theorem ready_mem {ops : Array Oper} {listed : Array Bool} {i : Nat} {o : Oper} (h1 : ops[i]? = some o) (h2 : listed.getD i true = false) (h3 : ∀ e ∈ o.after.toList, Region.binds .any e = true → listed.getD e.on false = true) : i ∈ Region.ready .any ops listed := by
  unfold Region.ready
  refine List.mem_filter.2 ⟨?_, ?_⟩
  · rw [List.mem_range]; exact (Array.getElem?_eq_some_iff.1 h1).1
  · simp only [Bool.and_eq_true, Bool.not_eq_true']
    refine ⟨h2, ?_⟩
    rw [h1]
    simp only [Option.map_some, Option.getD_some]
    rw [← Array.all_toList, List.all_eq_true]
    intro e he
    cases hb : Region.binds .any e with
    | false => rfl
    | true => simpa using h3 e he hb

theorem getD_true {listed : Array Bool} {i : Nat} (h : i < listed.size) : listed.getD i true = listed.getD i false := by
  rw [Array.getD_eq_getD_getElem?, Array.getD_eq_getD_getElem?, Array.getElem?_eq_getElem h]
  rfl

theorem getD_setB {listed : Array Bool} {i j : Nat} (h : i < listed.size) : (listed.setIfInBounds i true).getD j false = addL (fun n => listed.getD n false) i j := by
  simp only [addL, Array.getD_eq_getD_getElem?, Array.getElem?_setIfInBounds]
  by_cases q : i = j
  · subst q; simp [h]
  · have : ¬ j = i := fun k => q k.symm
    simp [q, this]

theorem draw_any {P : Program} {S : Nat → Bool} {ρ : Rho} (hρ : RhoOK P ρ) {ops : Array Oper} {dos : List DOper} (hst : Stat P S ops dos) {s0 : St} {k : St → R} {kp : AV → Hp → R} {r : Out × Hp} {m : Nat} {st mid : Nat → St} {vl : Nat → AV} {wt : Nat → Bool}
    (t : Tr ρ dos 0 [] [] s0 k kp r m st mid vl wt) {K0 : Kz} {w0 : World} {Q : Exit → Act → World → Prop} (hn : ∀ a' w', Nrm S K0 s0 w0 r k a' w' → Q .normal a' w') (hp : ∀ pv a' w', Pnc K0 s0 w0 r kp pv a' w' → Q (.panic [{ v := pv, recovered := false }]) a' w') :
    ∀ (fuel : Nat) (listed : Array Bool) (L : Nat → Bool) (g : Nat) (s : St) (K : Kz) (a : Act) (w : World), listed.size = ops.size → (∀ i, listed.getD i false = L i) → unl L ops.size ≤ fuel → Closed dos L → (∀ i, L i = true → i < m) → Stage dos wt m L g → Can dos m st L g s →
      KL K0 K → Step K0 w0 K w → StRel S K s a w → Keeps s0 s → wpAny P .any ops Q fuel listed a w := by
  intro fuel
  induction fuel with
  | zero =>
    intro listed L g s K a w hsz hLL hun hcl hm hg hs hkl hstep hrel hkp
    have hall := unl_zero (show unl L ops.size = 0 by omega)
    have hmn : m = dos.length := by
      rcases Nat.lt_or_ge m dos.length with q | q
      · have := hm m (hall m (by rw [hst.len]; exact q)); omega
      · have := t.hm; omega
    have hready : Region.ready .any ops listed = [] := by
      cases hr : Region.ready .any ops listed with
      | nil => rfl
      | cons i l =>
        obtain ⟨o, h1, h2, _⟩ := mem_ready (show i ∈ Region.ready .any ops listed by rw [hr]; simp)
        have hi := (Array.getElem?_eq_some_iff.1 h1).1
        rw [getD_true (by omega), hLL, hall i hi] at h2
        cases h2
    refine ⟨hready, hn _ _ ?_⟩
    have hgm : g = m := by
      rcases Nat.lt_or_ge g m with q | q
      · have := (hg.next q).2
        rw [hall g (by rw [hst.len]; omega)] at this; cases this
      · have := hg.le; omega
    have hse : s = st m := by
      obtain ⟨b1, b2⟩ := can_base t hs (Nat.le_refl m)
      have ht : s.t = (st m).t := by
        apply List.ext_getElem?
        intro x
        have hx : s.t.getD x .undef = (st m).t.getD x .undef := by
          by_cases hw : ∃ j b, j < m ∧ dos[j]? = some b ∧ b.o.dst = some x
          · obtain ⟨j, b, hj, e2, e3⟩ := hw
            rw [hs.yes j b x hj e2 e3 (hall j (by rw [hst.len]; omega)), hgm, Nat.max_eq_left (by omega)]
          · rw [hs.other x (fun i' a' h1 h2 h3 => hw ⟨i', a', h1, h2, h3⟩), hgm]
        rcases Nat.lt_or_ge x s.t.length with q | q
        · rw [List.getD_eq_getElem?_getD, List.getD_eq_getElem?_getD, List.getElem?_eq_getElem q, List.getElem?_eq_getElem (by omega)] at hx
          rw [List.getElem?_eq_getElem q, List.getElem?_eq_getElem (by omega)]
          simpa using hx
        · rw [List.getElem?_eq_none q, List.getElem?_eq_none (by omega)]
      have hH := hs.H
      rw [hgm] at hH
      generalize st m = s' at *
      cases s
      cases s'
      simp only at ht hH b1
      rw [ht, hH, b1]
    have hk : k (st m) = some r := by
      rcases t.fin with q | ⟨o, v, H, q, _⟩
      · exact q.2
      · have := (List.getElem?_eq_some_iff.1 q).1; omega
    exact ⟨s, K, by rw [hse]; exact hk, hkl, hstep, hrel, hkp⟩
  | succ fuel ih =>
    intro listed L g s K a w hsz hLL hun hcl hm hg hs hkl hstep hrel hkp
    constructor
    · intro hready
      have hall : ∀ i, i < ops.size → L i = true := by
        intro i
        induction i using Nat.strongRecOn with
        | _ i ihi =>
          intro hi
          cases hL : L i with
          | true => rfl
          | false =>
            have e := Array.getElem?_eq_getElem hi
            have hd : i < dos.length := by rw [← hst.len]; exact hi
            have hpre := hst.pre i _ _ e (List.getElem?_eq_getElem hd)
            simp only [preAt, Bool.and_eq_true, List.all_eq_true] at hpre
            have : i ∈ Region.ready .any ops listed := ready_mem e (by rw [getD_true (by omega), hLL, hL]) fun ed he hb => by
              have h1 := hpre.1 ed he
              rw [hb] at h1
              simp only [Bool.not_true, Bool.false_or, decide_eq_true_eq] at h1
              rw [hLL]
              exact ihi ed.on h1 (by omega)
            rw [hready] at this
            cases this
      have h0 : unl L ops.size = 0 := by
        have : ∀ n, n ≤ ops.size → unl L n = 0 := by
          intro n
          induction n with
          | zero => intro _; rfl
          | succ n ihn => intro hle; simp [unl, ihn (by omega), hall n (by omega)]
        exact this _ (Nat.le_refl _)
      have := ih listed L g s K a w hsz hLL (by omega) hcl hm hg hs hkl hstep hrel hkp
      cases fuel with
      | zero => exact this.2
      | succ n => exact this.1 hready
    · intro i hi
      obtain ⟨o, h1, h2, h3⟩ := mem_ready hi
      have hisz := (Array.getElem?_eq_some_iff.1 h1).1
      have hd : i < dos.length := by rw [← hst.len]; exact hisz
      have e := List.getElem?_eq_getElem hd
      generalize dos[i] = d at e
      have hL : L i = false := by rw [← hLL, ← getD_true (by omega)]; exact h2
      have hpre : ∀ p ∈ d.pre, L p = true := by
        have hp := hst.pre i o d h1 e
        simp only [preAt, Bool.and_eq_true, List.all_eq_true] at hp
        intro p hpm
        have := hp.2 p hpm
        rw [List.any_eq_true] at this
        obtain ⟨ed, he, hq⟩ := this
        simp only [Bool.and_eq_true, Bool.or_eq_true, decide_eq_true_eq] at hq
        have hLe : L ed.on = true := by rw [← hLL]; exact h3 ed he hq.1
        rcases hq.2 with q | q
        · rw [← q]; exact hLe
        · cases hq2 : dos[ed.on]? with
          | none => rw [hq2] at q; cases q
          | some b =>
            rw [hq2] at q
            exact hcl ed.on b hq2 hLe p (by simpa using q)
      have hc := hst.chk i o d h1 e
      simp only [chkO, Bool.and_eq_true, decide_eq_true_eq] at hc
      obtain ⟨⟨⟨hdst, hop⟩, hS⟩, hgd⟩ := hc
      have him : i ≤ m := by
        rcases Nat.lt_or_ge m i with q | q
        · rcases t.fin with ⟨q1, _⟩ | ⟨o', v, H, q1, _, _, _, _, q2⟩
          · omega
          · have := q2 i d q e
            rw [Nat.zero_add] at this
            have := hm m (hpre m (by simpa using this)); omega
        · exact q
      simp only [wpOp, h1]
      have hnext : ∀ {s2 : St} {K2 : Kz} {a2 : Act} {w2 : World}, (∃ g', Stage dos wt m (addL L i) g' ∧ Can dos m st (addL L i) g' s2) → i < m → KL K K2 → Step K w K2 w2 → StRel S K2 s2 a2 w2 → Keeps s s2 → wpAny P .any ops Q fuel (listed.setIfInBounds i true) a2 w2 := by
        intro s2 K2 a2 w2 hg2 hlt hkl2 hstep2 hrel2 hkp2
        obtain ⟨g', hg', hs'⟩ := hg2
        refine ih _ (addL L i) g' s2 K2 a2 w2 (by simpa using hsz) (fun j => ?_) ?_ ?_ (fun j q => ?_) hg' hs' (hkl.trans hkl2) (hstep.trans hstep2) hrel2 (hkp.trans hkp2)
        · rw [getD_setB (by omega)]
          simp only [addL, hLL]
        · have := unl_add hL hisz; omega
        · intro j b hb q p hpm
          simp only [addL, Bool.or_eq_true, decide_eq_true_eq] at q ⊢
          rcases q with q | q
          · exact .inl (hcl j b hb q p hpm)
          · subst q
            rw [e] at hb; cases hb
            exact .inl (hpre p hpm)
        · simp only [addL, Bool.or_eq_true, decide_eq_true_eq] at q
          rcases q with q | q
          · exact hm j q
          · omega
      rcases Nat.lt_or_ge i m with hlt | hge
      · obtain ⟨hw1, hput, hw0, _⟩ := t.step i d hlt e
        have hw2 := can_want hst t hcl hg hs him e hL hpre hw1
        obtain ⟨hwant, hSd⟩ := want_sound (ops := ops) hrel hgd hw2
        rw [hwant]
        cases hwt : wt i with
        | false =>
          simp only [Bool.false_eq_true, if_false]
          obtain ⟨q1, q2⟩ := hw0 hwt
          have hncw : ¬ CW dos wt i := fun ⟨_, _, _, q⟩ => by rw [hwt] at q; cases q
          have hgo := can_next hst t hcl hg hs hlt e hL hpre (s1 := s) (fun q => absurd q hncw) (fun _ => rfl) rfl (.inl ⟨by rw [q1], rfl⟩)
          rw [q2, ← hdst] at hgo
          exact hnext hgo hlt (KL.refl K) (Step.refl K w) (hrel.put o.dst (hSd hwt) (rep_undef K)) (keeps_put (Keeps.refl s))
        | true =>
          simp only [if_true]
          obtain ⟨s1, r1, r2, r3, r4, r5⟩ := can_res hst t hcl hg hs hlt e hL hpre hwt
          have hgo := can_next hst t hcl hg hs hlt e hL hpre r2 r3 r4 r5
          rw [← hdst] at hgo r1
          left
          refine op_sound hρ hrel hop hS r1 _ _ (fun a' w' hdn => ?_) (fun v w' hdn => ?_)
          · obtain ⟨v, s', K', q1, q2, q3, q4, q5⟩ := hdn
            obtain ⟨rfl, rfl⟩ := OpRes.ok_inj q1
            exact hnext hgo hlt q2 q3 q4 (keeps_put q5)
          · obtain ⟨v2, H, K', q1, _⟩ := hdn
            cases q1
      · have him2 : i = m := by omega
        subst him2
        rcases t.fin with ⟨q1, _⟩ | ⟨o', v, H, q1, q2, q3, q4, q5, q6⟩
        · omega
        rw [e] at q1
        cases q1
        have hw2 := can_want hst t hcl hg hs him e hL hpre q2
        obtain ⟨hwant, _⟩ := want_sound (ops := ops) hrel hgd hw2
        rw [hwant]
        simp only [if_true]
        left
        have hC : isC d.o.op = true := by
          cases hq : isC d.o.op with
          | true => rfl
          | false => obtain ⟨v', k1⟩ := quiet_state hq q4; cases k1
        have hgi := stage_is hst hg him e hL hpre hC (fun q => by omega)
        obtain ⟨hb, hl⟩ := can_base t hs him
        have hse : s = setT (st i) s.t := by
          have := hs.H
          rw [hgi] at this
          cases s
          simp only at this hb
          rw [this, hb]
          rfl
        have hslot : ∀ x, d.slot = some x → s.t.getD x .undef = (st i).t.getD x .undef := fun x q => can_slot hst t hcl hg hs him e hL hpre q
        have hnl : ∀ sz ag y, d.o.op ≠ .load sz ag y := fun sz ag y q => by rw [q] at hC; cases hC
        have hns : ∀ sz y z, d.o.op ≠ .store sz y z := fun sz y z q => by
          rw [q] at q4
          obtain ⟨s1, k1, _⟩ := store_setT (t := (st i).t) (fun _ _ => rfl) rfl (fun _ _ _ => rfl) q4
          cases k1
        have hnd : ∀ x, d.o.dst = some x → noVar (s.t.getD x .undef) = noVar ((st i).t.getD x .undef) := fun x q => by
          rw [hs.other x (fun j b h1 h2 h3 => absurd q (hst.dd j i b d h1 h2 e x h3)), hgi]
        have := opA_setT (ρ := ρ) (d := d.o.dst) (s := st i) (t := s.t) (op := d.o.op) (can_opds hst t hcl hg hs him e hL hpre) hl hnd (fun sz ag y _ _ q _ => absurd q (hnl sz ag y)) hns
        rw [q4, ← hse] at this
        simp only [Option.map_some, OpRes.withT] at this
        rw [← hdst] at this
        refine op_sound hρ hrel hop hS this _ _ (fun a' w' hdn => ?_) (fun pv w' hdn => ?_)
        · obtain ⟨v', s', K', q1, _⟩ := hdn
          cases q1
        · obtain ⟨v2, H2, K', k1, k2, k3, k4, k5, k6⟩ := hdn
          cases k1
          exact hp _ _ _ ⟨v, H, K', q5, hrel.d, hkl.trans k2, hstep.trans k3, k4, k5, hkp.transH k6⟩

theorem draw_sound {P : Program} {S : Nat → Bool} {ρ : Rho} (hρ : RhoOK P ρ) : DrawOK P S ρ (chkD P S) := by
  intro id ops dos hc s K a w r k kp h hr Q hn hp
  obtain ⟨hm, hst⟩ := stat_of hc
  obtain ⟨m, st, mid, vl, wt, t⟩ := trace_of hr
  refine wp_region_any hm ?_
  obtain ⟨g, g1, g2, g3, g4⟩ := next_CW (dos := dos) (wt := wt) m 0 (Nat.zero_le _)
  refine draw_any hρ hst t hn hp ops.size (Array.replicate ops.size false) (fun _ => false) g s K a _ (by simp) (fun i => ?_) (by rw [unl_none]; exact Nat.le_refl _) (fun i a _ q => (by cases q)) (fun i q => (by cases q)) ⟨g2, fun j hj hcw => absurd hcw (g3 j (Nat.zero_le _) hj), fun hlt => ⟨g4 hlt, rfl⟩⟩ ⟨?_, ?_, ?_, fun x hx => ?_, fun i a x _ _ _ q => (by cases q), fun i a x _ _ _ _ => (by rw [t.st0])⟩ (KL.refl K) ?_ h.drew (Keeps.refl s)
  · simp only [Array.getD_eq_getD_getElem?, Array.getElem?_replicate]
    split <;> rfl
  · rw [many_H t g1 g2 g3, t.st0]
  · rw [t.st0]
  · rw [t.st0]
  · rw [many_get t g1 g2 (fun i' a' h1 h2 h3 => hx i' a' (by omega) h3) (fun i' a' h1 h2 h3 h4 => absurd h4 (g3 i' h1 h2)), t.st0]
  · exact ⟨rfl, rfl, rfl, Nat.le_refl _, fun _ _ _ _ => rfl, fun _ _ q => q, fun _ _ q => .inl q, fun _ _ q k => absurd q k, fun _ _ q k => absurd q k, fun _ _ _ h _ => h⟩
end Go.Proofs.YtdhlgbnljhgabaaGreatDoor.AM

/- A call on plain arguments may be told over the empty heap. -/
namespace Go.Proofs.YtdhlgbnljhgabaaGreatDoor.AM
open Go

def framed (ρ : Rho) : Rho := fun f args H => bif pureL args then
    match ρ f args [] with
    | some (.ret v, []) => bif pure v then some (.ret v, H) else none
    | some (.pan v, []) => bif pure v then some (.pan v, H) else none
    | _ => none
  else none

theorem mapRep_pure {K K' : Kz} (hfz : ∀ b c, K.fz b = some c → ∃ r, K'.fz b = some (c ++ r)) (hfm : ∀ b c, K.fm b = some c → K'.fm b = some c) {es : List MapEntry} {kvs : List AV} (h : MapRep K es kvs) (hp : pureL kvs = true) : MapRep K' es kvs := by
  induction h with
  | nil => exact .nil
  | cons e a b es as hk hv _ ih =>
    simp only [pureL, Bool.and_eq_true] at hp
    exact .cons e a b es as (hk.pure hfz hfm hp.1) (hv.pure hfz hfm hp.2.1) (ih hp.2.2)

/-- What is known of frozen memory alone. -/
def Kz.bare (K : Kz) : Kz := ⟨0, fun _ => none, fun _ => 0, fun _ => nilv, K.fz, K.fm, fun _ => none⟩

theorem bare_fz {K : Kz} : ∀ b c, K.fz b = some c → ∃ r, K.bare.fz b = some (c ++ r) := fun b c q => ⟨[], by rw [List.append_nil]; exact q⟩
theorem bare_fm {K : Kz} : ∀ b c, K.fm b = some c → K.bare.fm b = some c := fun _ _ q => q

theorem frame_post {K : Kz} {H : Hp} {w w' : World} (hi : Inv K H w) (hsl : K.sl = fun _ => none) {K0 K1 : Kz} (e0 : K0 = ⟨0, fun _ => none, fun _ => 0, fun _ => nilv, K.fz, K.fm, fun _ => none⟩)
    (hkl : KL K0 K1) (hst : Step K0 w K1 w') (hi1 : Inv K1 [] w') :
    ∃ K', KL K K' ∧ K'.sl = (fun _ => none) ∧ Step K w K' w' ∧ Inv K' H w' ∧ (∀ v x, Rep K1 v x → pure x = true → Rep K' v x) := by
  have hno : ∀ b, ¬ K0.owned b := by
    rintro b (⟨i, q⟩ | ⟨i, q⟩)
    · rw [e0] at q; cases q
    · rw [e0] at q; simp [nilv, Value.ownBlock] at q
  have hlt : ∀ b, K.tracked b → b < w.heap.size := fun b ht => hi.lt ht
  have hfz : ∀ b c, K.fz b = some c → K1.fz b = some c := fun b c q => hst.fzx b c (hlt b (.inr (.inl (by rw [q]; simp)))) (by rw [e0]; exact q) (hno b)
  have hfm : ∀ b c, K.fm b = some c → K1.fm b = some c := fun b c q => hkl.fm b c (by rw [e0]; exact q)
  have hold : ∀ b, b < w.heap.size → w'.heap[b]? = w.heap[b]? := fun b hb => hst.kept b hb (hno b) (fun s q => by rw [e0] at q; cases q)
  have hnz : ∀ b, b < w.heap.size → K.fz b = none → K1.fz b = none := fun b hb q => by
    cases q2 : K1.fz b with
    | none => rfl
    | some c => exact absurd (hst.fz b hb (by rw [e0]; exact q) (by rw [q2]; simp)) (hno b)
  have hnm : ∀ b, b < w.heap.size → K.fm b = none → K1.fm b = none := fun b hb q => by
    cases q2 : K1.fm b with
    | none => rfl
    | some c => exact absurd (hst.fm b hb (by rw [e0]; exact q) (by rw [q2]; simp)) (hno b)
  let K' : Kz := { K with fz := K1.fz, fm := K1.fm }
  have hle : KLe K K' := ⟨Nat.le_refl _, fun _ _ q => q, fun _ => Nat.le_refl _, fun _ _ _ => rfl, fun b c q => ⟨[], by rw [List.append_nil]; exact hfz b c q⟩, hfm, fun _ _ q => q⟩
  have hpz : ∀ b c, K1.fz b = some c → ∃ r, K'.fz b = some (c ++ r) := fun b c q => ⟨[], by rw [List.append_nil]; exact q⟩
  have hk := hi.keep (w' := w') fun b ht => hold b (hlt b ht)
  refine ⟨K', hle.kl, hsl, ⟨hst.os, hst.tape, hst.output, hst.size, fun b hb _ _ => hold b hb, fun _ _ q => q, fun _ _ q => .inl q, fun b hb q n => absurd (hnz b hb q) n, fun b hb q n => absurd (hnm b hb q) n, fun b c _ q _ => hfz b c q⟩,
    ⟨hi.n, fun i o q => ?_, hi.vbd, hi.verd, fun b c q => ?_, fun b c q => ?_, hi.injv, hi.injr, hi.vr, fun i b q => ?_, fun i b c q1 q2 => ?_⟩, fun v x hv hp => hv.pure hpz (fun _ _ q => q) hp⟩
  · exact (hk.obj i o q).mono hle (by rw [hi.n]; exact (List.getElem?_eq_some_iff.1 q).1) rfl (fun q2 => q2)
  · obtain ⟨r1, cs, el, fr, r2, xs, ys, r3, r4⟩ := hi1.fz b c q
    exact ⟨r1, cs, el, fr, r2, xs, ys, r3, r4.pure hpz (fun _ _ q => q) r1⟩
  · obtain ⟨r1, es, cl, r2, r3⟩ := hi1.fm b c q
    exact ⟨r1, es, cl, r2, mapRep_pure hpz (fun _ _ q => q) r3 r1⟩
  · obtain ⟨h1, h2⟩ := hi.vz i b q
    have hb := hlt b (.inl (.inl ⟨i, q⟩))
    exact ⟨hnz b hb h1, hnm b hb h2⟩
  · have hb := hlt b (.inl (.inr ⟨i, q1⟩))
    cases q3 : K.fz b with
    | none =>
      have := hnz b hb q3
      rw [show K1.fz b = some c from q2] at this
      cases this
    | some c' =>
      have h2 := hfz b c' q3
      rw [show K1.fz b = some c from q2] at h2
      cases h2
      exact hi.rz i b c q1 q3

theorem frame {P : Program} {ρ : Rho} (h : RhoOK P ρ) : RhoOK P (framed ρ) := by
  intro f args H r hr K w cargs hi hsl hrep hn
  unfold framed at hr
  cases hp : pureL args with
  | false => rw [hp] at hr; simp at hr
  | true =>
    rw [hp] at hr
    simp only [cond_true] at hr
    have hi0 : Inv K.bare [] w := by
      refine ⟨rfl, fun i o q => (by simp at q), fun i b q => (by cases q), fun i _ => ⟨rfl, rfl⟩, fun b c q => ?_, fun b c q => ?_, fun i j b q => (by cases q), fun i j b q => (by simp [Kz.bare, nilv, Value.ownBlock] at q), fun i j b q => (by cases q), fun i b q => (by cases q), fun i b c q => (by simp [Kz.bare, nilv, Value.ownBlock] at q)⟩
      · obtain ⟨r1, cs, el, fr, r2, xs, ys, r3, r4⟩ := hi.fz b c q
        exact ⟨r1, cs, el, fr, r2, xs, ys, r3, r4.pure bare_fz bare_fm r1⟩
      · obtain ⟨r1, es, cl, r2, r3⟩ := hi.fm b c q
        exact ⟨r1, es, cl, r2, mapRep_pure bare_fz bare_fm r3 r1⟩
    cases hq : ρ f args [] with
    | none => rw [hq] at hr; simp at hr
    | some r0 =>
      rw [hq] at hr
      obtain ⟨h1, h2⟩ := h f args [] r0 hq K.bare w cargs hi0 rfl (hrep.pure bare_fz bare_fm hp) hn
      refine ⟨h1, h2.mono fun e w' hpost => ?_⟩
      obtain ⟨K1, k1, k2, k3, k4, k5, k6⟩ := hpost
      obtain ⟨o, H1⟩ := r0
      cases H1 with
      | cons x l => cases o <;> simp at hr
      | nil =>
        obtain ⟨K', l1, l2, l3, l4, l5⟩ := frame_post hi hsl rfl k1 k3 k4
        cases o with
        | ret v =>
          simp only at hr k6
          cases hv : pure v with
          | false => rw [hv] at hr; simp at hr
          | true =>
            rw [hv] at hr
            simp only [cond_true, Option.some.injEq] at hr
            subst hr
            obtain ⟨v', m1, m2⟩ := k6
            exact ⟨K', l1, l2, l3, l4, fun _ _ q => q, v', m1, l5 _ _ m2 hv⟩
        | pan v =>
          simp only at hr k6
          cases hv : pure v with
          | false => rw [hv] at hr; simp at hr
          | true =>
            rw [hv] at hr
            simp only [cond_true, Option.some.injEq] at hr
            subst hr
            obtain ⟨v', m1, m2⟩ := k6
            exact ⟨K', l1, l2, l3, l4, fun _ _ q => q, v', m1, l5 _ _ m2 hv⟩
end Go.Proofs.YtdhlgbnljhgabaaGreatDoor.AM

/- One function at a time: what its code comes to, told over the empty heap. -/
namespace Go.Proofs.YtdhlgbnljhgabaaGreatDoor.AM
open Go

/-- What a function's code comes to, its callees as told. -/
def runF (ρ : Rho) (N : Nat) (fn : AFun) (args : List AV) (H : Hp) : R :=
  exec ρ N fn.body ⟨args ++ List.replicate (fn.n - args.length) .undef, H, H.length⟩ fun e s => match e with
    | .normal => fin fn H.length s
    | .ret => fin fn H.length s
    | .panic v => if pure v then some (.pan v, s.H.take H.length) else none
    | .exit _ => none

theorem code_ok {P : Program} {ρ : Rho} (hρ : RhoOK P ρ) {S : Nat → Bool} {f N : Nat} {fn : AFun} (hc : chkFun P S (chkD P S) f fn = true) : PrimOK P f (runF ρ N fn) := by
  have h := call_sound (P := P) (N := N) (F := fun _ => none) (by simp) 0
  clear h
  intro args H r h K w cargs hi hsl hr hn
  unfold chkFun at hc
  split at hc
  · rename_i func hfunc
    split at hc
    · rename_i c hbody
      simp only [Bool.and_eq_true, decide_eq_true_eq] at hc
      obtain ⟨⟨⟨c1, c2⟩, c3⟩, c4⟩ := hc
      refine ⟨⟨func, c, hfunc, hbody, c1⟩, calls_of_wp hfunc hbody (Code.wp_mono (fun e a' w' q => ?_) (exec_sound hρ (draw_sound hρ) c4 (entry_rel hi hsl hr hn fn.n _ (by rw [c2]; simp)) h))⟩
      cases e with
      | normal =>
        obtain ⟨s', K', q1, q2, q3, q4, q5⟩ := q
        obtain ⟨v, k1, k2⟩ := fin_sound (s0 := ⟨args ++ List.replicate (fn.n - args.length) .undef, H, H.length⟩) hi rfl q2 q3 q4 q5 hsl c3 q1
        exact ⟨q4.d, v, k1, k2⟩
      | ret =>
        obtain ⟨s', K', q1, q2, q3, q4, q5⟩ := q
        obtain ⟨v, k1, k2⟩ := fin_sound (s0 := ⟨args ++ List.replicate (fn.n - args.length) .undef, H, H.length⟩) hi rfl q2 q3 q4 q5 hsl c3 q1
        exact ⟨q4.d, v, k1, k2⟩
      | exit id =>
        obtain ⟨s', K', q1, _⟩ := q
        simp at q1
      | panic ch =>
        obtain ⟨pv, v, s', K', rfl, q1, q2, q3, q4, q5, q6, q7⟩ := q
        simp only at q1
        split at q1
        · rename_i hp
          simp only [Option.some.injEq] at q1
          subst q1
          refine ⟨q2, ?_⟩
          have hle : H.length ≤ s'.H.length := by
            have h1 := q3.n
            rw [hi.n, q5.n] at h1
            exact h1
          have hbok : BaseOK s'.H H.length := q7.2 H.length (Nat.le_refl _) (baseOK_all hi)
          have hkl := cut_KL (n := H.length) hi rfl q3 q5
          have hst := cut_Step (H := s'.H) (n := H.length) q4
          exact ⟨(K'.cut s'.H H.length).withSl fun _ => none, ⟨hkl.n, hkl.vb, hkl.ver, hkl.rv, hkl.fz, hkl.fm⟩, rfl, ⟨hst.os, hst.tape, hst.output, hst.size, hst.kept, fun b hb q => hst.owned b hb q, fun _ _ q => (by cases q), fun b hb q1 q2 => hst.fz b hb q1 q2, fun b hb q1 q2 => hst.fm b hb q1 q2, hst.fzx⟩, inv_slots (q5.cut hle hbok) _, fun b hb q => (q7.2 b hb q).take hle, pv, rfl, Rep.slots _ (cut_pure q5 q6 hp) (noLp_of_pure hp)⟩
        · simp at q1
      | _ => exact q.elim
    · simp at hc
  · simp at hc

def pureO : Out → Bool
  | .ret v => pure v
  | .pan v => pure v

/-- A function of plain values. -/
def pureP (sp : List AV → Option Out) : List AV → Hp → R := fun args H => bif pureL args then
    match sp args with
    | some o => bif pureO o then some (o, H) else none
    | none => none
  else none

def onlyAt (f : Nat) (p : List AV → Hp → R) : Rho := fun g args H => if g = f then p args H else none

theorem onlyAt_ok {P : Program} {f : Nat} {p : List AV → Hp → R} (h : PrimOK P f p) : RhoOK P (onlyAt f p) := by
  intro g args H r hr K w cargs hi hsl hrep hn
  unfold onlyAt at hr
  split at hr
  · rename_i e; subst e
    exact h args H r hr K w cargs hi hsl hrep hn
  · simp at hr

theorem weaken {P : Program} {f : Nat} {p q : List AV → Hp → R} (h : PrimOK P f p) (hq : ∀ args H r, q args H = some r → p args H = some r) : PrimOK P f q :=
  fun args H r hr K w cargs hi hsl hrep hn => h args H r (hq args H r hr) K w cargs hi hsl hrep hn

theorem rho_of {P : Program} {ρ : Rho} (h : ∀ f, PrimOK P f (ρ f)) : RhoOK P ρ := fun f args H r hr K w cargs hi hsl hrep hn => h f args H r hr K w cargs hi hsl hrep hn

theorem none_ok {P : Program} {f : Nat} : PrimOK P f (fun _ _ => none) := fun args H r hr => by cases hr

/-- A function of plain values, by what its code comes to over the empty heap. -/
theorem pure_ok {P : Program} {f : Nat} {p : List AV → Hp → R} {sp : List AV → Option Out} (h : PrimOK P f p) (hs : ∀ args o, pureL args = true → sp args = some o → p args [] = some (o, [])) : PrimOK P f (pureP sp) := by
  have h1 := frame (onlyAt_ok h)
  refine weaken (p := framed (onlyAt f p) f) (fun args H r hr K w cargs hi hsl hrep hn => h1 f args H r hr K w cargs hi hsl hrep hn) fun args H r hr => ?_
  unfold pureP at hr
  unfold framed onlyAt
  cases hp : pureL args with
  | false => rw [hp] at hr; simp at hr
  | true =>
    rw [hp] at hr
    simp only [cond_true] at hr ⊢
    cases hsp : sp args with
    | none => rw [hsp] at hr; simp at hr
    | some o =>
      rw [hsp] at hr
      simp only at hr
      rw [if_pos trivial, hs args o hp hsp]
      cases o with
      | ret v => simpa [pureO] using hr
      | pan v => simpa [pureO] using hr
end Go.Proofs.YtdhlgbnljhgabaaGreatDoor.AM
