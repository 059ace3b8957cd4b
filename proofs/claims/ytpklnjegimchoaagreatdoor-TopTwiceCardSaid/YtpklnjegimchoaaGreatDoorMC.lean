/-
  A run by forms: the state, and operations that make memory, or write it.
-/
import Derived.MapKept
import Derived.Laws.BitsAllLaws
import Derived.Laws.Closers25b
import Derived.Laws.MakeOwn
import Derived.Laws.CopyRow
import Derived.Lib.AppendZeros
import Derived.Lib.AppendZerosOnto
import Derived.Test.YtpklnjegimchoaaGreatDoorMA
import Derived.Test.YtpklnjegimchoaaGreatDoorMB
namespace Go.Z
open Go Go.X
section
variable {P : Program} {ρ : Env} {H : Hp} {bi : Bi} {n : Nat} {L : Sl} {a : Act} {o : Oper} {zt : Zt}
noncomputable def cellsOf (bi : Bi) (x : SV) (m : Nat) : Option Cs :=
  match x with
  | .e (.c y) => bif Nat.beq m 1 then some [.one y] else none
  | .e (.agg cs) => match eq? bi (Cs.len cs) (.k (.ofNat m)) with
    | some true => some cs
    | _ => none
  | .tup _ => none
theorem cellsOf_ok (hb : Bok ρ bi) {x : SV} {m : Nat} {cs : Cs} {v : Value} (h : cellsOf bi x m = some cs) (hv : x.ev ρ = some v) : ∃ vs, Cs.ev ρ cs = some vs ∧ v.cells = List.toArray vs ∧ vs.length = m ∧ ∀ u ∈ vs, u.oneCell' = true := by
  unfold cellsOf at h
  split at h
  · next y =>
    cases hm : Nat.beq m 1 with
    | false => rw [hm, cond_false] at h; cases h
    | true =>
      rw [hm, cond_true] at h
      cases h
      have h1 := SC.ev_one (show y.ev ρ = some v from hv)
      have hy : y.ev ρ = some v := hv
      refine ⟨[v], by simp only [Cs.ev, Seg.ev, hy, Option.map_some]; rfl, ?_, (Nat.eq_of_beq_eq_true hm).symm, fun u hu => by simp at hu; subst hu; exact h1⟩
      cases v <;> first | rfl | (simp [Value.oneCell'] at h1)
  · next cs' =>
    split at h
    · next he =>
      cases h
      simp only [SV.ev, EV.ev] at hv
      obtain ⟨vs, hvs, rfl⟩ := Option.map_eq_some_iff.1 hv
      have := of_decide_eq_true (eq_ok hb (Cs.ev_len hvs) (rfl : (Lin.k (.ofNat m)).ev ρ = some (Int.ofNat m)) he).symm
      have e : (Int.ofNat m : Int) = (m : Int) := rfl
      exact ⟨vs, hvs, rfl, by omega, Cs.ev_one hvs⟩
    · cases h
  · cases h
noncomputable def putParts (bi : Bi) (L : Sl) (pl : List (Nat × Nat)) (ps : List (Nat × Operand)) : Cs → Option Cs :=
  lrec (fun cs => some cs) (fun p _ ih cs => match nth pl p.1, evS L p.2 with
    | some (off, m), some x => match cellsOf bi x m with
      | some new => match putC bi cs off new (.k (.ofNat m)) with
        | some cs' => ih cs'
        | none => none
      | none => none
    | _, _ => none) ps
theorem putParts_ok (hb : Bok ρ bi) (hf : Frm ρ n L a) {pl : List (Nat × Nat)} : ∀ {ps : List (Nat × Operand)} {cs r : Cs} {zs : List Value}, putParts bi L pl ps cs = some r → Cs.ev ρ cs = some zs →
    ∃ vs cells, evp (full a) ps = some vs ∧ Puts pl zs vs cells ∧ Cs.ev ρ r = some cells
  | [], cs, r, zs, h, hz => by
    have e : putParts bi L pl [] cs = some cs := rfl
    rw [e] at h
    cases h
    exact ⟨[], zs, rfl, rfl, hz⟩
  | (i, x) :: ps, cs, r, zs, h, hz => by
    have e : putParts bi L pl ((i, x) :: ps) cs = match nth pl i, evS L x with
      | some (off, m), some x => match cellsOf bi x m with
        | some new => match putC bi cs off new (.k (.ofNat m)) with
          | some cs' => putParts bi L pl ps cs'
          | none => none
        | none => none
      | _, _ => none := rfl
    rw [e] at h
    split at h
    · next off m s hp hs =>
      obtain ⟨v, hv, hv'⟩ := evS_ok hf hs
      split at h
      · next new hn =>
        obtain ⟨vs, h1, h2, h3, _⟩ := cellsOf_ok hb hn hv
        split at h
        · next cs' hc =>
          have hl : (Lin.k (.ofNat m)).ev ρ = some (vs.length : Int) := by rw [h3]; rfl
          obtain ⟨h4, h5⟩ := putC_ok hb hc hz h1 hl
          obtain ⟨ws, cells, g1, g2, g3⟩ := putParts_ok hb hf h h4
          rw [nth_eq] at hp
          refine ⟨(i, v) :: ws, cells, by simp only [evp, hv', Option.bind_some, g1, Option.map_some], ⟨off, m, vs, _, hp, h2, h3, by omega, ?_, g2⟩, g3⟩
          rw [h3]
        · cases h
      · cases h
    · cases h
noncomputable def qBuild (P : Program) (zt : Zt) (bi : Bi) (L : Sl) (t : TypeId) (ps : List (Nat × Operand)) : Option SV :=
  match bplaces P t, zcells P zt t with
  | some pl, some cs => match putParts bi L pl ps cs with
    | some r => some (.e (.agg r))
    | none => none
  | _, _ => none
theorem qBuild_ok (hz : zt.Ok P) (hb : Bok ρ bi) (hf : Frm ρ n L a) {t : TypeId} {ps : Array (Nat × Operand)} {r : SV} (ho : o.op = .build t ps) (h : qBuild P zt bi L t ps.toList = some r) : Yld P ρ H a o r := by
  unfold qBuild at h
  split at h
  · next pl cs hp hc =>
    split at h
    · next c hr =>
      cases h
      obtain ⟨zs, h1, h2⟩ := zcells_ok hz hc
      obtain ⟨vs, cells, g1, g2, g3⟩ := putParts_ok hb hf hr (h2 ρ)
      refine yld (v := .agg cells.toArray) (by simp only [SV.ev, EV.ev, g3, Option.map_some]) (q_buildP hp h1 (ps := ps.toList) (by rw [ho]) g1 g2)
    · cases h
  · cases h
noncomputable def ptrsOf (L : Sl) : List Operand → Option (List (Nat × Nat))
  | [] => some []
  | x :: r => match evS L x, ptrsOf L r with
    | some (.e (.c (.ptr b o))), some us => some ((b, o) :: us)
    | _, _ => none
theorem ptrsOf_ok (hf : Frm ρ n L a) : ∀ {xs : List Operand} {us : List (Nat × Nat)}, ptrsOf L xs = some us → ∃ vs, evPs ρ us = some vs ∧ evs (full a) xs = some vs
  | [], _, h => by simp only [ptrsOf] at h; cases h; exact ⟨[], rfl, rfl⟩
  | x :: r, _, h => by
    simp only [ptrsOf] at h
    split at h
    · next b k us hx hu =>
      cases h
      obtain ⟨xv, hxv, hx'⟩ := evS_ok hf hx
      obtain ⟨vs, h1, h2⟩ := ptrsOf_ok hf hu
      simp only [SV.ev, EV.ev, SC.ev] at hxv
      obtain ⟨ad, had, rfl⟩ := Option.map_eq_some_iff.1 hxv
      exact ⟨.pointer (some (ad.add k)) :: vs, by simp only [evPs, had, h1], by simp only [evs, hx', h2, Option.bind_some, Option.map_some]⟩
    · cases h
noncomputable def qFunc (L : Sl) (f : Fn) (first captured : List Operand) : Option SV :=
  match f with
  | .func g => match ptrsOf L first, ptrsOf L captured with
    | some ps, some us => some (.e (.c (.fn g ps us)))
    | _, _ => none
  | _ => none
theorem qFunc_ok (hf : Frm ρ n L a) {f : Fn} {first captured : Array Operand} {r : SV} (ho : o.op = .makeFunc f first captured) (h : qFunc L f first.toList captured.toList = some r) : Yld P ρ H a o r := by
  unfold qFunc at h
  split at h
  · next g =>
    split at h
    · next ps us hp hu =>
      cases h
      obtain ⟨vp, h3, h4⟩ := ptrsOf_ok hf hp
      obtain ⟨vs, h1, h2⟩ := ptrsOf_ok hf hu
      refine yld (v := .func (.func g) vp.toArray vs.toArray) (by simp only [SV.ev, EV.ev, SC.ev, h1, h3]) (q_func (first := first.toList) (captured := captured.toList) (by rw [ho]) h4 h2)
    · cases h
  · cases h
def fnd (key : Int) : List (Int × EV) → Option EV
  | [] => none
  | (k, x) :: r => bif ieq key k then some x else fnd key r
theorem find_ok (q : IntKind) (key : Int) : ∀ {es : List (Int × EV)} {ms : List MapEntry} (i : Nat), evMs ρ es = some (ms.map fun m => (m.key, m.val)) →
    (fnd key es = none ∧ Instr.findNow (.int q) (.int .i64 key) ms i = some none) ∨ (∃ x v j, fnd key es = some x ∧ x.ev ρ = some v ∧ Instr.findNow (.int q) (.int .i64 key) ms i = some (some (i + j, v)) ∧
      ms[j]?.map (·.key) = some (.int .i64 key) ∧ ms[j]?.map (·.val) = some v)
  | [], ms, i, h => by
    simp only [evMs] at h
    have : ms = [] := by simpa using h.symm
    subst this
    exact .inl ⟨rfl, rfl⟩
  | (k, x) :: r, [], i, h => by
    simp only [evMs] at h
    split at h <;> simp at h
  | (k, x) :: r, m :: ms, i, h => by
    simp only [evMs] at h
    split at h
    · next v vs hv hvs =>
      simp only [Option.some.injEq, List.map_cons, List.cons.injEq, Prod.mk.injEq] at h
      obtain ⟨⟨hk, hval⟩, hr⟩ := h
      simp only [fnd]
      have e : Instr.findNow (.int q) (.int .i64 key) (m :: ms) i = if key == k then some (some (i, m.val)) else Instr.findNow (.int q) (.int .i64 key) ms (i + 1) := by
        simp only [Instr.findNow, ← hk, Instr.sameNow, if_true]
        cases key == k <;> rfl
      cases hkk : ieq key k with
      | true =>
        have := ieq_true hkk
        subst this
        exact .inr ⟨x, v, 0, rfl, hv, by rw [e]; simp [hval], by simp [hk], by simp [hval]⟩
      | false =>
        have hne : key ≠ k := by rw [ieq_dec] at hkk; exact of_decide_eq_false hkk
        have hbe : (key == k) = false := by simpa using hne
        rw [cond_false, e, hbe, if_neg (by simp)]
        rcases find_ok q key (i + 1) (by rw [hvs, hr]) with ⟨h1, h2⟩ | ⟨y, u, j, h1, h2, h3, h4, h5⟩
        · exact .inl ⟨h1, h2⟩
        · exact .inr ⟨y, u, j + 1, h1, h2, by rw [h3]; congr 3; omega, by simpa using h4, by simpa using h5⟩
    · cases h
noncomputable def mapAt (H : Hp) (x : Option SV) : Option (Option (List (Int × EV))) :=
  match x with
  | some (.e (.c .mnil)) => some none
  | some (.e (.c (.map b))) => match H.get b with
    | some hb => match hb.ms with
      | some es => some (some es)
      | none => none
    | _ => none
  | _ => none
noncomputable def qLook (P : Program) (zt : Zt) (H : Hp) (L : Sl) (t : TypeId) (x y : Operand) (ok : Bool) : Option SV :=
  match mapI P t, mapAt H (evS L x), evS L y with
  | some e, some es, some (.e (.c (.int .i64 (.k key)))) => match (match es with
      | some es => fnd key es
      | none => none) with
    | some v => bif ok then some (.tup [v, .c (.bool true)]) else some (.e v)
    | none => match zval P zt e with
      | some v => bif ok then some (.tup [v, .c (.bool false)]) else some (.e v)
      | none => none
  | _, _, _ => none
theorem run_checkKey {kt : TypeId} {q : IntKind} (hk : P.underlying kt = some (.int q)) (b : Bool) (key : Int) (w : World) : (Instr.checkKey b 10000 kt (.int .i64 key)).run P w = .ok () w := by
  have e : Instr.checkKey b 10000 kt (.int .i64 key) = Instr.checkKey b (9999 + 1) kt (.int .i64 key) := rfl
  rw [e]
  unfold Instr.checkKey
  simp [run_underlying hk]
theorem run_findKey {kt : TypeId} {q : IntKind} (hk : P.underlying kt = some (.int q)) {key : Value} {ms : List MapEntry} {r : Option (Nat × Value)} (h : Instr.findNow (.int q) key ms 0 = some r) (w : World) : (Instr.findKey kt key ms).run P w = .ok r w := by
  unfold Instr.findKey
  simp [run_underlying hk, h]
theorem run_look_nil {t kt e : TypeId} {q : IntKind} (ht : P.underlying t = some (.map kt e)) (hk : P.underlying kt = some (.int q)) {w : World} {z : Value} (hz : (zeroValue e).run P w = .ok z w) (key : Int) (c : Bool) :
    (Instr.lookup t (.map none) (.int .i64 key) c).run P w = .ok (if c then .tuple #[z, .bool false] else z) w := by
  have h1 : (Instr.findKey kt (.int .i64 key) []).run P w = .ok none w := run_findKey hk rfl w
  simp [Instr.lookup, run_underlying ht, run_checkKey hk, h1, hz, Result.andThen]
theorem run_look_no {t kt e : TypeId} {q : IntKind} (ht : P.underlying t = some (.map kt e)) (hk : P.underlying kt = some (.int q)) {w : World} {z : Value} (hz : (zeroValue e).run P w = .ok z w) {r : Nat} {ms : Array MapEntry} {clock : Nat} (hb : w.heap[r]? = some (.map ms clock)) {key : Int} (hf : Instr.findNow (.int q) (.int .i64 key) ms.toList 0 = some none) (c : Bool) :
    (Instr.lookup t (.map (some r)) (.int .i64 key) c).run P w = .ok (if c then .tuple #[z, .bool false] else z) w := by
  have h1 := run_findKey hk hf w
  simp [Instr.lookup, run_underlying ht, MapKept.run_getObj_map hb, run_checkKey hk, h1, hz, Result.andThen]
theorem run_look_yes {t kt e : TypeId} {q : IntKind} (ht : P.underlying t = some (.map kt e)) (hk : P.underlying kt = some (.int q)) {w : World} {r : Nat} {ms : Array MapEntry} {clock : Nat} (hb : w.heap[r]? = some (.map ms clock)) {key : Int} {j : Nat} {v : Value} (hf : Instr.findNow (.int q) (.int .i64 key) ms.toList 0 = some (some (j, v))) (c : Bool) :
    (Instr.lookup t (.map (some r)) (.int .i64 key) c).run P w = .ok (if c then .tuple #[v, .bool true] else v) w := by
  have h1 := run_findKey hk hf w
  simp [Instr.lookup, run_underlying ht, MapKept.run_getObj_map hb, run_checkKey hk, h1, Result.andThen]
theorem z_look {S : World → Prop} {dF : List Deferred} {m : Nat} {L : Slots} {t : TypeId} {x y : Operand} {u k v : Value} {ok : Bool} (ho : o.op = .lookup t x y ok) (hx : ev L x = some u) (hy : ev L y = some k) (hr : ∀ w, S w → (Instr.lookup t u k ok).run P w = .ok v w) : Qt P dF m L S o v := fun a w hf hw => by
  simp only [execOp, ho, hf.eval hx, hf.eval hy]
  simp [hr w hw]
theorem evLook {v : Value} {x : EV} (hx : x.ev ρ = some v) (b ok : Bool) : (bif ok then SV.tup [x, .c (.bool b)] else .e x).ev ρ = some (if ok then .tuple #[v, .bool b] else v) := by
  cases ok
  · simpa [SV.ev] using hx
  · have h2 : (EV.c (.bool b)).ev ρ = some (.bool b) := rfl
    simp only [cond_true, SV.ev, evEs, hx, h2, Option.map_some, if_true]
theorem qLook_ok (hz : zt.Ok P) (hf : Frm ρ n L a) (hmx : ∀ b hb es, H.get b = some hb → hb.ms = some es → ∃ ps, evMs ρ es = some ps) {t : TypeId} {x y : Operand} {ok : Bool} {r : SV} (ho : o.op = .lookup t x y ok) (h : qLook P zt H L t x y ok = some r) : Yld P ρ H a o r := by
  unfold qLook at h
  split at h
  · next e es key ht hm hy =>
    obtain ⟨kt, hu, hk⟩ := mapI_ok ht
    obtain ⟨yv, hyv, hy'⟩ := evS_ok hf hy
    cases hyv
    unfold mapAt at hm
    split at hm
    · next hx =>
      cases hm
      obtain ⟨xv, hxv, hx'⟩ := evS_ok hf hx
      cases hxv
      simp only at h
      split at h
      · next v hv =>
        have e2 : r = bif ok then SV.tup [v, .c (.bool false)] else .e v := by cases ok <;> (simp only [cond_true, cond_false] at h ⊢; cases h; rfl)
        subst e2
        obtain ⟨z, hz1, hz2⟩ := zval_ok hz hv ρ
        exact yld (evLook hz1 false ok) (z_look ho hx' hy' fun w _ => run_look_nil hu hk (hz2 w) key ok)
      · cases h
    · next b hx =>
      split at hm
      · next hbk hg =>
        have hmm : ∃ es', hbk.ms = some es' ∧ es = some es' := by
          split at hm
          · next es' hms => cases hm; exact ⟨es', hms, rfl⟩
          · cases hm
        obtain ⟨es', hms, rfl⟩ := hmm
        obtain ⟨xv, hxv, hx'⟩ := evS_ok hf hx
        simp only [SV.ev, EV.ev, SC.ev] at hxv
        obtain ⟨ad, had, rfl⟩ := Option.map_eq_some_iff.1 hxv
        obtain ⟨ps, hps⟩ := hmx b hbk es' hg hms
        have rd : ∀ w, Has ρ H w → ∃ ms clock, evMs ρ es' = some (ms.toList.map fun m => (m.key, m.val)) ∧ w.heap[ad.block]? = some (.map ms clock) := fun w hw => by
          obtain ⟨ad', had', hok⟩ := hw b _ hg
          obtain ⟨k, ms, clock, h1, h2, h3⟩ := HB.ms_ok hok hms
          rw [had] at had'
          cases had'
          subst h1
          exact ⟨ms, clock, h2, h3⟩
        simp only at h
        split at h
        · next v hv =>
          have e2 : r = bif ok then SV.tup [v, .c (.bool true)] else .e v := by cases ok <;> (simp only [cond_true, cond_false] at h ⊢; cases h; rfl)
          subst e2
          have hev : ∃ u, v.ev ρ = some u := by
            have key2 : ∀ {es : List (Int × EV)} {ps : List (Value × Value)}, evMs ρ es = some ps → fnd key es = some v → ∃ u, v.ev ρ = some u := by
              intro es
              induction es with
              | nil => intro ps _ hf; cases hf
              | cons p r ih =>
                obtain ⟨k, x⟩ := p
                intro ps he hf
                simp only [evMs] at he
                split at he
                · next v' vs' h1 h2 =>
                  simp only [fnd] at hf
                  cases hkk : ieq key k with
                  | true => rw [hkk, cond_true] at hf; cases hf; exact ⟨_, h1⟩
                  | false => rw [hkk, cond_false] at hf; exact ih h2 hf
                · cases he
            exact key2 hps hv
          obtain ⟨u, hu'⟩ := hev
          refine yld (evLook hu' true ok) (z_look ho hx' hy' fun w hw => ?_)
          obtain ⟨ms, clock, h1, h2⟩ := rd w hw
          rcases find_ok .i64 key 0 h1 with ⟨h3, _⟩ | ⟨x', v', j, h3, h4, h5, _, _⟩
          · rw [hv] at h3; cases h3
          · rw [hv] at h3
            cases h3
            rw [hu'] at h4
            cases h4
            exact run_look_yes hu hk h2 h5 ok
        · next hv =>
          split at h
          · next v hzv =>
            have e2 : r = bif ok then SV.tup [v, .c (.bool false)] else .e v := by cases ok <;> (simp only [cond_true, cond_false] at h ⊢; cases h; rfl)
            subst e2
            obtain ⟨z, hz1, hz2⟩ := zval_ok hz hzv ρ
            refine yld (evLook hz1 false ok) (z_look ho hx' hy' fun w hw => ?_)
            obtain ⟨ms, clock, h1, h2⟩ := rd w hw
            rcases find_ok .i64 key 0 h1 with ⟨_, h3⟩ | ⟨x', v', j, h3, _⟩
            · exact run_look_no hu hk (hz2 w) h2 h3 ok
            · rw [hv] at h3; cases h3
          · cases h
      · cases hm
    · cases hm
  · cases h
noncomputable def qB1 (P : Program) (L : Sl) (b : Builtin) (x : Operand) (t : TypeId) : Option SV :=
  match b, evS L x with
  | .len, some (.e (.c (.slc _ _ l _))) => bif slcT P t then some (.e (.c (.int .i64 l))) else none
  | .len, some (.e (.c (.sld _ _ _ l _))) => bif slcT P t then some (.e (.c (.int .i64 l))) else none
  | .len, some (.e (.c .snil)) => bif slcT P t then some (.e (.c (.int .i64 (.k 0)))) else none
  | .len, some (.e (.c (.str s))) => match P.underlying t with
    | some .string => some (.e (.c (.int .i64 (.k (.ofNat s.size)))))
    | _ => none
  | .cap, some (.e (.c (.slc _ _ _ c))) => bif slcT P t then some (.e (.c (.int .i64 c))) else none
  | .cap, some (.e (.c .snil)) => bif slcT P t then some (.e (.c (.int .i64 (.k 0)))) else none
  | _, _ => none
theorem z_len {S : World → Prop} {dF : List Deferred} {m : Nat} {L : Slots} {x : Operand} {t e : TypeId} {A : Option Addr} {l c : Nat} (hu : P.underlying t = some (.slice e)) (ho : o.op = .call { callee := .builtin .len, args := #[x], argTypes := #[t] }) (hx : ev L x = some (.slice A l c)) :
    Qt P dF m L S o (.int .i64 l) := fun a w hf _ => by
  simp [execOp, ho, hf.eval hx, resolve, invoke, builtin, Builtin.len_, run_underlying hu, goInt]
theorem z_cap {S : World → Prop} {dF : List Deferred} {m : Nat} {L : Slots} {x : Operand} {t e : TypeId} {A : Option Addr} {l c : Nat} (hu : P.underlying t = some (.slice e)) (ho : o.op = .call { callee := .builtin .cap, args := #[x], argTypes := #[t] }) (hx : ev L x = some (.slice A l c)) :
    Qt P dF m L S o (.int .i64 c) := fun a w hf _ => by
  simp [execOp, ho, hf.eval hx, resolve, invoke, builtin, Builtin.cap_, run_underlying hu, goInt]
theorem slc_ev {b k : Nat} {l c : Lin} {v : Value} (h : (SC.slc b k l c).ev ρ = some v) : ∃ ad lv cv, ρ.b b = some ad ∧ l.ev ρ = some ((lv : Nat) : Int) ∧ c.ev ρ = some ((cv : Nat) : Int) ∧ lv ≤ cv ∧ v = .slice (some (ad.add k)) lv cv := by
  simp only [SC.ev] at h
  split at h
  · next ad lv cv had hl hc =>
    split at h
    · next hlc =>
      cases h
      exact ⟨ad, lv.toNat, cv.toNat, had, by rw [hl]; congr 1; omega, by rw [hc]; congr 1; omega, by omega, rfl⟩
    · cases h
  · cases h
theorem sld_ev {b k : Nat} {q l c : Lin} {v : Value} (h : (SC.sld b k q l c).ev ρ = some v) : ∃ A lv cv, l.ev ρ = some ((lv : Nat) : Int) ∧ v = .slice A lv cv := by
  simp only [SC.ev] at h
  split at h
  · next ad qv lv cv had hq hl hc =>
    split at h
    · next hlc =>
      cases h
      exact ⟨_, lv.toNat, _, by rw [hl]; congr 1; omega, rfl⟩
    · cases h
  · cases h
theorem qB1_ok (hf : Frm ρ n L a) {b : Builtin} {x : Operand} {t : TypeId} {r : SV} (ho : o.op = .call { callee := .builtin b, args := #[x], argTypes := #[t] }) (h : qB1 P L b x t = some r) : Yld P ρ H a o r := by
  unfold qB1 at h
  split at h
  · next hx =>
    obtain ⟨xv, hxv, hx'⟩ := evS_ok hf hx
    obtain ⟨ad, lv, cv, had, hl, hc, hlc, rfl⟩ := slc_ev hxv
    cases ht : slcT P t with
    | false => rw [ht, cond_false] at h; cases h
    | true =>
      rw [ht, cond_true] at h
      cases h
      obtain ⟨e, he⟩ := slcT_ok ht
      exact yld (evi hl) (z_len he ho hx')
  · next hx =>
    obtain ⟨xv, hxv, hx'⟩ := evS_ok hf hx
    obtain ⟨A, lv, cv, hl, rfl⟩ := sld_ev hxv
    cases ht : slcT P t with
    | false => rw [ht, cond_false] at h; cases h
    | true =>
      rw [ht, cond_true] at h
      cases h
      obtain ⟨e, he⟩ := slcT_ok ht
      exact yld (evi hl) (z_len he ho hx')
  · next hx =>
    obtain ⟨xv, hxv, hx'⟩ := evS_ok hf hx
    cases hxv
    cases ht : slcT P t with
    | false => rw [ht, cond_false] at h; cases h
    | true =>
      rw [ht, cond_true] at h
      cases h
      obtain ⟨e, he⟩ := slcT_ok ht
      exact yld rfl (z_len he ho hx')
  · next s hx =>
    obtain ⟨xv, hxv, hx'⟩ := evS_ok hf hx
    cases hxv
    split at h
    · next ht => cases h; exact yld rfl (q_lenS ht ho hx')
    · cases h
  · next hx =>
    obtain ⟨xv, hxv, hx'⟩ := evS_ok hf hx
    obtain ⟨ad, lv, cv, had, hl, hc, hlc, rfl⟩ := slc_ev hxv
    cases ht : slcT P t with
    | false => rw [ht, cond_false] at h; cases h
    | true =>
      rw [ht, cond_true] at h
      cases h
      obtain ⟨e, he⟩ := slcT_ok ht
      exact yld (evi hc) (z_cap he ho hx')
  · next hx =>
    obtain ⟨xv, hxv, hx'⟩ := evS_ok hf hx
    cases hxv
    cases ht : slcT P t with
    | false => rw [ht, cond_false] at h; cases h
    | true =>
      rw [ht, cond_true] at h
      cases h
      obtain ⟨e, he⟩ := slcT_ok ht
      exact yld rfl (z_cap he ho hx')
  · cases h
noncomputable def qB2 (bi : Bi) (L : Sl) (b : Builtin) (x y : Operand) : Option SV :=
  match evS L x, evS L y with
  | some (.e (.c (.int k u))), some (.e (.c (.int k' v))) => bif kq k k' then (match b, lt? bi u v with
    | .min, some true => some (.e (.c (.int k u)))
    | .min, some false => some (.e (.c (.int k v)))
    | .max, some true => some (.e (.c (.int k v)))
    | .max, some false => some (.e (.c (.int k u)))
    | _, _ => none) else none
  | _, _ => none
theorem qB2_ok (hb : Bok ρ bi) (hf : Frm ρ n L a) {b : Builtin} {x y : Operand} {t t' : TypeId} {r : SV} (ho : o.op = .call { callee := .builtin b, args := #[x, y], argTypes := #[t, t'] }) (h : qB2 bi L b x y = some r) : Yld P ρ H a o r := by
  unfold qB2 at h
  split at h
  · next k u k' v hx hy =>
    obtain ⟨xv, hxv, hx'⟩ := evS_ok hf hx
    obtain ⟨yv, hyv, hy'⟩ := evS_ok hf hy
    simp only [SV.ev, EV.ev, SC.ev] at hxv hyv
    obtain ⟨p, hp, rfl⟩ := Option.map_eq_some_iff.1 hxv
    obtain ⟨q, hq, rfl⟩ := Option.map_eq_some_iff.1 hyv
    cases hk : kq k k' with
    | false => rw [hk, cond_false] at h; cases h
    | true =>
      rw [hk, cond_true] at h
      have := kq_ok hk
      subst this
      split at h
      · next hlt =>
        cases h
        have hlt' := of_decide_eq_true (lt_ok hb hp hq hlt).symm
        have hq' := q_min (P := P) (dF := a.defers) (n := a.tmps.size) (S := Has ρ H) ho hx' hy'
        rw [Int.min_eq_left (by omega)] at hq'
        exact yld (evi hp) hq'
      · next hlt =>
        cases h
        have hlt' := of_decide_eq_false (lt_ok hb hp hq hlt).symm
        have hq' := q_min (P := P) (dF := a.defers) (n := a.tmps.size) (S := Has ρ H) ho hx' hy'
        rw [Int.min_eq_right (by omega)] at hq'
        exact yld (evi hq) hq'
      · next hlt =>
        cases h
        have hlt' := of_decide_eq_true (lt_ok hb hp hq hlt).symm
        have hq' := q_max (P := P) (dF := a.defers) (n := a.tmps.size) (S := Has ρ H) ho hx' hy'
        rw [Int.max_eq_right (by omega)] at hq'
        exact yld (evi hq) hq'
      · next hlt =>
        cases h
        have hlt' := of_decide_eq_false (lt_ok hb hp hq hlt).symm
        have hq' := q_max (P := P) (dF := a.defers) (n := a.tmps.size) (S := Has ρ H) ho hx' hy'
        rw [Int.max_eq_left (by omega)] at hq'
        exact yld (evi hp) hq'
      · cases h
  · cases h
noncomputable def qv0 (P : Program) (zt : Zt) (bi : Bi) (H : Hp) (L : Sl) (o : Op) : Option SV :=
  match o with
  | .move x => evS L x
  | .assign x => evS L x
  | .pick c x y => qPick L c x y
  | .binOp op t x y _ => qBin P bi L op t x y
  | .unOp op _ x => qUn bi L op x
  | .convert t t' x => qConv P bi L t t' x
  | .sliceToArrayPointer t x => qArrp P bi L t x
  | .nilCheck x => qNilc L x
  | .extract x i => qExt L x i
  | .fieldAddr t x f => qFad P L t x f
  | .field t x f => qFld P bi L t x f
  | .indexAddr t x y => qIxa P bi H L t x y
  | .index t x y => qIx P bi L t x y
  | .load t x => qLoad P bi H L t x
  | .slice t x lo hi mx => qSl P bi L t x lo hi mx
  | .build t ps => qBuild P zt bi L t ps.toList
  | .makeFunc f first captured => qFunc L f first.toList captured.toList
  | .lookup t x y ok => qLook P zt H L t x y ok
  | .call ⟨.builtin b, args, tys⟩ => match args.toList, tys.toList with
    | [x], [t] => qB1 P L b x t
    | [x, y], [_, _] => qB2 bi L b x y
    | _, _ => none
  | _ => none
abbrev QF := Program → Zt → Bi → Hp → Sl → Option SV
def kNo : QF := fun _ _ _ _ _ => none
noncomputable def kMove (x : Operand) : QF := fun _ _ _ _ L => evS L x
noncomputable def kPick (c x y : Operand) : QF := fun _ _ _ _ L => qPick L c x y
noncomputable def kBin (op : BinOp) (t : TypeId) (x y : Operand) (_ : TypeId) : QF := fun P _ bi _ L => qBin P bi L op t x y
noncomputable def kUn (op : UnOp) (_ : TypeId) (x : Operand) : QF := fun _ _ bi _ L => qUn bi L op x
noncomputable def kConv (t t' : TypeId) (x : Operand) : QF := fun P _ bi _ L => qConv P bi L t t' x
noncomputable def kArrp (t : TypeId) (x : Operand) : QF := fun P _ bi _ L => qArrp P bi L t x
noncomputable def kNilc (x : Operand) : QF := fun _ _ _ _ L => qNilc L x
noncomputable def kExt (x : Operand) (i : Nat) : QF := fun _ _ _ _ L => qExt L x i
noncomputable def kFad (t : TypeId) (x : Operand) (f : Nat) : QF := fun P _ _ _ L => qFad P L t x f
noncomputable def kFld (t : TypeId) (x : Operand) (f : Nat) : QF := fun P _ bi _ L => qFld P bi L t x f
noncomputable def kIxa (t : TypeId) (x y : Operand) : QF := fun P _ bi H L => qIxa P bi H L t x y
noncomputable def kIx (t : TypeId) (x y : Operand) : QF := fun P _ bi _ L => qIx P bi L t x y
noncomputable def kLoad (t : TypeId) (x : Operand) : QF := fun P _ bi H L => qLoad P bi H L t x
noncomputable def kSl (t : TypeId) (x : Operand) (lo hi mx : Option Operand) : QF := fun P _ bi _ L => qSl P bi L t x lo hi mx
noncomputable def kBuild (t : TypeId) (ps : Array (Nat × Operand)) : QF := fun P zt bi _ L => qBuild P zt bi L t ps.toList
noncomputable def kFunc (f : Fn) (first captured : Array Operand) : QF := fun _ _ _ _ L => qFunc L f first.toList captured.toList
noncomputable def kLook (t : TypeId) (x y : Operand) (ok : Bool) : QF := fun P zt _ H L => qLook P zt H L t x y ok
noncomputable def kBuiltin (b : Builtin) (args : List Operand) (tys : List TypeId) : QF := fun P _ bi _ L => match args, tys with
  | [x], [t] => qB1 P L b x t
  | [x, y], [_, _] => qB2 bi L b x y
  | _, _ => none
noncomputable def kCall (c : Call) : QF := match c with
  | ⟨.builtin b, args, tys⟩ => kBuiltin b args.toList tys.toList
  | _ => kNo
noncomputable def qvR (o : Op) : QF := @Op.rec (fun _ => QF) kMove kMove kPick (fun _ => kNo) (fun _ _ => kNo) kBuild (fun _ _ _ => kNo) (fun _ _ _ _ => kNo) kLoad (fun _ _ _ => kNo) (fun _ => kNo) (fun _ => kNo) kNilc kBin kUn kConv kArrp (fun _ _ => kNo) kFunc (fun _ _ => kNo) (fun _ _ => kNo) (fun _ _ _ => kNo) kSl kFad kFld kIxa kIx kLook (fun _ _ _ _ => kNo) (fun _ _ _ => kNo) (fun _ _ _ _ => kNo) (fun _ _ => kNo) (fun _ _ => kNo) (fun _ => kNo) (fun _ _ _ _ => kNo) kExt kCall (fun _ => kNo) (fun _ => kNo) (fun _ => kNo) (fun _ _ => kNo) (fun _ _ _ => kNo) (fun _ _ => kNo) o
noncomputable def qv (P : Program) (zt : Zt) (bi : Bi) (H : Hp) (L : Sl) (o : Op) : Option SV := qvR o P zt bi H L
theorem qv_eq (P : Program) (zt : Zt) (bi : Bi) (H : Hp) (L : Sl) (o : Op) : qv P zt bi H L o = qv0 P zt bi H L o := by
  cases o with
  | call c =>
    obtain ⟨callee, args, tys⟩ := c
    cases callee <;> rfl
  | _ => rfl
theorem arr1 {α : Type} {xs : Array α} {x : α} (h : xs.toList = [x]) : xs = #[x] := by rw [← Array.toList_inj, h]
theorem arr2 {α : Type} {xs : Array α} {x y : α} (h : xs.toList = [x, y]) : xs = #[x, y] := by rw [← Array.toList_inj, h]
theorem qv_ok (hz : zt.Ok P) (hb : Bok ρ bi) (hf : Frm ρ n L a) (hgl : Glo ρ H) (hex : ∀ b hb', H.get b = some hb' → (∀ cs, hb'.cs = some cs → ∃ vs, Cs.ev ρ cs = some vs) ∧ (∀ es, hb'.ms = some es → ∃ ps, evMs ρ es = some ps)) {r : SV} (h : qv P zt bi H L o.op = some r) : Yld P ρ H a o r := by
  rw [qv_eq] at h
  generalize ho : o.op = op at h
  cases op <;> simp only [qv0] at h
  case move x => obtain ⟨v, h1, h2⟩ := evS_ok hf h; exact yld h1 (q_move ho h2)
  case assign x => obtain ⟨v, h1, h2⟩ := evS_ok hf h; exact yld h1 (q_assign ho h2)
  case pick => exact qPick_ok hf ho h
  case binOp => exact qBin_ok hb hf ho h
  case unOp => exact qUn_ok hb hf ho h
  case convert => exact qConv_ok hb hf ho h
  case sliceToArrayPointer => exact qArrp_ok hb hf ho h
  case nilCheck => exact qNilc_ok hf ho h
  case extract => exact qExt_ok hf ho h
  case fieldAddr => exact qFad_ok hf ho h
  case field => exact qFld_ok hb hf ho h
  case indexAddr => exact qIxa_ok hb hf hgl ho h
  case index => exact qIx_ok hb hf ho h
  case load =>
    refine qLoad_ok hb hf hgl (fun b cs hc => ?_) ho h
    unfold rdB at hc
    split at hc
    · next hb' hg => exact (hex b hb' hg).1 cs hc
    · cases hc
  case slice => exact qSl_ok hb hf ho h
  case build => exact qBuild_ok hz hb hf ho h
  case makeFunc => exact qFunc_ok hf ho h
  case lookup => exact qLook_ok hz hf (fun b hb' es hg hm => (hex b hb' hg).2 es hm) ho h
  case call c =>
    obtain ⟨callee, args, tys⟩ := c
    cases callee with
    | builtin b =>
      simp only at h
      split at h
      · next h1 h2 => exact qB1_ok hf (by rw [ho, arr1 h1, arr1 h2]) h
      · next h1 h2 => exact qB2_ok hb hf (by rw [ho, arr2 h1, arr2 h2]) h
      · cases h
    | value f => cases h
    | invoke f m => cases h
  all_goals cases h
end
end Go.Z
namespace Go.X
open Go
def rotl (x k : Int) : Int := bits .or .u32 (shl .u32 x k) (shr .u32 x (32 - k))
theorem and31 (k : Int) (h0 : 0 ≤ k) (h1 : k < 32) : bits .and .u64 (IntKind.u64.wrap k) 31 = k := by
  have hw : IntKind.u64.wrap k = k := by simp [IntKind.wrap, IntKind.bits, IntKind.signed]; omega
  rw [hw, show (31 : Int) = ((31 : Nat) : Int) from rfl]
  obtain ⟨m, rfl⟩ := Int.eq_ofNat_of_zero_le h0
  rw [u64_and_nat m 31 (by omega) (by omega), nat_mask5]
  congr 1
  omega
def u32 (n : Int) : Int := IntKind.u32.wrap n
def quarter (x : List Int) : List Int :=
  let a := x.getD 0 0; let b := x.getD 1 0; let c := x.getD 2 0; let d := x.getD 3 0
  let a := IntKind.u32.wrap (a + b)
  let d := rotl (bits .xor .u32 d a) 16
  let c := IntKind.u32.wrap (c + d)
  let b := rotl (bits .xor .u32 b c) 12
  let a := IntKind.u32.wrap (a + b)
  let d := rotl (bits .xor .u32 d a) 8
  let c := IntKind.u32.wrap (c + d)
  let b := rotl (bits .xor .u32 b c) 7
  [a, b, c, d]
@[simp] theorem quarter_length (x : List Int) : (quarter x).length = 4 := rfl
def turns : List Int := [16, 12, 8, 7]
def refstep (i : Nat) (x : List Int) : List Int :=
  let y := x.set (i % 2 * 2) (IntKind.u32.wrap (x.getD (i % 2 * 2) 0 + x.getD ((i % 2 * 2 + 1) % 4) 0))
  y.set ((i % 2 * 2 + 3) % 4) (rotl (bits .xor .u32 (y.getD ((i % 2 * 2 + 3) % 4) 0) (y.getD (i % 2 * 2) 0)) (turns.getD i 0))
def refq : Nat → List Int → List Int
  | 0, x => x
  | i + 1, x => refstep i (refq i x)
@[simp] theorem refq_length (x : List Int) : ∀ i, (refq i x).length = x.length
  | 0 => rfl
  | i + 1 => by simp [refq, refstep, refq_length x i]
def fillAt (idx : Nat → Nat) (f : Nat → Int) : Nat → List Int → List Int
  | 0, s => s
  | i + 1, s => (fillAt idx f i s).set (idx i) (f i)
@[simp] theorem fillAt_length (idx : Nat → Nat) (f : Nat → Int) (s : List Int) : ∀ i, (fillAt idx f i s).length = s.length
  | 0 => rfl
  | i + 1 => by simp [fillAt, fillAt_length idx f s i]
def word (xs : List Int) : Int :=
  bits .or .u32 (bits .or .u32 (bits .or .u32 (IntKind.u32.wrap (xs.getD 0 0)) (shl .u32 (IntKind.u32.wrap (xs.getD 1 0)) 8)) (shl .u32 (IntKind.u32.wrap (xs.getD 2 0)) 16)) (shl .u32 (IntKind.u32.wrap (xs.getD 3 0)) 24)
def headW : List Int := [1634760805, 857760878, 2036477234, 1797285236]
def tbl : List Int := [0, 4, 8, 12, 1, 5, 9, 13, 2, 6, 10, 14, 3, 7, 11, 15, 0, 5, 10, 15, 1, 6, 11, 12, 2, 7, 8, 13, 3, 4, 9, 14]
@[simp] theorem headW_length : headW.length = 4 := rfl
@[simp] theorem tbl_length : tbl.length = 32 := rfl
def pl (j : Nat) : List Int := (tbl.drop (j * 4)).take 4
theorem pl_ok {j i : Nat} (hj : j < 8) (hi : i < 4) : 0 ≤ (pl j).getD i 0 ∧ (pl j).getD i 0 < 16 := by
  have h : ∀ j, j < 8 → ∀ i, i < 4 → 0 ≤ (pl j).getD i 0 ∧ (pl j).getD i 0 < 16 := by decide
  exact h j hj i hi
theorem pl_length {j : Nat} (hj : j < 8) : (pl j).length = 4 := by
  have h : ∀ j, j < 8 → (pl j).length = 4 := by decide
  exact h j hj
def initS (key nonce : List Int) (ctr : Int) : List Int :=
  fillAt (fun i => 13 + i) (fun i => word (nonce.drop (4 * i))) 3 ((fillAt (fun i => 4 + i) (fun i => word (key.drop (4 * i))) 8 (fillAt (fun i => i) (fun i => headW.getD i 0) 4 (List.replicate 16 0))).set 12 ctr)
@[simp] theorem initS_length (key nonce : List Int) (ctr : Int) : (initS key nonce ctr).length = 16 := by simp [initS, fillAt_length]
def qof (p x : List Int) : List Int := quarter [x.getD (p.getD 0 0).toNat 0, x.getD (p.getD 1 0).toNat 0, x.getD (p.getD 2 0).toNat 0, x.getD (p.getD 3 0).toNat 0]
@[simp] theorem qof_length (p x : List Int) : (qof p x).length = 4 := rfl
def qstep (p x : List Int) : List Int := fillAt (fun i => (p.getD i 0).toNat) (fun i => (qof p x).getD i 0) 4 x
@[simp] theorem qstep_length (p x : List Int) : (qstep p x).length = x.length := fillAt_length _ _ _ _
def dr : Nat → List Int → List Int
  | 0, x => x
  | j + 1, x => qstep (pl j) (dr j x)
@[simp] theorem dr_length (x : List Int) : ∀ j, (dr j x).length = x.length
  | 0 => rfl
  | j + 1 => by simp [dr, qstep_length, dr_length x j]
def rn : Nat → List Int → List Int
  | 0, x => x
  | n + 1, x => dr 8 (rn n x)
@[simp] theorem rn_length (x : List Int) : ∀ n, (rn n x).length = x.length
  | 0 => rfl
  | n + 1 => by simp [rn, dr_length, rn_length x n]
def ser (f : Nat → Int) : Nat → List Int
  | 0 => List.replicate 64 0
  | i + 1 => fillAt (fun k => 4 * i + k) (fun k => IntKind.u8.wrap (shr .u32 (f i) (8 * (k : Int)))) 4 (ser f i)
@[simp] theorem ser_length (f : Nat → Int) : ∀ i, (ser f i).length = 64
  | 0 => by simp [ser]
  | i + 1 => by simp [ser, fillAt_length, ser_length f i]
def block (key nonce : List Int) (ctr : Int) : List Int :=
  ser (fun i => IntKind.u32.wrap ((rn 10 (initS key nonce ctr)).getD i 0 + (initS key nonce ctr).getD i 0)) 16
@[simp] theorem block_length (key nonce : List Int) (ctr : Int) : (block key nonce ctr).length = 64 := ser_length _ _
def gather (f : Nat → Int) : Nat → List Int → List Int
  | 0, s => s
  | i + 1, s => gather f i s ++ [f i]
@[simp] theorem gather_length (f : Nat → Int) (s : List Int) : ∀ i, (gather f i s).length = s.length + i
  | 0 => rfl
  | i + 1 => by simp [gather, gather_length f s i]; omega
def initR (key nonce : List Int) (ctr : Int) : List Int :=
  gather (fun i => word (nonce.drop (4 * i))) 3 (gather (fun i => word (key.drop (4 * i))) 8 headW ++ [ctr])
theorem initR_eq (key nonce : List Int) (ctr : Int) : initR key nonce ctr = initS key nonce ctr := by rfl
@[simp] theorem initR_length (key nonce : List Int) (ctr : Int) : (initR key nonce ctr).length = 16 := by rw [initR_eq]; exact initS_length key nonce ctr
end Go.X
namespace Go.X
open Go
theorem wrap32_mod' (a b : Int) : IntKind.u32.wrap (IntKind.u32.wrap a + b) = IntKind.u32.wrap (a + b) := by simp [IntKind.wrap, IntKind.bits, IntKind.signed]
def xorAt (key nonce : List Int) (ctr : Int) (xs : List Int) (i : Nat) : Int :=
  bits .xor .u8 (xs.getD i 0) ((block key nonce (IntKind.u32.wrap (ctr + ((i / 64 : Nat) : Int)))).getD (i % 64) 0)
def xorS (key nonce : List Int) (ctr : Int) (xs : List Int) : List Int := gather (xorAt key nonce ctr xs) xs.length []
@[simp] theorem xorS_length (key nonce : List Int) (ctr : Int) (xs : List Int) : (xorS key nonce ctr xs).length = xs.length := by simp [xorS, gather_length]
theorem fillAt_gather (f : Nat → Int) (n : Nat) : ∀ i, i ≤ n → fillAt (fun q => q) f i (List.replicate n 0) = gather f i [] ++ List.replicate (n - i) 0
  | 0, _ => by simp [fillAt, gather]
  | i + 1, h => by
    have ih := fillAt_gather f n i (by omega)
    have hl : (gather f i []).length = i := by simp [gather_length]
    obtain ⟨d, hd⟩ : ∃ d, n - i = d + 1 := ⟨n - i - 1, by omega⟩
    rw [fillAt, ih, hd, List.replicate_succ, List.set_append_right _ _ (by omega), hl, Nat.sub_self, List.set_cons_zero, gather, show n - (i + 1) = d by omega]
    simp
theorem fillAt_all (f : Nat → Int) (n : Nat) : fillAt (fun q => q) f n (List.replicate n 0) = gather f n [] := by
  rw [fillAt_gather f n n (Nat.le_refl n), Nat.sub_self]; simp
theorem ctr_first (ctr : Int) (h : IntKind.u32.wrap ctr = ctr) : ctr = IntKind.u32.wrap (ctr + (((0 + 63) / 64 : Nat) : Int)) := by simpa using h.symm
theorem ctr_here (ctr c : Int) {i : Nat} (hc : c = IntKind.u32.wrap (ctr + (((i + 63) / 64 : Nat) : Int))) (h : i % 64 = 0) : c = IntKind.u32.wrap (ctr + ((i / 64 : Nat) : Int)) := by
  rw [hc, show (i + 63) / 64 = i / 64 by omega]
theorem ctr_next (ctr c : Int) {i : Nat} (hc : c = IntKind.u32.wrap (ctr + (((i + 63) / 64 : Nat) : Int))) (h : i % 64 = 0) : IntKind.u32.wrap (c + 1) = IntKind.u32.wrap (ctr + (((i + 1 + 63) / 64 : Nat) : Int)) := by
  rw [hc, wrap32_mod', show (i + 1 + 63) / 64 = (i + 63) / 64 + 1 by omega]
  congr 1
  omega
theorem ctr_same (ctr c : Int) {i : Nat} (hc : c = IntKind.u32.wrap (ctr + (((i + 63) / 64 : Nat) : Int))) (h : i % 64 ≠ 0) : c = IntKind.u32.wrap (ctr + (((i + 1 + 63) / 64 : Nat) : Int)) := by
  rw [hc, show (i + 1 + 63) / 64 = (i + 63) / 64 by omega]
theorem gather_get (f : Nat → Int) : ∀ n i, i < n → (gather f n []).getD i 0 = f i
  | 0, i, h => absurd h (by omega)
  | n + 1, i, h => by
    have hl : (gather f n []).length = n := by simp [gather_length]
    rw [gather, List.getD_eq_getElem?_getD]
    by_cases hi : i < n
    · rw [List.getElem?_append_left (by omega), ← List.getD_eq_getElem?_getD]
      exact gather_get f n i hi
    · obtain rfl : i = n := by omega
      rw [List.getElem?_append_right (by omega), hl]
      simp
theorem ext_getD {xs ys : List Int} (h : xs.length = ys.length) (hg : ∀ i, i < xs.length → xs.getD i 0 = ys.getD i 0) : xs = ys := by
  refine List.ext_getElem h fun i h1 h2 => ?_
  have := hg i h1
  simpa [List.getD_eq_getElem?_getD, h1, h2] using this
theorem xorS_get (key nonce : List Int) (ctr : Int) (xs : List Int) {i : Nat} (h : i < xs.length) : (xorS key nonce ctr xs).getD i 0 = xorAt key nonce ctr xs i := gather_get _ _ _ h
end Go.X
namespace Go.X
open Go
def Bytes (xs : List Int) : Prop := ∀ x ∈ xs, 0 ≤ x ∧ x < 256
theorem Bytes.getD {xs : List Int} (h : Bytes xs) (i : Nat) : 0 ≤ xs.getD i 0 ∧ xs.getD i 0 < 256 := by
  rw [List.getD_eq_getElem?_getD]
  cases hi : xs[i]? with
  | none => simp
  | some v => simpa using h v (List.mem_of_getElem? hi)
theorem Bytes.replicate (n : Nat) : Bytes (List.replicate n 0) := fun x hx => by
  have := List.eq_of_mem_replicate hx
  omega
theorem Bytes.set {xs : List Int} (h : Bytes xs) {v : Int} (hv : 0 ≤ v ∧ v < 256) (i : Nat) : Bytes (xs.set i v) := fun x hx => by
  rcases List.mem_or_eq_of_mem_set hx with h1 | rfl
  · exact h x h1
  · exact hv
theorem wrap8 (n : Int) : 0 ≤ IntKind.u8.wrap n ∧ IntKind.u8.wrap n < 256 := by simp [IntKind.wrap, IntKind.bits, IntKind.signed]; omega
theorem Bytes.fillAt {idx : Nat → Nat} {f : Nat → Int} (hf : ∀ i, 0 ≤ f i ∧ f i < 256) {s : List Int} (h : Bytes s) : ∀ i, Bytes (fillAt idx f i s)
  | 0 => h
  | i + 1 => (Bytes.fillAt hf h i).set (hf i) _
theorem Bytes.ser (f : Nat → Int) : ∀ i, Bytes (ser f i)
  | 0 => Bytes.replicate 64
  | i + 1 => Bytes.fillAt (fun _ => wrap8 _) (Bytes.ser f i) 4
theorem Bytes.block (key nonce : List Int) (ctr : Int) : Bytes (block key nonce ctr) := Bytes.ser _ _
theorem xor8_twice {a b : Int} (ha : 0 ≤ a ∧ a < 256) (hb : 0 ≤ b ∧ b < 256) : bits .xor .u8 (bits .xor .u8 a b) b = a := by
  obtain ⟨m, rfl⟩ := Int.eq_ofNat_of_zero_le ha.1
  obtain ⟨n, rfl⟩ := Int.eq_ofNat_of_zero_le hb.1
  have hm : m < 256 := by omega
  have hn : n < 256 := by omega
  rw [u8_xor_nat m n hm hn, u8_xor_nat _ _ (Nat.xor_lt_two_pow (n := 8) hm hn) hn, Nat.xor_assoc, Nat.xor_self, Nat.xor_zero]
theorem xorS_twice (key nonce : List Int) (ctr : Int) {xs : List Int} (h : Bytes xs) : xorS key nonce ctr (xorS key nonce ctr xs) = xs := by
  refine ext_getD (by simp [xorS_length]) fun i hi => ?_
  rw [xorS_length, xorS_length] at hi
  rw [xorS_get _ _ _ _ (by rw [xorS_length]; exact hi), xorAt, xorS_get _ _ _ _ hi, xorAt]
  exact xor8_twice (h.getD i) ((Bytes.block key nonce _).getD _)
theorem bstr_size (xs : List Int) : (bstr xs).size = xs.length := by simp [bstr, ByteArray.size]
end Go.X
namespace Go.Z
open Go Go.X
structure LD where
  op : Nat
  ks : List Int
  as : List Cs
def LD.beq (a b : LD) : Bool := Nat.beq a.op b.op && (leq ieq a.ks b.ks && leq Cs.beq a.as b.as)
theorem LD.beq_ok {a b : LD} (h : a.beq b = true) : a = b := by
  obtain ⟨x, y, z⟩ := a
  obtain ⟨x', y', z'⟩ := b
  simp only [LD.beq, Bool.and_eq_true] at h
  rw [nat_ok h.1, leq_ok (fun _ _ h => ieq_true h) h.2.1, leq_ok (fun _ _ h => Cs.beq_ok h) h.2.2]
structure LI where
  n : Lin
  d : Option LD
def isB (op : Nat) : Bool := Nat.blt op 8
def BytesV (vs : List Value) : Prop := ∃ l, vs = ints .u8 l ∧ Bytes l
def strB (s : ByteArray) : List Int := s.data.toList.map fun b => (b.toNat : Int)
structure InOk (l : Nat → List Int → List (List Value) → List Value → Prop) (s : Nat → List Int → List (List Value) → ByteArray → Prop) : Prop where
  bytes : ∀ op ks us vs, isB op = true → l op ks us vs → BytesV vs
  one : ∀ op ks us vs vs', l op ks us vs → l op ks us vs' → op ≠ 0 → vs = vs'
  row : ∀ ks t, l 7 ks [[.string t]] (ints .u8 (strB t))
  sone : ∀ op ks us a b, s op ks us a → s op ks us b → a = b
  cat : ∀ ks a b, s 13 ks [[.string a], [.string b]] (a ++ b)
structure In where
  l : Nat → List Int → List (List Value) → List Value → Prop
  s : Nat → List Int → List (List Value) → ByteArray → Prop
  ok : InOk l s
def evAs (ρ : Env) : List Cs → Option (List (List Value))
  | [] => some []
  | c :: r => match Cs.ev ρ c, evAs ρ r with
    | some v, some vs => some (v :: vs)
    | _, _ => none
theorem evAs_mono {ρ ρ' : Env} (h : ρ.le ρ') : ∀ {cs : List Cs} {vs : List (List Value)}, evAs ρ cs = some vs → evAs ρ' cs = some vs
  | [], _, e => e
  | c :: r, _, e => by
    simp only [evAs] at e ⊢
    split at e
    · next a vs ha hb => rw [Cs.ev_mono h ha, evAs_mono h hb]; exact e
    · cases e
def LI.ok (I : In) (ρ : Env) (i : Nat) (x : LI) : Prop := ∃ vs, ρ.l i = some vs ∧ x.n.ev ρ = some (vs.length : Int) ∧ vs.all Value.oneCell' = true ∧ ∀ d, x.d = some d → ∃ us, evAs ρ d.as = some us ∧ I.l d.op d.ks us vs
def SDok (I : In) (ρ : Env) (i : Nat) (d : LD) : Prop := ∃ s, ρ.s i = some s ∧ (s.size : Int) ≤ d.ks.headD 0 ∧ ∃ us, evAs ρ d.as = some us ∧ I.s d.op d.ks us s
structure E where
  bi : Bi
  ni : Nat
  li : T LI
  nl : Nat
  si : T LD
  ns : Nat
structure Eok (I : In) (ρ : Env) (e : E) : Prop where
  bok : Bok ρ e.bi
  fi : ∀ i, e.ni ≤ i → ρ.i i = none
  lok : ∀ i x, e.li.get i = some x → x.ok I ρ i
  fl : ∀ i, e.nl ≤ i → ρ.l i = none
  sok : ∀ i x, e.si.get i = some x → SDok I ρ i x
  fs : ∀ i, e.ns ≤ i → ρ.s i = none
theorem Eok.mono {I : In} {ρ ρ' : Env} {e : E} (h : Eok I ρ e) (hle : ρ.le ρ') (hi : ρ'.i = ρ.i) (hl : ρ'.l = ρ.l) (hs : ρ'.s = ρ.s) : Eok I ρ' e where
  bok := fun i lo up hg => by obtain ⟨x, h1, h2⟩ := h.bok i lo up hg; exact ⟨x, by rw [hi]; exact h1, h2⟩
  fi := fun i hlt => by rw [hi]; exact h.fi i hlt
  lok := fun i x hg => by
    obtain ⟨vs, h1, h2, h3, h4⟩ := h.lok i x hg
    exact ⟨vs, by rw [hl]; exact h1, Lin.ev_mono hle h2, h3, fun d hd => by obtain ⟨us, h5, h6⟩ := h4 d hd; exact ⟨us, evAs_mono hle h5, h6⟩⟩
  fl := fun i hlt => by rw [hl]; exact h.fl i hlt
  sok := fun i x hg => by obtain ⟨s, h1, hb, us, h2, h3⟩ := h.sok i x hg; exact ⟨s, by rw [hs]; exact h1, hb, us, evAs_mono hle h2, h3⟩
  fs := fun i hlt => by rw [hs]; exact h.fs i hlt
structure G where
  H : Hp
  nb : Nat
  rs : List Nat
  e : E
structure Mok (w0 : World) (ρ : Env) (H : Hp) (w : World) : Prop where
  kept : Kept [] w0 w
  has : Has ρ H w
  apart : ∀ i j hi hj ai aj, H.get i = some hi → H.get j = some hj → i ≠ j → hi.own = true → ρ.b i = some ai → ρ.b j = some aj → ai.block ≠ aj.block ∨ (∃ cs, hj = .ro cs ∧ Cs.ev ρ cs = some [])
  mine : ∀ i hi ai, H.get i = some hi → hi.own = true → ρ.b i = some ai → w0.heap.size ≤ ai.block
structure Gok (I : In) (w0 : World) (ρ : Env) (g : G) (w : World) : Prop where
  mem : Mok w0 ρ g.H w
  fb : ∀ i, g.nb ≤ i → ρ.b i = none
  fr : ∀ i ∈ g.rs, ρ.b i = none
  env : Eok I ρ g.e
section
variable {P : Program} {w0 w w' : World} {ρ ρ' : Env} {H H' : Hp}
theorem HB.lt {hb : HB} {ad : Addr} (h : hb.ok ρ w ad) (ho : hb.own = true) : ad.block < w.heap.size := by
  cases hb with
  | cells cs ty => obtain ⟨k, vs, rfl, _, h3⟩ := h; exact (Array.getElem?_eq_some_iff.1 h3).1
  | ro cs => cases ho
  | frz cs ty => obtain ⟨k, vs, j, fz, rfl, _, h3⟩ := h; exact (Array.getElem?_eq_some_iff.1 h3).1
  | map es => obtain ⟨k, ms, c, rfl, _, h3⟩ := h; exact (Array.getElem?_eq_some_iff.1 h3).1
  | rom es => cases ho
  | glb g cs => cases ho
theorem HB.keep {hb : HB} {ad : Addr} {X : List Nat} (h : hb.ok ρ w ad) (hk : Kept X w w') (hx : ad.block ∉ X ∨ ∃ cs, hb = .ro cs ∧ Cs.ev ρ cs = some []) : hb.ok ρ w' ad := by
  cases hb with
  | cells cs ty =>
    have hlt := HB.lt h rfl
    have hx' : ad.block ∉ X := by
      rcases hx with h1 | ⟨c, h1, _⟩
      · exact h1
      · cases h1
    obtain ⟨k, vs, rfl, h2, h3⟩ := h
    exact ⟨k, vs, rfl, h2, by rw [hk.block k hlt hx']; exact h3⟩
  | ro cs =>
    obtain ⟨vs, h1, h2⟩ := h
    refine ⟨vs, h1, fun j v hj => ?_⟩
    rcases hx with hx | ⟨c, hc, he⟩
    · have hc := h2 j v hj
      have hlt := World.block_lt_of_cell? w _ hc
      rw [← hc]
      unfold World.cell?
      rw [add_block] at hlt ⊢
      rw [hk.block _ hlt hx]
    · cases hc
      rw [h1] at he
      cases he
      simp at hj
  | frz cs ty =>
    have hlt := HB.lt h rfl
    have hx' : ad.block ∉ X := by
      rcases hx with h1 | ⟨c, h1, _⟩
      · exact h1
      · cases h1
    obtain ⟨k, vs, j, fz, rfl, h2, h3⟩ := h
    exact ⟨k, vs, j, fz, rfl, h2, by rw [hk.block k hlt hx']; exact h3⟩
  | map es =>
    have hlt := HB.lt h rfl
    have hx' : ad.block ∉ X := by
      rcases hx with h1 | ⟨c, h1, _⟩
      · exact h1
      · cases h1
    obtain ⟨k, ms, c, rfl, h2, h3⟩ := h
    exact ⟨k, ms, c, rfl, h2, by rw [hk.block k hlt hx']; exact h3⟩
  | rom es =>
    have hx' : ad.block ∉ X := by
      rcases hx with h1 | ⟨c, h1, _⟩
      · exact h1
      · cases h1
    obtain ⟨k, ms, c, rfl, h2, h3⟩ := h
    exact ⟨k, ms, c, rfl, h2, by rw [hk.block k (Array.getElem?_eq_some_iff.1 h3).1 hx']; exact h3⟩
  | glb g cs =>
    have hx' : ad.block ∉ X := by
      rcases hx with h1 | ⟨c, h1, _⟩
      · exact h1
      · cases h1
    obtain ⟨rfl, hlt, vs, h2, h3⟩ := h
    refine ⟨rfl, Nat.lt_of_lt_of_le hlt hk.size, vs, h2, fun j v hj => ?_⟩
    rw [← h3 j v hj]
    unfold World.cell?
    rw [add_block] at *
    rw [hk.block _ hlt hx']
theorem Kept.from0 {X : List Nat} (h : Kept [] w0 w) (hk : Kept X w w') (hx : ∀ k ∈ X, w0.heap.size ≤ k) : Kept [] w0 w' :=
  ⟨hk.os.trans h.os, hk.tape.trans h.tape, hk.output.trans h.output, Nat.le_trans h.size hk.size, fun k hlt _ => (hk.block k (Nat.lt_of_lt_of_le hlt h.size) (fun hm => by have := hx k hm; omega)).trans (h.block k hlt (by simp))⟩
theorem Has.mono (h : Has ρ H w) (hle : ρ.le ρ') : Has ρ' H w := fun i hb hg => by
  obtain ⟨ad, h1, h2⟩ := h i hb hg
  exact ⟨ad, hle.b i ad h1, HB.ok_mono hle h2⟩
theorem Mok.upd {X : List Nat} (h : Mok w0 ρ H w) (hle : ρ.le ρ') (hk : Kept X w w') {id id' : Nat} {hb' : HB} {ad' : Addr} (hH : ∀ j, H'.get j = if j = id' then some hb' else if j = id then none else H.get j)
    (hX : ∀ k ∈ X, ∃ hb ad, H.get id = some hb ∧ hb.own = true ∧ ρ.b id = some ad ∧ ad.block = k) (hid : ρ'.b id' = some ad') (hok : hb'.ok ρ' w' ad')
    (hnew : w.heap.size ≤ ad'.block ∨ ∃ hb ad, H.get id = some hb ∧ hb.own = true ∧ ρ.b id = some ad ∧ ad.block = ad'.block) : Mok w0 ρ' H' w' := by
  have old : ∀ j hj, j ≠ id' → H'.get j = some hj → j ≠ id ∧ H.get j = some hj := fun j hj hne hg => by
    rw [hH, if_neg hne] at hg
    by_cases hji : j = id
    · rw [if_pos hji] at hg; cases hg
    · rw [if_neg hji] at hg; exact ⟨hji, hg⟩
  have new : ∀ hb, H'.get id' = some hb → hb = hb' := fun hb hg => by rw [hH, if_pos rfl] at hg; cases hg; rfl
  have hXm : ∀ k ∈ X, w0.heap.size ≤ k := fun k hk' => by
    obtain ⟨hb, ad, h1, h2, h3, rfl⟩ := hX k hk'
    exact h.mine id hb ad h1 h2 h3
  have stays : ∀ j hj, H.get j = some hj → j ≠ id → ∃ aj, ρ.b j = some aj ∧ hj.ok ρ w aj ∧ (aj.block ∉ X ∨ ∃ cs, hj = .ro cs ∧ Cs.ev ρ cs = some []) := fun j hj hg hne => by
    obtain ⟨aj, ha, hoj⟩ := h.has j hj hg
    refine ⟨aj, ha, hoj, ?_⟩
    by_cases hmt : ∃ cs, hj = .ro cs ∧ Cs.ev ρ cs = some []
    · exact .inr hmt
    · refine .inl fun hm => ?_
      obtain ⟨hb, ad, h1, h2, h3, h4⟩ := hX _ hm
      rcases h.apart id j hb hj ad aj h1 hg (fun e => hne e.symm) h2 h3 ha with h5 | h5
      · exact h5 h4
      · exact hmt h5
  have fresh : ∀ j hj aj, H.get j = some hj → j ≠ id → ρ.b j = some aj → ad'.block ≠ aj.block ∨ ∃ cs, hj = .ro cs ∧ Cs.ev ρ cs = some [] := fun j hj aj hg hne ha => by
    rcases hnew with h1 | ⟨hb, ad, h1, h2, h3, h4⟩
    · obtain ⟨aj', ha', hoj⟩ := h.has j hj hg
      rw [ha] at ha'
      cases ha'
      cases hj with
      | cells cs ty => have := HB.lt hoj rfl; exact .inl (by omega)
      | map es => have := HB.lt hoj rfl; exact .inl (by omega)
      | rom es =>
        obtain ⟨q, ms, c, rfl, _, h3⟩ := hoj
        have h4 : q < w.heap.size := (Array.getElem?_eq_some_iff.1 h3).1
        exact .inl (fun e => by simp only at e; omega)
      | glb q cs =>
        obtain ⟨rfl, h4, _⟩ := hoj
        exact .inl (fun e => by simp only at e; omega)
      | frz cs ty => have := HB.lt hoj rfl; exact .inl (by omega)
      | ro cs =>
        obtain ⟨vs, hv, hr⟩ := hoj
        cases vs with
        | nil => exact .inr ⟨cs, rfl, hv⟩
        | cons v r =>
          have := World.block_lt_of_cell? w _ (hr 0 v rfl)
          rw [add_block] at this
          exact .inl (by omega)
    · rcases h.apart id j hb hj ad aj h1 hg (fun e => hne e.symm) h2 h3 ha with h5 | h5
      · exact .inl (h4 ▸ h5)
      · exact .inr h5
  refine ⟨Kept.from0 h.kept hk hXm, ?_, ?_, ?_⟩
  · intro j hj hg
    by_cases hjd : j = id'
    · subst hjd
      cases new hj hg
      exact ⟨ad', hid, hok⟩
    · obtain ⟨hji, hg'⟩ := old j hj hjd hg
      obtain ⟨aj, ha, hoj, hx⟩ := stays j hj hg' hji
      exact ⟨aj, hle.b j aj ha, HB.ok_mono hle (HB.keep hoj hk hx)⟩
  · intro i j hi hj ai aj hgi hgj hne hown ha haj
    by_cases hii : i = id'
    · subst hii
      rw [hid] at ha
      cases ha
      have hji : j ≠ i := fun e => hne e.symm
      obtain ⟨h1, h2⟩ := old j hj hji hgj
      obtain ⟨aj', ha', hoj, _⟩ := stays j hj h2 h1
      have : aj' = aj := by have := hle.b j aj' ha'; rw [haj] at this; cases this; rfl
      subst this
      rcases fresh j hj aj' h2 h1 ha' with h5 | ⟨cs, h5, h6⟩
      · exact .inl h5
      · exact .inr ⟨cs, h5, Cs.ev_mono hle h6⟩
    · obtain ⟨h1, h2⟩ := old i hi hii hgi
      obtain ⟨ai', ha', hoi⟩ := h.has i hi h2
      have e1 : ai' = ai := by have := hle.b i ai' ha'; rw [ha] at this; cases this; rfl
      subst e1
      by_cases hjj : j = id'
      · subst hjj
        cases new hj hgj
        rw [hid] at haj
        cases haj
        rcases fresh i hi ai' h2 h1 ha' with h5 | ⟨cs, h5, h6⟩
        · exact .inl (fun e => h5 e.symm)
        · subst h5; cases hown
      · obtain ⟨h3, h4⟩ := old j hj hjj hgj
        obtain ⟨aj', haj', hoj⟩ := h.has j hj h4
        have e2 : aj' = aj := by have := hle.b j aj' haj'; rw [haj] at this; cases this; rfl
        subst e2
        rcases h.apart i j hi hj ai' aj' h2 h4 hne hown ha' haj' with h5 | ⟨cs, h5, h6⟩
        · exact .inl h5
        · exact .inr ⟨cs, h5, Cs.ev_mono hle h6⟩
  · intro i hi ai hgi hown ha
    by_cases hii : i = id'
    · subst hii
      rw [hid] at ha
      cases ha
      rcases hnew with h1 | ⟨hb, ad, h1, h2, h3, h4⟩
      · have := h.kept.size; omega
      · rw [← h4]; exact h.mine id hb ad h1 h2 h3
    · obtain ⟨h1, h2⟩ := old i hi hii hgi
      obtain ⟨ai', ha', hoi⟩ := h.has i hi h2
      have e1 : ai' = ai := by have := hle.b i ai' ha'; rw [ha] at this; cases this; rfl
      subst e1
      exact h.mine i hi ai' h2 hown ha'
theorem Mok.same (h : Mok w0 ρ H w) (hle : ρ.le ρ') (hk : Kept [] w w') : Mok w0 ρ' H w' where
  kept := Kept.from0 h.kept hk (by simp)
  has := fun j hj hg => by
    obtain ⟨aj, ha, hoj⟩ := h.has j hj hg
    exact ⟨aj, hle.b j aj ha, HB.ok_mono hle (HB.keep hoj hk (.inl (by simp)))⟩
  apart := fun i j hi hj ai aj hgi hgj hne hown ha haj => by
    obtain ⟨ai', ha', _⟩ := h.has i hi hgi
    have e1 : ai' = ai := by have := hle.b i ai' ha'; rw [ha] at this; cases this; rfl
    subst e1
    obtain ⟨aj', haj', _⟩ := h.has j hj hgj
    have e2 : aj' = aj := by have := hle.b j aj' haj'; rw [haj] at this; cases this; rfl
    subst e2
    rcases h.apart i j hi hj ai' aj' hgi hgj hne hown ha' haj' with h5 | ⟨cs, h5, h6⟩
    · exact .inl h5
    · exact .inr ⟨cs, h5, Cs.ev_mono hle h6⟩
  mine := fun i hi ai hgi hown ha => by
    obtain ⟨ai', ha', _⟩ := h.has i hi hgi
    have e1 : ai' = ai := by have := hle.b i ai' ha'; rw [ha] at this; cases this; rfl
    subst e1
    exact h.mine i hi ai' hgi hown ha'
theorem Mok.less (h : Mok w0 ρ H w) (hH : ∀ j hj, H'.get j = some hj → H.get j = some hj) : Mok w0 ρ H' w where
  kept := h.kept
  has := fun j hj hg => h.has j hj (hH j hj hg)
  apart := fun i j hi hj ai aj hgi hgj hne hown ha haj => h.apart i j hi hj ai aj (hH _ _ hgi) (hH _ _ hgj) hne hown ha haj
  mine := fun i hi ai hgi hown ha => h.mine i hi ai (hH _ _ hgi) hown ha
end
def memN (j : Nat) : List Nat → Bool
  | [] => false
  | k :: r => Nat.beq k j || memN j r
def eraseN (j : Nat) : List Nat → List Nat
  | [] => []
  | k :: r => bif Nat.beq k j then eraseN j r else k :: eraseN j r
theorem memN_ok {j : Nat} : ∀ {l : List Nat}, memN j l = true → j ∈ l
  | k :: r, h => by
    simp only [memN, Bool.or_eq_true] at h
    rcases h with h | h
    · rw [Nat.eq_of_beq_eq_true h]; exact List.mem_cons_self ..
    · exact List.mem_cons_of_mem _ (memN_ok h)
theorem eraseN_mem {j k : Nat} : ∀ {l : List Nat}, k ∈ eraseN j l → k ∈ l ∧ k ≠ j
  | x :: r, h => by
    simp only [eraseN] at h
    by_cases hx : x = j
    · subst hx
      rw [Nat.beq_refl, cond_true] at h
      have := eraseN_mem h
      exact ⟨List.mem_cons_of_mem _ this.1, this.2⟩
    · rw [nbeq hx, cond_false] at h
      rcases List.mem_cons.1 h with rfl | h
      · exact ⟨List.mem_cons_self .., hx⟩
      · have := eraseN_mem h
        exact ⟨List.mem_cons_of_mem _ this.1, this.2⟩
def newId (g : G) (nid : Option Nat) : Option (Nat × Nat × List Nat) :=
  match nid with
  | none => bif memN g.nb g.rs then none else some (g.nb, Nat.succ g.nb, g.rs)
  | some j => bif memN j g.rs && Nat.blt j g.nb then some (j, g.nb, eraseN j g.rs) else none
def Env.setB (ρ : Env) (i : Nat) (ad : Addr) : Env := { ρ with b := fun j => if j = i then some ad else ρ.b j }
theorem Env.setB_le {ρ : Env} {i : Nat} {ad : Addr} (h : ρ.b i = none) : ρ.le (ρ.setB i ad) :=
  ⟨fun k x hk => by
    simp only [Env.setB]
    by_cases he : k = i
    · subst he; rw [h] at hk; cases hk
    · rw [if_neg he]; exact hk, fun _ _ h => h, fun _ _ h => h, fun _ _ h => h, fun _ _ h => h⟩
theorem Env.setB_self (ρ : Env) (i : Nat) (ad : Addr) : (ρ.setB i ad).b i = some ad := by simp [Env.setB]
theorem newId_ok {I : In} {w0 w : World} {ρ : Env} {g : G} (h : Gok I w0 ρ g w) {nid : Option Nat} {id nb' : Nat} {rs' : List Nat} (hn : newId g nid = some (id, nb', rs')) (ad : Addr) :
    ρ.b id = none ∧ g.H.get id = none ∧ (∀ i, nb' ≤ i → (ρ.setB id ad).b i = none) ∧ (∀ i ∈ rs', (ρ.setB id ad).b i = none) := by
  have hno : ρ.b id = none → g.H.get id = none := fun h0 => by
    cases hg : g.H.get id with
    | none => rfl
    | some hb => obtain ⟨a, ha, _⟩ := h.mem.has id hb hg; rw [h0] at ha; cases ha
  unfold newId at hn
  split at hn
  · cases hm : memN g.nb g.rs with
    | true => rw [hm, cond_true] at hn; cases hn
    | false =>
      rw [hm, cond_false] at hn
      cases hn
      have h0 := h.fb g.nb (Nat.le_refl _)
      refine ⟨h0, hno h0, fun i hi => ?_, fun i hi => ?_⟩
      · simp only [Env.setB]
        have : g.nb + 1 ≤ i := hi
        rw [if_neg (by omega)]
        exact h.fb i (by omega)
      · simp only [Env.setB]
        have : i ≠ g.nb := fun e => by
          subst e
          have hc : ∀ {l : List Nat} {j : Nat}, j ∈ l → memN j l = true := by
            intro l
            induction l with
            | nil => intro j hj; cases hj
            | cons k r ih =>
              intro j hj
              simp only [memN, Bool.or_eq_true]
              rcases List.mem_cons.1 hj with rfl | hj
              · exact .inl (Nat.beq_refl _)
              · exact .inr (ih hj)
          rw [hc hi] at hm
          cases hm
        rw [if_neg this]
        exact h.fr i hi
  · next j =>
    cases hm : (memN j g.rs && Nat.blt j g.nb) with
    | false => rw [hm, cond_false] at hn; cases hn
    | true =>
      rw [hm, cond_true] at hn
      cases hn
      simp only [Bool.and_eq_true] at hm
      have h0 := h.fr _ (memN_ok hm.1)
      have hlt := blt_iff.1 hm.2
      refine ⟨h0, hno h0, fun i hi => ?_, fun i hi => ?_⟩
      · simp only [Env.setB]
        rw [if_neg (by omega)]
        exact h.fb i hi
      · obtain ⟨h1, h2⟩ := eraseN_mem hi
        simp only [Env.setB]
        rw [if_neg h2]
        exact h.fr i h1
end Go.Z
namespace Go.Z
open Go Go.X
structure Res where
  r : Option SV
  H : Hp
  nb : Nat
  rs : List Nat
  e : E
noncomputable def nF {β : Type} (n : Nat) (k : Nat → β) : β := Nat.casesOn n (k 0) (fun m => k (Nat.succ m))
noncomputable def tF {α β : Type} (t : T α) (k : T α → β) : β := T.casesOn t (k .e) (fun l v r => k (.n l v r))
noncomputable def lF {α β : Type} (l : List α) (k : List α → β) : β := List.casesOn l (k []) (fun a r => k (a :: r))
theorem nF_eq {β : Type} (n : Nat) (k : Nat → β) : nF n k = k n := by cases n <;> rfl
theorem tF_eq {α β : Type} (t : T α) (k : T α → β) : tF t k = k t := by cases t <;> rfl
theorem lF_eq {α β : Type} (l : List α) (k : List α → β) : lF l k = k l := by cases l <;> rfl
noncomputable def gF {β : Type} (x : Res) (k : G → β) : β :=
  match x with
  | ⟨_, H, nb, rs, e⟩ => tF H fun H => nF nb fun nb => lF rs fun rs => match e with
    | ⟨bi, ni, li, nl, si, ns⟩ => tF bi fun bi => nF ni fun ni => tF li fun li => nF nl fun nl => tF si fun si => nF ns fun ns => k ⟨H, nb, rs, ⟨bi, ni, li, nl, si, ns⟩⟩
theorem gF_eq {β : Type} (x : Res) (k : G → β) : gF x k = k ⟨x.H, x.nb, x.rs, x.e⟩ := by
  obtain ⟨r, H, nb, rs, e⟩ := x
  simp only [gF, tF_eq, nF_eq, lF_eq]
def EfOk (P : Program) (I : In) (w0 : World) (ρ : Env) (a : Act) (w : World) (o : Oper) (x : Res) : Prop :=
  ∃ w' ρ', ρ.le ρ' ∧ Gok I w0 ρ' ⟨x.H, x.nb, x.rs, x.e⟩ w' ∧ ((∃ s v, x.r = some s ∧ s.ev ρ' = some v ∧ (execOp a.eval o).run P w = .ok (.value v) w') ∨ (x.r = none ∧ (execOp a.eval o).run P w = .ok .skip w'))
section
variable {P : Program} {I : In} {w0 w : World} {ρ : Env} {g : G} {n : Nat} {L : Sl} {a : Act} {o : Oper} {zt : Zt}
theorem evA (hf : Frm ρ n L a) {x : Operand} {s : SV} (h : evS L x = some s) : ∃ v, s.ev ρ = some v ∧ a.eval x = v := by
  obtain ⟨v, h1, h2⟩ := evS_ok hf h
  exact ⟨v, h1, (fr_full a).eval h2⟩
theorem kept_alloc (w : World) (o : Obj) : Kept [] w (w.alloc o) := ⟨rfl, rfl, rfl, by simp, fun k hk _ => heap_alloc_old w o hk⟩
theorem kept_setRow (w : World) (k : Nat) (cs : Array Value) : Kept [k] w (w.setRow k cs) := ⟨rfl, rfl, rfl, by simp, fun j _ hx => setRow_other w k j cs (by simpa using hx)⟩
theorem Gok.new (h : Gok I w0 ρ g w) {nid : Option Nat} {id nb' : Nat} {rs' : List Nat} (hn : newId g nid = some (id, nb', rs')) {w' : World} (hk : Kept [] w w') {k : Nat} (hge : w.heap.size ≤ k) {hb : HB} (hok : ∀ ρ' : Env, ρ.le ρ' → hb.ok ρ' w' ⟨k, 0, none⟩) :
    ρ.le (ρ.setB id ⟨k, 0, none⟩) ∧ Gok I w0 (ρ.setB id ⟨k, 0, none⟩) ⟨g.H.set id (some hb), nb', rs', g.e⟩ w' := by
  obtain ⟨h1, h2, h3, h4⟩ := newId_ok h hn ⟨k, 0, none⟩
  have hle := Env.setB_le (ad := ⟨k, 0, none⟩) h1
  refine ⟨hle, ?_, h3, h4, h.env.mono hle rfl rfl rfl⟩
  refine h.mem.upd hle hk (id := id) (id' := id) (fun j => ?_) (fun q hq => by cases hq) (Env.setB_self ρ id _) (hok _ hle) (.inl hge)
  show (g.H.set id (some hb)).get j = _
  rw [T.get_set]
  by_cases hj : j = id
  · rw [if_pos hj.symm, if_pos hj]
  · rw [if_neg (fun e => hj e.symm), if_neg hj, if_neg hj]
theorem Gok.wrt (h : Gok I w0 ρ g w) {id k : Nat} {hb hb' : HB} (hg : g.H.get id = some hb) (hown : hb.own = true) (hb0 : ρ.b id = some ⟨k, 0, none⟩) {w' : World} (hk : Kept [k] w w') (hok : hb'.ok ρ w' ⟨k, 0, none⟩) : Gok I w0 ρ ⟨g.H.set id (some hb'), g.nb, g.rs, g.e⟩ w' := by
  refine ⟨h.mem.upd (Env.le.refl ρ) hk (id := id) (id' := id) (fun j => ?_) (fun q hq => ?_) hb0 hok (.inr ⟨hb, _, hg, hown, hb0, rfl⟩), h.fb, h.fr, h.env⟩
  · show (g.H.set id (some hb')).get j = _
    rw [T.get_set]
    by_cases hj : j = id
    · rw [if_pos hj.symm, if_pos hj]
    · rw [if_neg (fun e => hj e.symm), if_neg hj, if_neg hj]
  · have : q = k := by simpa using hq
    subst this
    exact ⟨hb, _, hg, hown, hb0, rfl⟩
noncomputable def fAlloc (P : Program) (zt : Zt) (g : G) (nid : Option Nat) (t : TypeId) : Option Res :=
  match zcells P zt t, newId g nid with
  | some cs, some (id, nb, rs) => some ⟨some (.e (.c (.ptr id 0))), g.H.set id (some (.cells cs t)), nb, rs, g.e⟩
  | _, _ => none
theorem fAlloc_ok (hz : zt.Ok P) (h : Gok I w0 ρ g w) {nid : Option Nat} {t : TypeId} {x : Res} (ho : o.op = .alloc t) (hx : fAlloc P zt g nid t = some x) : EfOk P I w0 ρ a w o x := by
  unfold fAlloc at hx
  split at hx
  · next cs id nb rs hc hn =>
    cases hx
    obtain ⟨vs, h1, h2⟩ := zcells_ok hz hc
    obtain ⟨i, z, hi, hz', hzc⟩ := zer_parts h1
    have hzs : z.cells = vs.toArray := by rw [← Array.toList_inj, hzc]
    obtain ⟨hle, hg⟩ := h.new hn (kept_alloc w (.cells vs.toArray t)) (Nat.le_refl _) (hb := .cells cs t) (fun ρ' _ => ⟨_, vs, rfl, h2 ρ', heap_alloc_new w _⟩)
    refine ⟨_, _, hle, hg, .inl ⟨_, .pointer (some ⟨w.heap.size, 0, none⟩), rfl, ?_, ?_⟩⟩
    · simp only [SV.ev, EV.ev, SC.ev, Env.setB_self, Option.map_some]; rfl
    · simp only [execOp, ho]
      simp [Instr.alloc, zeroValue, typeInfo, hi, hz', newVar, newRow, hzs]
  · cases hx
def SV.cs : SV → Option Cs
  | .e (.c y) => some [.one y]
  | .e (.agg cs) => some cs
  | .tup _ => none
theorem SV.cs_ok {x : SV} {cs : Cs} {v : Value} (h : x.cs = some cs) (hv : x.ev ρ = some v) : ∃ vs, Cs.ev ρ cs = some vs ∧ v.cells = vs.toArray := by
  unfold SV.cs at h
  split at h
  · next y =>
    cases h
    have h1 := SC.ev_one (show y.ev ρ = some v from hv)
    have hy : y.ev ρ = some v := hv
    refine ⟨[v], by simp only [Cs.ev, Seg.ev, hy, Option.map_some]; rfl, ?_⟩
    cases v <;> first | rfl | (simp [Value.oneCell'] at h1)
  · cases h
    simp only [SV.ev, EV.ev] at hv
    obtain ⟨vs, hvs, rfl⟩ := Option.map_eq_some_iff.1 hv
    exact ⟨vs, hvs, rfl⟩
  · cases h
noncomputable def fBox (g : G) (L : Sl) (nid : Option Nat) (t : TypeId) (x : Operand) : Option Res :=
  match evS L x, newId g nid with
  | some s, some (id, nb, rs) => match s.cs with
    | some cs => some ⟨some (.e (.c (.ptr id 0))), g.H.set id (some (.cells cs t)), nb, rs, g.e⟩
    | none => none
  | _, _ => none
theorem fBox_ok (hf : Frm ρ n L a) (h : Gok I w0 ρ g w) {nid : Option Nat} {t : TypeId} {y : Operand} {x : Res} (ho : o.op = .box t y) (hx : fBox g L nid t y = some x) : EfOk P I w0 ρ a w o x := by
  unfold fBox at hx
  split at hx
  · next s id nb rs hs hn =>
    split at hx
    · next cs hc =>
      cases hx
      obtain ⟨v, hv, hav⟩ := evA hf hs
      obtain ⟨vs, h1, h2⟩ := SV.cs_ok hc hv
      obtain ⟨hle, hg⟩ := h.new hn (kept_alloc w (.cells vs.toArray t)) (Nat.le_refl _) (hb := .cells cs t) (fun ρ' hle => ⟨_, vs, rfl, Cs.ev_mono hle h1, heap_alloc_new w _⟩)
      refine ⟨_, _, hle, hg, .inl ⟨_, .pointer (some ⟨w.heap.size, 0, none⟩), rfl, ?_, ?_⟩⟩
      · simp only [SV.ev, EV.ev, SC.ev, Env.setB_self, Option.map_some]; rfl
      · simp only [execOp, ho, hav]
        simp [Instr.box, newVar, newRow, h2]
    · cases hx
  · cases hx
noncomputable def fMap (g : G) (nid : Option Nat) (r : Option Operand) : Option Res :=
  match r, newId g nid with
  | none, some (id, nb, rs) => some ⟨some (.e (.c (.map id))), g.H.set id (some (.map [])), nb, rs, g.e⟩
  | _, _ => none
theorem fMap_ok (h : Gok I w0 ρ g w) {nid : Option Nat} {t : TypeId} {r : Option Operand} {x : Res} (ho : o.op = .makeMap t r) (hx : fMap g nid r = some x) : EfOk P I w0 ρ a w o x := by
  unfold fMap at hx
  split at hx
  · next id nb rs hn =>
    cases hx
    obtain ⟨hle, hg⟩ := h.new hn (kept_alloc w (.map #[] 0)) (Nat.le_refl _) (hb := .map []) (fun ρ' hle => ⟨_, #[], 0, rfl, rfl, heap_alloc_new w _⟩)
    refine ⟨_, _, hle, hg, .inl ⟨_, .map (some w.heap.size), rfl, ?_, ?_⟩⟩
    · simp only [SV.ev, EV.ev, SC.ev, Env.setB_self, Option.map_some]
    · simp only [execOp, ho]
      simp [Instr.makeMap, run_newObj]
  · cases hx
noncomputable def szT (P : Program) (t : TypeId) : Option Nat :=
  match wide P t with
  | some m => some m
  | none => bif scalar P t then some 1 else none
theorem szT_ok {t : TypeId} {m : Nat} (h : szT P t = some m) : ∃ i, P.info? t = some i ∧ i.size = m := by
  unfold szT at h
  split at h
  · next m' hm =>
    cases h
    unfold wide at hm
    split at hm
    · exact Option.map_eq_some_iff.1 hm
    · exact Option.map_eq_some_iff.1 hm
    · cases hm
  · cases hs : scalar P t with
    | false => rw [hs, cond_false] at h; cases h
    | true =>
      rw [hs, cond_true] at h
      cases h
      have : (P.info? t).map (·.size) = some 1 := by
        unfold scalar at hs
        split at hs <;> simp_all
      exact Option.map_eq_some_iff.1 this
theorem store_cells (h : Gok I w0 ρ g w) {b off : Nat} {cs new cs' : Cs} {ty : TypeId} {m : Lin} (hg : g.H.get b = some (.cells cs ty)) {vn : List Value} (hp : putC g.e.bi cs off new m = some cs') (hn : Cs.ev ρ new = some vn) (hm : m.ev ρ = some (vn.length : Int)) :
    ∃ k, ρ.b b = some ⟨k, 0, none⟩ ∧ ∃ vs : List Value, w.heap[k]? = some (.cells vs.toArray ty (0, 0)) ∧ off + vn.length ≤ vs.length ∧ Gok I w0 ρ ⟨g.H.set b (some (.cells cs' ty)), g.nb, g.rs, g.e⟩ (w.setRow k (vs.take off ++ vn ++ vs.drop (off + vn.length)).toArray) := by
  obtain ⟨ad, had, k, vs, rfl, h1, h2⟩ := h.mem.has b _ hg
  obtain ⟨h3, h4⟩ := putC_ok h.env.bok hp h1 hn hm
  refine ⟨k, had, vs, h2, h4, h.wrt hg rfl had (kept_setRow w k _) ⟨k, _, rfl, h3, setRow_heap w k _ _ _ _ h2⟩⟩
noncomputable def fStore (P : Program) (g : G) (L : Sl) (t : TypeId) (x y : Operand) : Option Res :=
  match evS L x, evS L y, szT P t with
  | some (.e (.c (.ptr b off))), some s, some m => match g.H.get b, cellsOf g.e.bi s m with
    | some (.cells cs ty), some new => match putC g.e.bi cs off new (.k (.ofNat m)) with
      | some cs' => some ⟨none, g.H.set b (some (.cells cs' ty)), g.nb, g.rs, g.e⟩
      | none => none
    | _, _ => none
  | _, _, _ => none
theorem fStore_ok (hf : Frm ρ n L a) (h : Gok I w0 ρ g w) {t : TypeId} {y z : Operand} {x : Res} (ho : o.op = .store t y z) (hx : fStore P g L t y z = some x) : EfOk P I w0 ρ a w o x := by
  unfold fStore at hx
  split at hx
  · next b off s m hy hs hm =>
    split at hx
    · next cs ty new hg hc =>
      split at hx
      · next cs' hp =>
        cases hx
        obtain ⟨yv, hyv, hay⟩ := evA hf hy
        obtain ⟨v, hv, hav⟩ := evA hf hs
        obtain ⟨vn, h1, h2, h3, h4⟩ := cellsOf_ok h.env.bok hc hv
        obtain ⟨i, hi, him⟩ := szT_ok hm
        obtain ⟨k, hb, vs, h5, h6, h7⟩ := store_cells h hg hp h1 (by rw [h3]; rfl)
        refine ⟨_, _, Env.le.refl ρ, h7, .inr ⟨rfl, ?_⟩⟩
        simp only [SV.ev, EV.ev, SC.ev, hb, Option.map_some] at hyv
        cases hyv
        have hst := run_storeCells_at P k off ty vn 0 vs.toArray w h5 (by simpa using h6) h4
        simp only [Nat.add_zero] at hst
        have hsz : (sizeOf t).run P w = .ok vn.length w := by simp [sizeOf, typeInfo, hi, him, h3]
        simp only [execOp, ho, hay, hav, Instr.storeAt, Instr.sureAddr, add_lit, Nat.zero_add]
        simp [storeVar, h2, hsz, hst]
      · cases hx
    · cases hx
  · cases hx
noncomputable def fMake (P : Program) (zt : Zt) (g : G) (L : Sl) (nid : Option Nat) (t : TypeId) (l c : Operand) : Option Res :=
  match slc P t, evS L l, evS L c, newId g nid with
  | some (e, 1, by_), some (.e (.c (.int _ N))), some (.e (.c (.int _ M))), some (id, nb, rs) => match zcells P zt e, le? g.e.bi (.k 0) N, le? g.e.bi N M, rng g.e.bi M with
    | some [.one z], some true, some true, some (_, hi) => bif ile (Int.mul (.ofNat by_) hi) 281474976710656 && ile hi 9223372036854775807 then
        some ⟨some (.e (.c (.slc id 0 N M))), g.H.set id (some (.cells [.zs z M] e)), nb, rs, g.e⟩ else none
    | _, _, _, _ => none
  | _, _, _, _ => none
theorem fMake_ok (hz : zt.Ok P) (hf : Frm ρ n L a) (h : Gok I w0 ρ g w) {nid : Option Nat} {t : TypeId} {l c : Operand} {x : Res} (ho : o.op = .makeSlice t l c) (hx : fMake P zt g L nid t l c = some x) : EfOk P I w0 ρ a w o x := by
  unfold fMake at hx
  split at hx
  · next e by_ kl N kc M id nb rs ht hl hc hn =>
    split at hx
    · next z lo hi hzc h0 hNM hr =>
      cases hcond : (ile (Int.mul (.ofNat by_) hi) 281474976710656 && ile hi 9223372036854775807) with
      | false => rw [hcond, cond_false] at hx; cases hx
      | true =>
        rw [hcond, cond_true] at hx
        cases hx
        simp only [Bool.and_eq_true] at hcond
        have hc1 := ile_true hcond.1
        have hc2 := ile_true hcond.2
        obtain ⟨lv, hlv, hal⟩ := evA hf hl
        obtain ⟨cv, hcv, hac⟩ := evA hf hc
        simp only [SV.ev, EV.ev, SC.ev] at hlv hcv
        obtain ⟨N', hN, rfl⟩ := Option.map_eq_some_iff.1 hlv
        obtain ⟨M', hM, rfl⟩ := Option.map_eq_some_iff.1 hcv
        have h0' := of_decide_eq_true (le_ok h.env.bok (rfl : (Lin.k 0).ev ρ = some 0) hN h0).symm
        have hNM' := of_decide_eq_true (le_ok h.env.bok hN hM hNM).symm
        obtain ⟨M2, hM2, _, hhi⟩ := rng_ok h.env.bok hr
        rw [hM] at hM2
        cases hM2
        obtain ⟨hu, inf, hinf, hs, hby⟩ := slc_parts ht
        obtain ⟨zs, hz1, hz2⟩ := zcells_ok hz hzc
        obtain ⟨inf', zv, hinf', hzv, hzz⟩ := zer_parts hz1
        rw [hinf] at hinf'
        cases hinf'
        have hzs := hz2 ρ
        simp only [Cs.ev, Seg.ev] at hzs
        split at hzs
        · next p q hp hq =>
          cases hq; cases hzs
          obtain ⟨v, hv, rfl⟩ := Option.map_eq_some_iff.1 hp
          have hv1 := SC.ev_one hv
          simp only [List.append_nil] at hzz
          have hcells : zv.cells = #[v] := by rw [← Array.toList_inj, hzz]
          have hmul : (by_ : Int) * M' ≤ 281474976710656 := by
            have e1 : Int.mul (.ofNat by_) hi = (by_ : Int) * hi := rfl
            rw [e1] at hc1
            have := Int.mul_le_mul_of_nonneg_left hhi (show (0 : Int) ≤ by_ by omega)
            omega
          have hr := run_make (P := P) w t e inf zv hu hinf hzv kl kc N' M' h0' hNM' (by rw [hby]; exact hmul) (by omega)
          have hmade : madeCells zv.cells (M'.toNat * inf.size) = (List.replicate M'.toNat v).toArray := by
            rw [← Array.toList_inj, hs, Nat.mul_one, hcells]
            have hvc : v.cells = #[v] := by cases v <;> first | rfl | (simp [Value.oneCell'] at hv1)
            have := madeCells_one v M'.toNat hvc
            rw [hvc] at this
            rw [this]
          rw [hmade] at hr
          obtain ⟨hle, hg⟩ := h.new hn (kept_alloc w (.cells (List.replicate M'.toNat v).toArray e)) (Nat.le_refl _) (hb := .cells [.zs z M] e) (fun ρ' hle => ⟨_, List.replicate M'.toNat v, rfl, by
            simp only [Cs.ev, Seg.ev, SC.ev_mono hle hv, Lin.ev_mono hle hM]; rw [if_pos (by omega)]; simp, heap_alloc_new w _⟩)
          refine ⟨_, _, hle, hg, .inl ⟨_, .slice (some ⟨w.heap.size, 0, none⟩) N'.toNat M'.toNat, rfl, ?_, ?_⟩⟩
          · simp only [SV.ev, EV.ev, SC.ev, Env.setB_self, Lin.ev_mono hle hN, Lin.ev_mono hle hM]
            rw [if_pos ⟨h0', hNM'⟩]; rfl
          · simp only [execOp, ho, hal, hac, Sem.run_bind, hr, Result.andThen_ok, Sem.run_pure]
        · cases hzs
    · cases hx
  · cases hx
def scs : Cs → Option (List SC)
  | [] => some []
  | .one x :: r => match scs r with
    | some l => some (x :: l)
    | none => none
  | .rep [x] k :: r => match scs r with
    | some l => some (List.replicate k x ++ l)
    | none => none
  | _ :: _ => none
theorem evSs_app : ∀ {p q : List SC} {u v : List Value}, evSs ρ p = some u → evSs ρ q = some v → evSs ρ (p ++ q) = some (u ++ v)
  | [], q, u, v, h, g => by simp only [evSs] at h; cases h; simpa using g
  | x :: r, q, u, v, h, g => by
    simp only [evSs] at h
    split at h
    · next p s hp hs => cases h; simp only [List.cons_append, evSs, hp, evSs_app hs g]
    · cases h
theorem scs_ok : ∀ {cs : Cs} {l : List SC} {vs : List Value}, scs cs = some l → Cs.ev ρ cs = some vs → evSs ρ l = some vs
  | [], l, vs, h, hv => by simp only [scs] at h; cases h; simp only [Cs.ev] at hv; cases hv; rfl
  | s :: r, l, vs, h, hv => by
    simp only [Cs.ev] at hv
    split at hv
    · next u t hu ht =>
      cases hv
      unfold scs at h
      split at h
      · next heq => cases heq
      · next x r' heq =>
        cases heq
        split at h
        · next m hm =>
          cases h
          simp only [Seg.ev] at hu
          obtain ⟨v, hv, rfl⟩ := Option.map_eq_some_iff.1 hu
          simp only [evSs, hv, scs_ok hm ht]; rfl
        · cases h
      · next x k r' heq =>
        cases heq
        split at h
        · next m hm =>
          cases h
          simp only [Seg.ev] at hu
          obtain ⟨v, hv, rfl⟩ := Option.map_eq_some_iff.1 hu
          refine evSs_app ?_ (scs_ok hm ht)
          simp only [evSs] at hv
          split at hv
          · next p q hp hq =>
            cases hq; cases hv
            have : ∀ k, evSs ρ (List.replicate k x) = some (times k [p]) := by
              intro k
              induction k with
              | zero => rfl
              | succ k ih => rw [List.replicate_succ, evSs, hp, ih, show k + 1 = 1 + k from by omega, times_add, times_one]; rfl
            exact this k
          · cases hv
        · cases h
      · cases h
    · cases hv
def pls (s : Nat) : Nat → List (Nat × Nat)
  | 0 => []
  | n + 1 => pls s n ++ [(Nat.mul n s, s)]
theorem pls_get (s : Nat) : ∀ (n i : Nat) (x : Nat × Nat), (pls s n)[i]? = some x → x = (i * s, s)
  | 0, i, x, h => by simp [pls] at h
  | n + 1, i, x, h => by
    have hl : ∀ n, (pls s n).length = n := by
      intro n
      induction n with
      | zero => rfl
      | succ n ih => simp [pls, ih]
    simp only [pls] at h
    by_cases hi : i < n
    · rw [List.getElem?_append_left (by rw [hl]; exact hi)] at h
      exact pls_get s n i x h
    · rw [List.getElem?_append_right (by rw [hl]; omega), hl] at h
      by_cases he : i = n
      · subst he; simp at h; exact h.symm
      · rw [List.getElem?_cons, if_neg (by omega)] at h; simp at h
theorem times_get (z : List Value) (hz : 0 < z.length) : ∀ (n j : Nat), j < n * z.length → (times n z)[j]? = z[j % z.length]?
  | 0, j, h => by simp at h
  | n + 1, j, h => by
    rw [show n + 1 = 1 + n from by omega, times_add, times_one]
    by_cases hj : j < z.length
    · rw [List.getElem?_append_left hj, Nat.mod_eq_of_lt hj]
    · rw [List.getElem?_append_right (by omega), times_get z hz n (j - z.length) (by rw [Nat.add_mul] at h; omega)]
      congr 1
      have : j = (j - z.length) + z.length := by omega
      conv => rhs; rw [this, Nat.add_mod_right]
theorem range_times (z : Array Value) (n : Nat) (hz : 0 < z.size) : ((Array.range (n * z.size)).map (z[· % z.size]!)).toList = times n z.toList := by
  apply List.ext_getElem?
  intro j
  by_cases hj : j < n * z.size
  · rw [times_get _ (by simpa using hz) n j (by simpa using hj)]
    have hm : j % z.size < z.size := Nat.mod_lt _ hz
    simp [hj, hm]
  · rw [List.getElem?_eq_none (by simp; omega), List.getElem?_eq_none (by rw [times_length, Array.length_toList, Nat.mul_comm]; omega)]
noncomputable def fLit (P : Program) (zt : Zt) (g : G) (L : Sl) (nid : Option Nat) (t : TypeId) (len : Nat) (ps : List (Nat × Operand)) : Option Res :=
  match slc P t, newId g nid with
  | some (e, s, _), some (id, nb, rs) => bif Nat.blt 0 s && Nat.ble (Nat.mul len s) 16777216 then (match zcells P zt e with
    | some zc => match scs zc with
      | some z => match putParts g.e.bi L (pls s len) ps [.rep z len] with
        | some cs => bif Nat.beq (lenN z) s then some ⟨some (.e (.c (.slc id 0 (.k (.ofNat len)) (.k (.ofNat len))))), g.H.set id (some (.cells cs e)), nb, rs, g.e⟩ else none
        | none => none
      | none => none
    | none => none) else none
  | _, _ => none
theorem fLit_ok (hz : zt.Ok P) (hf : Frm ρ n L a) (h : Gok I w0 ρ g w) {nid : Option Nat} {t : TypeId} {len : Nat} {ps : Array (Nat × Operand)} {x : Res} (ho : o.op = .buildSlice t len ps) (hx : fLit P zt g L nid t len ps.toList = some x) : EfOk P I w0 ρ a w o x := by
  unfold fLit at hx
  split at hx
  · next e s by_ id nb rs ht hn =>
    cases hcond : (Nat.blt 0 s && Nat.ble (Nat.mul len s) 16777216) with
    | false => rw [hcond, cond_false] at hx; cases hx
    | true =>
      rw [hcond, cond_true] at hx
      simp only [Bool.and_eq_true] at hcond
      have hs0 := blt_iff.1 hcond.1
      have hsz : len * s ≤ 16777216 := Nat.le_of_ble_eq_true hcond.2
      split at hx
      · next zc hzc =>
        split at hx
        · next z hzs =>
          split at hx
          · next cs hp =>
            cases hl : Nat.beq (lenN z) s with
            | false => rw [hl, cond_false] at hx; cases hx
            | true =>
              rw [hl, cond_true] at hx
              cases hx
              have hl' : z.length = s := by rw [← lenN_eq]; exact Nat.eq_of_beq_eq_true hl
              obtain ⟨hu, inf, hinf, hs, hby⟩ := slc_parts ht
              obtain ⟨zv, hz1, hz2⟩ := zcells_ok hz hzc
              obtain ⟨inf', zval, hinf', hzv, hzz⟩ := zer_parts hz1
              rw [hinf] at hinf'
              cases hinf'
              have hev := scs_ok hzs (hz2 ρ)
              have hzl : zv.length = s := by rw [evSs_length hev, hl']
              have hrep : Cs.ev ρ [Seg.rep z len] = some (times len zv) := by simp [Cs.ev, Seg.ev, hev]
              obtain ⟨vs, cells, g1, g2, g3⟩ := putParts_ok h.env.bok hf hp hrep
              have hfill := fill_puts (place := fun i => some (i * s, s)) (fun i x hx => by rw [pls_get s len i x hx]) vs _ cells g2
              have hzsz : zval.cells.size = s := by rw [← hzl, ← hzz]; simp
              have hinit : (Array.range (len * s)).map (zval.cells[· % zval.cells.size]!) = (times len zv).toArray := by
                rw [← Array.toList_inj, ← hzsz, range_times _ _ (by omega), hzz]
              have hparts : (ps.map fun x => (x.1, a.eval x.2)) = vs.toArray := by
                have := evp_map (fr_full a) g1
                rw [← Array.toList_inj]
                simp only [Array.toList_map]
                exact this
              have hr : (Instr.buildSlice t len vs.toArray).run P w = .ok (.slice (some ⟨w.heap.size, 0, none⟩) len len) (w.alloc (.cells cells.toArray e)) := by
                simp only [Instr.buildSlice, Sem.run_bind, run_underlying hu, Result.andThen_ok, sizeOf, typeInfo, run_program, hinf, hs, Sem.run_pure]
                rw [if_neg (by omega)]
                by_cases h0 : len * s = 0
                · have hlen0 : len = 0 := by
                    rcases Nat.mul_eq_zero.1 h0 with h1 | h1 <;> omega
                  subst hlen0
                  rw [if_pos h0]
                  have e0 : (Array.range (0 * s)).map (fun x => (#[] : Array Value)[x % (#[] : Array Value).size]!) = (times 0 zv).toArray := by
                    rw [← Array.toList_inj]; simp [times]
                  simp only [Sem.run_bind, Sem.run_pure, Result.andThen_ok, e0, hfill, newRow, run_newObj]; rfl
                · rw [if_neg h0]
                  simp only [Sem.run_bind, zeroValue, typeInfo, run_program, Result.andThen_ok, hinf, Sem.run_pure, hzv, hinit, hfill, newRow, run_newObj]; rfl
              obtain ⟨hle, hg⟩ := h.new hn (kept_alloc w (.cells cells.toArray e)) (Nat.le_refl _) (hb := .cells cs e) (fun ρ' hle => ⟨_, cells, rfl, Cs.ev_mono hle g3, heap_alloc_new w _⟩)
              refine ⟨_, _, hle, hg, .inl ⟨_, .slice (some ⟨w.heap.size, 0, none⟩) len len, rfl, ?_, ?_⟩⟩
              · simp only [SV.ev, EV.ev, SC.ev, Env.setB_self, Lin.ev]
                have e : (Int.ofNat len : Int) = (len : Int) := rfl
                rw [if_pos ⟨by omega, Int.le_refl _⟩]; rfl
              · simp only [execOp, ho, hparts, Sem.run_bind, hr, Result.andThen_ok, Sem.run_pure]
          · cases hx
        · cases hx
      · cases hx
  · cases hx
end
end Go.Z
namespace Go.Z
open Go Go.X
structure AppR (P : Program) (t t2 ty e : TypeId) (s by_ : Nat) (z : Value) (w : World) (vy : Value) (m : Nat) (news : List Value) : Prop where
  zero : m = 0 → ∀ A l c, l ≤ c → (Builtin.append_ #[t, t2] ty #[.slice A l c, vy]).run P w = .ok (.slice A l c) w
  grow : ∀ A l c (olds : List Value), 0 < m → olds.length = l * s → (A = none → l = 0 ∧ c = 0) → (∀ ad, A = some ad → ∀ j v, olds[j]? = some v → w.cell? (ad.add j) = some v) → c < l + m → l + m ≤ 9223372036854775807 → (l + m) * by_ ≤ 140737488355328 →
    (Builtin.append_ #[t, t2] ty #[.slice A l c, vy]).run P w = .ok (.slice (some ⟨w.heap.size, 0, none⟩) (l + m) (grownCap w (l + m) c e)) (w.drew.alloc (.cells (olds ++ news ++ (Builtin.zeroCells z.cells (grownCap w (l + m) c e - (l + m))).toList).toArray e))
  room : ∀ g l c (cur : List Value), w.heap[g]? = some (.cells cur.toArray e (0, 0)) → 0 < m → l + m ≤ c → l + m ≤ 9223372036854775807 → (l + m) * by_ ≤ 140737488355328 → l * s + news.length ≤ cur.length →
    (Builtin.append_ #[t, t2] ty #[.slice (some ⟨g, 0, none⟩) l c, vy]).run P w = .ok (.slice (some ⟨g, 0, none⟩) (l + m) c) (w.setRow g (cur.take (l * s) ++ news ++ cur.drop (l * s + news.length)).toArray)
section
variable {P : Program} {w : World}
theorem appR_slice {t e : TypeId} (ty : TypeId) {s by_ : Nat} {z : Value} (ha : slc P t = some (e, s, by_)) {i : TypeInfo} (hi : P.info? e = some i) (hz : i.zero = some z) {B : Option Addr} {m c' : Nat} {news : List Value} (hnl : news.length = m * s) (h1 : ∀ v ∈ news, v.oneCell' = true)
    (hB : 0 < m → ∃ b, B = some b) (hR : ∀ b, B = some b → ∀ j v, news[j]? = some v → w.cell? (b.add j) = some v) : AppR P t t ty e s by_ z w (.slice B m c') m news := by
  obtain ⟨hu, inf, hinf, hs, hby⟩ := slc_parts ha
  rw [hi] at hinf
  cases hinf
  subst hs hby
  refine ⟨fun hm A l c hlc => ?_, fun A l c olds hm hol hA hRo hg h63 hbytes => ?_, fun g l c cur hg hm hlc h63 hbytes hfit => ?_⟩
  · subst hm
    have hn0 : news = [] := List.eq_nil_of_length_eq_zero (by simpa using hnl)
    have hfirst : (Builtin.firstCells i.size 0 (.slice B 0 c')).run P w = .ok #[] w := by
      cases B with
      | none => simp [Builtin.firstCells]
      | some b => simp [Builtin.firstCells, loadCells, loadCellsFrom]
    cases A with
    | none => simp [Builtin.append_, run_underlying hu, sizeOf, typeInfo, hi, Builtin.lenOf, hlc, hfirst]
    | some b => simp [Builtin.append_, run_underlying hu, sizeOf, typeInfo, hi, Builtin.lenOf, hlc, hfirst, storeCells]
  · obtain ⟨b, rfl⟩ := hB hm
    cases A with
    | none =>
      obtain ⟨rfl, rfl⟩ := hA rfl
      have : olds = [] := List.eq_nil_of_length_eq_zero (by simpa using hol)
      subst this
      have hr := run_append_nil (P := P) w t ty e i z hu hi hz b m c' news hnl (hR b rfl) hm (by omega) (by have := hbytes; rw [Nat.zero_add] at this; omega)
      simp only [Nat.zero_add, List.nil_append]
      rw [hr]
      congr 3
      rw [← Array.toList_inj]; simp
    | some ad =>
      have hr := run_append_grow (P := P) w t ty e i z hu hi hz ad l c olds hol (hRo ad rfl) b m c' news hnl (hR b rfl) hg (by omega) (growslice_fits hg hbytes)
      rw [hr]
      congr 3
      rw [← Array.toList_inj]; simp
  · obtain ⟨b, rfl⟩ := hB hm
    have hr := run_append_room (P := P) w t ty e i hu hi g l c cur.toArray hg b m c' news hnl (hR b rfl) h1 hlc (by simpa using hfit)
    simpa using hr
theorem zeroCells_times (z : Array Value) (n : Nat) (hz : 0 < z.size) : (Builtin.zeroCells z n).toList = times n z.toList := range_times z n hz
theorem appR_zeros {t tn e : TypeId} (ty : TypeId) {s by_ : Nat} {z : Value} {kn kq : IntKind} (ha : slc P t = some (e, s, by_)) (hs0 : 0 < s) (htn : P.underlying tn = some (.int kn)) {i : TypeInfo} (hi : P.info? e = some i) (hz : i.zero = some z) (hzl : z.cells.size = s) (hz1 : ∀ v ∈ z.cells.toList, v.oneCell' = true) (m : Nat) (hm63 : m ≤ 9223372036854775807) (hmb : m * by_ ≤ 140737488355328) :
    AppR P t tn ty e s by_ z w (.int kq (m : Int)) m (times m z.cells.toList) := by
  obtain ⟨hu, inf, hinf, hs, hby⟩ := slc_parts ha
  rw [hi] at hinf
  cases hinf
  subst hs hby
  have hw : IntKind.i64.wrap (m : Int) = m := i64_wrap (by omega) (by omega)
  have h48 : ¬ ((281474976710656 : Int) < (m : Int) * (i.bytes : Int)) := by
    have h2 : ((m * i.bytes : Nat) : Int) ≤ 140737488355328 := by omega
    rw [Int.natCast_mul] at h2
    omega
  refine ⟨fun hm A l c hlc => ?_, fun A l c olds hm hol hA hRo hg h63 hbytes => ?_, fun g l c cur hg hm hlc h63 hbytes hfit => ?_⟩
  · subst hm
    cases A with
    | none => simp [Builtin.append_, run_underlying hu, run_underlying htn, sizeOf, typeInfo, hi, show IntKind.i64.wrap 0 = 0 by decide, hlc, asInt, asIntOf]
    | some b => simp [Builtin.append_, run_underlying hu, run_underlying htn, sizeOf, typeInfo, hi, show IntKind.i64.wrap 0 = 0 by decide, hlc, storeCells, asInt, asIntOf]
  · have hmb' : m * i.bytes ≤ 281474976710656 := by omega
    have hzc : (Builtin.zeroCells z.cells m).toList = times m z.cells.toList := zeroCells_times _ _ (by omega)
    cases A with
    | none =>
      obtain ⟨rfl, rfl⟩ := hA rfl
      have : olds = [] := List.eq_nil_of_length_eq_zero (by simpa using hol)
      subst this
      have hr := Lib.run_append_nil_zeros (P := P) w t tn ty e i z kq kn hu htn hi hz m hm hs0 (by omega) hmb'
      simp only [Nat.zero_add, List.nil_append]
      rw [hr]
      congr 3
      rw [← Array.toList_inj]; simp [hzc]
    | some ad =>
      have hfirst : (Builtin.firstCells i.size l (.slice (some ad) l c)).run P w.drew = .ok olds.toArray w.drew :=
        run_firstCells_some (P := P) w.drew i.size l ad l c olds hol (fun j v hj => hRo ad rfl j v hj)
      have hr := Lib.run_append_grow_zeros (P := P) w t tn ty e i z kq kn hu htn hi hz (some ad) l c olds hfirst m hm (by omega) (by omega) (by omega) hmb' (growslice_fits hg hbytes)
      rw [hr]
      congr 3
      rw [← Array.toList_inj]; simp [hzc]
  · have hzc : (Builtin.zeroCells z.cells m).toList = times m z.cells.toList := zeroCells_times _ _ (by omega)
    have hone : ∀ v ∈ times m z.cells.toList, v.oneCell' = true := fun v hv => by
      simp only [times, List.mem_flatten, List.mem_replicate] at hv
      obtain ⟨q, ⟨_, rfl⟩, hv⟩ := hv
      exact hz1 v hv
    have hst := run_storeCells_at P g (l * i.size) e (times m z.cells.toList) 0 cur.toArray w hg (by simpa using hfit) hone
    simp only [Nat.add_zero] at hst
    have hm0 : m ≠ 0 := by omega
    have hn1 : ¬ (m * i.size = 0) := Nat.mul_ne_zero hm0 (by omega)
    simp [Builtin.append_, run_underlying hu, run_underlying htn, sizeOf, typeInfo, zeroValue, hi, hz, hw, hlc, add_lit, hm0, hn1, hzc, hst, asInt, asIntOf, h48]
    intro h
    omega
end
end Go.Z
namespace Go.Z
open Go Go.X
def mulT (s : Int) : List (Int × Nat) → List (Int × Nat)
  | [] => []
  | (k, i) :: r => (s * k, i) :: mulT s r
def Lin.mul (s : Nat) : Lin → Lin
  | .k n => .k (Int.mul (.ofNat s) n)
  | .s n ts => bif Nat.beq s 1 then .s n ts else .s (Int.mul (.ofNat s) n) (mulT (.ofNat s) ts)
theorem evTs_mul {ρ : Env} {s : Int} : ∀ {ts : List (Int × Nat)} {x : Int}, evTs ρ ts = some x → evTs ρ (mulT s ts) = some (s * x)
  | [], x, h => by simp only [evTs] at h; cases h; simp [mulT, evTs]
  | (k, i) :: r, x, h => by
    simp only [evTs] at h
    split at h
    · next a b ha hb =>
      cases h
      simp only [mulT, evTs, ha, evTs_mul hb]
      congr 1
      rw [Int.mul_add, Int.mul_assoc]
    · cases h
theorem Lin.ev_mul {ρ : Env} {s : Nat} {e : Lin} {x : Int} (h : e.ev ρ = some x) : (e.mul s).ev ρ = some ((s : Int) * x) := by
  cases e with
  | k n => simp only [Lin.ev] at h; cases h; rfl
  | s n ts =>
    simp only [Lin.mul]
    by_cases hs : s = 1
    · subst hs; rw [Nat.beq_refl, cond_true, h]; simp
    · rw [nbeq hs, cond_false]
      simp only [Lin.ev] at h ⊢
      obtain ⟨z, hz, rfl⟩ := Option.map_eq_some_iff.1 h
      rw [evTs_mul hz, Option.map_some]
      congr 1
      have e1 : Int.mul (.ofNat s) n = (s : Int) * n := rfl
      have e2 : (Int.ofNat s : Int) = (s : Int) := rfl
      rw [e1, e2, Int.mul_add]
def Env.setIL (ρ : Env) (i l : Nat) (x : Int) (vs : List Value) : Env := { ρ with i := fun j => if j = i then some x else ρ.i j, l := fun j => if j = l then some vs else ρ.l j }
def slackL (i s : Nat) : Lin := .s 0 [(.ofNat s, i)]
noncomputable def E.junk (e : E) (s : Nat) : E := { e with bi := e.bi.set e.ni (some (0, 9223372036854775807)), ni := Nat.succ e.ni, li := e.li.set e.nl (some ⟨slackL e.ni s, none⟩), nl := Nat.succ e.nl }
section
variable {P : Program} {I : In} {w0 w : World} {ρ : Env} {g : G} {n : Nat} {L : Sl} {a : Act} {o : Oper} {zt : Zt}
theorem Gok.junk (h : Gok I w0 ρ g w) (x s : Nat) (hx : x ≤ 9223372036854775807) (vs : List Value) (hl : vs.length = x * s) (h1 : ∀ v ∈ vs, v.oneCell' = true) :
    ρ.le (ρ.setIL g.e.ni g.e.nl x vs) ∧ Gok I w0 (ρ.setIL g.e.ni g.e.nl x vs) ⟨g.H, g.nb, g.rs, g.e.junk s⟩ w ∧ (slackL g.e.ni s).ev (ρ.setIL g.e.ni g.e.nl x vs) = some ((x * s : Nat) : Int) ∧ Cs.ev (ρ.setIL g.e.ni g.e.nl x vs) [Seg.run g.e.nl 0 (slackL g.e.ni s)] = some vs := by
  have hle : ρ.le (ρ.setIL g.e.ni g.e.nl x vs) := ⟨fun _ _ h => h, fun k y hk => by
      simp only [Env.setIL]
      by_cases he : k = g.e.ni
      · subst he; rw [h.env.fi _ (Nat.le_refl _)] at hk; cases hk
      · rw [if_neg he]; exact hk, fun k y hk => by
      simp only [Env.setIL]
      by_cases he : k = g.e.nl
      · subst he; rw [h.env.fl _ (Nat.le_refl _)] at hk; cases hk
      · rw [if_neg he]; exact hk, fun _ _ h => h, fun _ _ h => h⟩
  have hs : (slackL g.e.ni s).ev (ρ.setIL g.e.ni g.e.nl x vs) = some ((x * s : Nat) : Int) := by
    simp only [slackL, Lin.ev, evTs, Env.setIL, if_true, Option.map_some]
    congr 1
    have e2 : (Int.ofNat s : Int) = (s : Int) := rfl
    rw [e2, Int.natCast_mul, Int.mul_comm]; omega
  have hl' : (ρ.setIL g.e.ni g.e.nl x vs).l g.e.nl = some vs := by simp [Env.setIL]
  refine ⟨hle, ⟨h.mem.same hle (Kept.refl [] w), h.fb, h.fr, ?_⟩, hs, ?_⟩
  · refine ⟨fun i lo hi hg => ?_, fun i hi => ?_, fun i y hg => ?_, fun i hi => ?_, fun i y hg => ?_, h.env.fs⟩
    · simp only [E.junk] at hg
      rw [T.get_set] at hg
      by_cases he : g.e.ni = i
      · rw [if_pos he] at hg
        cases hg
        subst he
        exact ⟨x, by simp [Env.setIL], by omega, by omega⟩
      · rw [if_neg he] at hg
        obtain ⟨y, h1, h2⟩ := h.env.bok i lo hi hg
        exact ⟨y, hle.i i y h1, h2⟩
    · have hi' : g.e.ni + 1 ≤ i := hi
      simp only [Env.setIL]
      rw [if_neg (by omega)]
      exact h.env.fi i (by omega)
    · simp only [E.junk] at hg
      rw [T.get_set] at hg
      by_cases he : g.e.nl = i
      · rw [if_pos he] at hg
        cases hg
        subst he
        exact ⟨vs, hl', by rw [hl]; exact hs, List.all_eq_true.2 h1, fun d hd => by cases hd⟩
      · rw [if_neg he] at hg
        obtain ⟨us, h1, h2, h3, h4⟩ := h.env.lok i y hg
        exact ⟨us, hle.l i us h1, Lin.ev_mono hle h2, h3, fun d hd => by obtain ⟨us, h5, h6⟩ := h4 d hd; exact ⟨us, evAs_mono hle h5, h6⟩⟩
    · have hi' : g.e.nl + 1 ≤ i := hi
      simp only [Env.setIL]
      rw [if_neg (by omega)]
      exact h.env.fl i (by omega)
    · obtain ⟨s, h1, hb, us, h2, h3⟩ := h.env.sok i y hg
      exact ⟨s, h1, hb, us, evAs_mono hle h2, h3⟩
  · simp only [Cs.ev, Seg.ev, hl', hs]
    rw [if_pos ⟨by omega, by simp; omega, List.all_eq_true.2 h1⟩]
    simp [← hl]
theorem Gok.mov (h : Gok I w0 ρ g w) {nid : Option Nat} {id nb' : Nat} {rs' : List Nat} (hn : newId g nid = some (id, nb', rs')) {b k : Nat} {hb0 hb : HB} (hg : g.H.get b = some hb0) (hown : hb0.own = true) (hbb : ρ.b b = some ⟨k, 0, none⟩) {w' : World} (hk : Kept [k] w w') {k' : Nat} (hge : w.heap.size ≤ k' ∨ k' = k) (hok : ∀ ρ' : Env, ρ.le ρ' → hb.ok ρ' w' ⟨k', 0, none⟩) :
    ρ.le (ρ.setB id ⟨k', 0, none⟩) ∧ Gok I w0 (ρ.setB id ⟨k', 0, none⟩) ⟨(g.H.set b none).set id (some hb), nb', rs', g.e⟩ w' := by
  obtain ⟨h1, h2, h3, h4⟩ := newId_ok h hn ⟨k', 0, none⟩
  have hle := Env.setB_le (ad := ⟨k', 0, none⟩) h1
  refine ⟨hle, ?_, h3, h4, h.env.mono hle rfl rfl rfl⟩
  refine h.mem.upd hle hk (id := b) (id' := id) (fun j => ?_) (fun q hq => ?_) (Env.setB_self ρ id _) (hok _ hle) ?_
  · show ((g.H.set b none).set id (some hb)).get j = _
    rw [T.get_set, T.get_set]
    by_cases hj : j = id
    · rw [if_pos hj.symm, if_pos hj]
    · rw [if_neg (fun e => hj e.symm), if_neg hj]
      by_cases hjb : j = b
      · rw [if_pos hjb.symm, if_pos hjb]
      · rw [if_neg (fun e => hjb e.symm), if_neg hjb]
  · have : q = k := by simpa using hq
    subst this
    exact ⟨hb0, _, hg, hown, hbb, rfl⟩
  · rcases hge with h5 | h5
    · exact .inl h5
    · subst h5; exact .inr ⟨hb0, _, hg, hown, hbb, rfl⟩
noncomputable def appTo (zt : Zt) (P : Program) (g : G) (nid : Option Nat) (e : TypeId) (s by_ : Nat) (X : SC) (m : Lin) (news : Cs) : Option Res :=
  match lt? g.e.bi (.k 0) m with
  | some false => match X with
    | .slc b k l c => some ⟨some (.e (.c (.slc b k l c))), g.H, g.nb, g.rs, g.e⟩
    | .snil => some ⟨some (.e (.c .snil)), g.H, g.nb, g.rs, g.e⟩
    | _ => none
  | some true => match newId g nid with
    | some (id, nb, rs) => match X with
      | .snil => match rng g.e.bi m with
        | some (_, hi) => bif ile (Int.mul (.ofNat by_) hi) 140737488355328 && ile hi 9223372036854775807 then
            some ⟨some (.e (.c (.slc id 0 m (m.add (slackL g.e.ni 1))))), g.H.set id (some (.cells (news ++ [.run g.e.nl 0 (slackL g.e.ni s)]) e)), nb, rs, g.e.junk s⟩ else none
        | none => none
      | .slc b k l c => match rng g.e.bi (l.add m) with
        | some (_, hi) => bif ile (Int.mul (.ofNat by_) hi) 140737488355328 && ile hi 9223372036854775807 then (match lt? g.e.bi c (l.add m) with
          | some true => match l with
            | .k (.ofNat 0) => some ⟨some (.e (.c (.slc id 0 m (m.add (slackL g.e.ni 1))))), g.H.set id (some (.cells (news ++ [.run g.e.nl 0 (slackL g.e.ni s)]) e)), nb, rs, g.e.junk s⟩
            | l => match rdB g.H b with
              | some cs => match split g.e.bi cs (.k (.ofNat k)) with
                | some (_, r) => match split g.e.bi r (l.mul s) with
                  | some (olds, _) => some ⟨some (.e (.c (.slc id 0 (l.add m) ((l.add m).add (slackL g.e.ni 1))))), g.H.set id (some (.cells (olds ++ (news ++ [.run g.e.nl 0 (slackL g.e.ni s)])) e)), nb, rs, g.e.junk s⟩
                  | none => none
                | none => none
              | none => none
          | some false => match k, l, g.H.get b with
            | 0, .k (.ofNat ln), some (.cells cs ty) => bif Nat.beq ty e then (match putC g.e.bi cs (Nat.mul ln s) news (m.mul s) with
              | some cs' => some ⟨some (.e (.c (.slc b 0 (l.add m) c))), g.H.set b (some (.cells cs' e)), g.nb, g.rs, g.e⟩
              | none => none) else none
            | _, _, _ => none
          | none => match k, g.H.get b with
            | 0, some (.cells cs ty) => bif Nat.beq ty e then (match split g.e.bi cs (l.mul s), eq? g.e.bi (Cs.len cs) (c.mul s), le? g.e.bi (c.sub (l.add m)) (.k 9223372036854775807) with
              | some (olds, _), some true, some true => some ⟨some (.e (.c (.slc id 0 (l.add m) ((l.add m).add (slackL g.e.ni 1))))), (g.H.set b none).set id (some (.cells (olds ++ (news ++ [.run g.e.nl 0 (slackL g.e.ni s)])) e)), nb, rs, g.e.junk s⟩
              | _, _, _ => none) else none
            | _, _ => none) else none
        | none => none
      | _ => none
    | none => none
  | none => none
theorem appTo_ok (hz : zt.Ok P) (h : Gok I w0 ρ g w) {nid : Option Nat} {t t2 ty e : TypeId} {s by_ : Nat} {X : SC} {m : Lin} {news : Cs} {z vx vy : Value} {mv : Nat} {vn : List Value} (hs0 : 0 < s) (hX : X.ev ρ = some vx) (hm : m.ev ρ = some (mv : Int)) (hn : Cs.ev ρ news = some vn) (hnl : vn.length = mv * s)
    (hzl : z.cells.size = s) (hz1 : ∀ v ∈ z.cells.toList, v.oneCell' = true) (R : ((mv : Int) * by_ ≤ 140737488355328 → (mv : Int) ≤ 9223372036854775807 → AppR P t t2 ty e s by_ z w vy mv vn))
    (hrun : ∀ v w', (Builtin.append_ #[t, t2] ty #[vx, vy]).run P w = .ok v w' → (execOp a.eval o).run P w = .ok (.value v) w') (hr0 : mv = 0 → AppR P t t2 ty e s by_ z w vy mv vn)
    {x : Res} (hx : appTo zt P g nid e s by_ X m news = some x) : EfOk P I w0 ρ a w o x := by
  have hb := h.env.bok
  unfold appTo at hx
  split at hx
  · next hlt =>
    have hm0 := of_decide_eq_false (lt_ok hb (rfl : (Lin.k 0).ev ρ = some 0) hm hlt).symm
    have hmv : mv = 0 := by omega
    have hz' := (hr0 hmv).zero hmv
    split at hx
    · next b k l c =>
      cases hx
      obtain ⟨ad, lv, cv, had, hl, hc, hlc, rfl⟩ := slc_ev hX
      exact ⟨w, ρ, Env.le.refl ρ, h, .inl ⟨_, _, rfl, hX, hrun _ _ (hz' _ _ _ hlc)⟩⟩
    · cases hx
      cases hX
      exact ⟨w, ρ, Env.le.refl ρ, h, .inl ⟨_, _, rfl, rfl, hrun _ _ (hz' _ _ _ (Nat.le_refl _))⟩⟩
    · cases hx
  · next hlt =>
    have hmp := of_decide_eq_true (lt_ok hb (rfl : (Lin.k 0).ev ρ = some 0) hm hlt).symm
    have hmp' : 0 < mv := by omega
    have zone : ∀ q, ∀ v ∈ (Builtin.zeroCells z.cells q).toList, v.oneCell' = true := fun q v hv => by
      rw [zeroCells_times _ _ (by omega)] at hv
      simp only [times, List.mem_flatten, List.mem_replicate] at hv
      obtain ⟨q, ⟨_, rfl⟩, hv⟩ := hv
      exact hz1 v hv
    have zlen : ∀ q, (Builtin.zeroCells z.cells q).toList.length = q * s := fun q => by simp [size_zeroCells, hzl]
    have dk : ∀ o : Obj, Kept [] w (w.drew.alloc o) := fun o => (Kept.drew [] w).trans (kept_alloc w.drew o)
    have cmul : ∀ {hi : Int} {q : Nat}, (q : Int) ≤ hi → ile (Int.mul (.ofNat by_) hi) 140737488355328 = true → q * by_ ≤ 140737488355328 := fun {hi q} hq hc => by
      have h1 := ile_true hc
      have e1 : Int.mul (.ofNat by_) hi = (by_ : Int) * hi := rfl
      rw [e1] at h1
      have h2 := Int.mul_le_mul_of_nonneg_left hq (show (0 : Int) ≤ by_ by omega)
      have h3 : ((q * by_ : Nat) : Int) ≤ 140737488355328 := by rw [Int.natCast_mul, Int.mul_comm]; omega
      omega
    have grown : ∀ {id nb : Nat} {rs : List Nat} (hid : newId g nid = some (id, nb, rs)) (A : Option Addr) (lv cv : Nat) (l : Lin) (olds : Cs) (vo : List Value), vx = .slice A lv cv → l.ev ρ = some (lv : Int) → Cs.ev ρ olds = some vo → vo.length = lv * s → (A = none → lv = 0 ∧ cv = 0) →
        (∀ ad, A = some ad → ∀ j v, vo[j]? = some v → w.cell? (ad.add j) = some v) → cv < lv + mv → lv + mv ≤ 9223372036854775807 → (lv + mv) * by_ ≤ 140737488355328 →
        ∀ lm : Lin, lm.ev ρ = some ((lv + mv : Nat) : Int) → ∀ cs : Cs, (∀ ρ' : Env, ρ.le ρ' → ∀ j : Cs, ∀ vj, Cs.ev ρ' j = some vj → cs = olds ++ (news ++ j) ∨ (olds = [] ∧ cs = news ++ j) → Cs.ev ρ' cs = some (vo ++ (vn ++ vj))) → (cs = olds ++ (news ++ [.run g.e.nl 0 (slackL g.e.ni s)]) ∨ (olds = [] ∧ cs = news ++ [.run g.e.nl 0 (slackL g.e.ni s)])) →
        EfOk P I w0 ρ a w o ⟨some (.e (.c (.slc id 0 lm (lm.add (slackL g.e.ni 1))))), g.H.set id (some (.cells cs e)), nb, rs, g.e.junk s⟩ := by
      intro id nb rs hid A lv cv l olds vo hvx hl hol holl hA hRo hg h63 hbytes lm hlm cs hcs hcs'
      have Rr := R (by have : ((mv * by_ : Nat) : Int) ≤ 140737488355328 := by
                         have := Nat.mul_le_mul_right by_ (show mv ≤ lv + mv by omega)
                         omega
                       rw [Int.natCast_mul] at this; exact this) (by omega)
      have hrr := Rr.grow A lv cv vo hmp' holl hA hRo hg h63 hbytes
      have hge := grownCap_ge w (lv + mv) cv e
      have hle63 := grownCap_le_maxLen w (lv + mv) cv e h63
      obtain ⟨hle1, hg1, hs1, hj1⟩ := h.junk (grownCap w (lv + mv) cv e - (lv + mv)) s (by have : maxLen = 9223372036854775807 := rfl; omega) (Builtin.zeroCells z.cells (grownCap w (lv + mv) cv e - (lv + mv))).toList (zlen _) (zone _)
      generalize hρ1 : ρ.setIL g.e.ni g.e.nl (grownCap w (lv + mv) cv e - (lv + mv) : Nat) (Builtin.zeroCells z.cells (grownCap w (lv + mv) cv e - (lv + mv))).toList = ρ1 at hle1 hg1 hs1 hj1
      have hs1' : (slackL g.e.ni 1).ev ρ1 = some ((grownCap w (lv + mv) cv e - (lv + mv) : Nat) : Int) := by
        rw [← hρ1]
        simp only [slackL, Lin.ev, evTs, Env.setIL, if_true, Option.map_some]
        congr 1
        have e2 : (Int.ofNat 1 : Int) = 1 := rfl
        rw [e2]; omega
      have hcsv := hcs ρ1 hle1 _ _ hj1 hcs'
      obtain ⟨hle2, hg2⟩ := hg1.new (nid := nid) (id := id) (nb' := nb) (rs' := rs) hid (dk (.cells (vo ++ vn ++ (Builtin.zeroCells z.cells (grownCap w (lv + mv) cv e - (lv + mv))).toList).toArray e)) (Nat.le_refl _) (hb := .cells cs e)
        (fun ρ' hle => ⟨_, vo ++ vn ++ (Builtin.zeroCells z.cells (grownCap w (lv + mv) cv e - (lv + mv))).toList, rfl, by rw [List.append_assoc]; exact Cs.ev_mono hle hcsv, heap_alloc_new w.drew _⟩)
      refine ⟨_, _, hle1.trans hle2, hg2, .inl ⟨_, .slice (some ⟨w.heap.size, 0, none⟩) (lv + mv) (grownCap w (lv + mv) cv e), rfl, ?_, hrun _ _ (by rw [hvx]; exact hrr)⟩⟩
      have h1 := Lin.ev_mono (hle1.trans hle2) hlm
      have h2 := Lin.ev_add h1 (Lin.ev_mono hle2 hs1')
      simp only [SV.ev, EV.ev, SC.ev, Env.setB_self, h1, h2]
      rw [if_pos (by omega)]
      congr 2
      omega
    split at hx
    · next id nb rs hid =>
      split at hx
      ·
        cases hX
        split at hx
        · next lo hi hr =>
          cases hc : (ile (Int.mul (.ofNat by_) hi) 140737488355328 && ile hi 9223372036854775807) with
          | false => rw [hc, cond_false] at hx; cases hx
          | true =>
            rw [hc, cond_true] at hx
            cases hx
            simp only [Bool.and_eq_true] at hc
            obtain ⟨m2, hm2, _, hhi⟩ := rng_ok hb hr
            rw [hm] at hm2
            cases hm2
            have hc2 := ile_true hc.2
            exact grown hid none 0 0 (.k 0) [] [] rfl rfl rfl (by simp) (fun _ => ⟨rfl, rfl⟩) (fun ad h => by cases h) (by omega) (by omega) (by have := cmul hhi hc.1; simpa using this) m (by rw [hm]; simp) _
              (fun ρ' hle j vj hj hcase => by
                rcases hcase with h1 | ⟨_, h1⟩
                · rw [h1]; exact Cs.ev_append (rfl : Cs.ev ρ' [] = some []) (Cs.ev_append (Cs.ev_mono hle hn) hj)
                · rw [h1]; simpa using Cs.ev_append (Cs.ev_mono hle hn) hj) (.inr ⟨rfl, rfl⟩)
        · cases hx
      · next b k l c =>
        obtain ⟨ad, lv, cv, had, hl, hcv, hlc, rfl⟩ := slc_ev hX
        have hlm := Lin.ev_add hl hm
        have hlm' : (l.add m).ev ρ = some ((lv + mv : Nat) : Int) := by rw [hlm]; simp
        split at hx
        · next lo hi hr =>
          cases hc : (ile (Int.mul (.ofNat by_) hi) 140737488355328 && ile hi 9223372036854775807) with
          | false => rw [hc, cond_false] at hx; cases hx
          | true =>
            rw [hc, cond_true] at hx
            simp only [Bool.and_eq_true] at hc
            obtain ⟨m2, hm2, _, hhi⟩ := rng_ok hb hr
            rw [hlm'] at hm2
            cases hm2
            have hc2 := ile_true hc.2
            have hbytes := cmul hhi hc.1
            have h63 : lv + mv ≤ 9223372036854775807 := by omega
            split at hx
            · next hgr =>
              have hgr' := of_decide_eq_true (lt_ok hb hcv hlm hgr).symm
              split at hx
              · cases hx
                simp only [Lin.ev] at hl
                have hlv0 : lv = 0 := by
                  have e : (Int.ofNat 0 : Int) = 0 := rfl
                  rw [e] at hl
                  have := Option.some.inj hl
                  omega
                subst hlv0
                exact grown hid (some (ad.add k)) 0 cv (.k 0) [] [] rfl rfl rfl (by simp) (fun h => by cases h) (fun ad h j v hj => by simp at hj) (by omega) (by omega) hbytes m (by rw [hm]; simp) _
                  (fun ρ' hle j vj hj hcase => by
                    rcases hcase with h1 | ⟨_, h1⟩
                    · rw [h1]; exact Cs.ev_append (rfl : Cs.ev ρ' [] = some []) (Cs.ev_append (Cs.ev_mono hle hn) hj)
                    · rw [h1]; simpa using Cs.ev_append (Cs.ev_mono hle hn) hj) (.inr ⟨rfl, rfl⟩)
              · split at hx
                · next cs hcs =>
                  split at hx
                  · next p r hsp =>
                    split at hx
                    · next olds q hsp2 =>
                      cases hx
                      obtain ⟨ad', vs, had', hvs, hrd⟩ := rdB_ok hcs h.mem.has
                      rw [had] at had'
                      cases had'
                      obtain ⟨va, vr, _, hvr, rfl, hla⟩ := split_ok hb hsp hvs (rfl : (Lin.k (.ofNat k)).ev ρ = some (Int.ofNat k))
                      obtain ⟨vo, vq, hvo, _, rfl, hlo⟩ := split_ok hb hsp2 hvr (Lin.ev_mul hl)
                      have hla' : va.length = k := by have : (Int.ofNat k : Int) = (k : Int) := rfl; omega
                      have hlo' : vo.length = lv * s := by rw [← Int.natCast_mul] at hlo; rw [Nat.mul_comm]; omega
                      exact grown hid (some (ad.add k)) lv cv _ olds vo rfl hl hvo hlo' (fun h => by cases h) (fun ad2 h j v hj => by
                        cases h
                        rw [add_add]
                        refine hrd (k + j) v ?_
                        rw [List.getElem?_append_right (by omega), show k + j - va.length = j from by omega, List.getElem?_append_left (List.getElem?_eq_some_iff.1 hj).1]
                        exact hj) (by omega) h63 hbytes _ hlm' _
                        (fun ρ' hle j vj hj hcase => by
                          rcases hcase with h1 | ⟨h0, h1⟩
                          · rw [h1]; exact Cs.ev_append (Cs.ev_mono hle hvo) (Cs.ev_append (Cs.ev_mono hle hn) hj)
                          · subst h0
                            simp only [Cs.ev] at hvo
                            cases hvo
                            rw [h1]; simpa using Cs.ev_append (Cs.ev_mono hle hn) hj) (.inl rfl)
                    · cases hx
                  · cases hx
                · cases hx
            · next hgr =>
              have hgr' := of_decide_eq_false (lt_ok hb hcv hlm hgr).symm
              split at hx
              · next ln cs ty hgb =>
                cases hty : Nat.beq ty e with
                | false => rw [hty, cond_false] at hx; cases hx
                | true =>
                  rw [hty, cond_true] at hx
                  have := Nat.eq_of_beq_eq_true hty
                  subst this
                  split at hx
                  · next cs' hp =>
                    cases hx
                    simp only [Lin.ev] at hl
                    have hlv : lv = ln := by
                      have e : (Int.ofNat ln : Int) = (ln : Int) := rfl
                      have := Option.some.inj hl
                      omega
                    subst hlv
                    obtain ⟨k2, hb2, vs, h5, h6, h7⟩ := store_cells h hgb hp hn (by rw [Lin.ev_mul hm, hnl]; congr 1; rw [Int.natCast_mul, Int.mul_comm])
                    rw [hb2] at had
                    cases had
                    have Rr := R (by have : ((mv * by_ : Nat) : Int) ≤ 140737488355328 := by
                                       have := Nat.mul_le_mul_right by_ (show mv ≤ lv + mv by omega)
                                       omega
                                     rw [Int.natCast_mul] at this; exact this) (by omega)
                    have hrr := Rr.room k2 lv cv vs h5 hmp' (by omega) h63 hbytes h6
                    refine ⟨_, _, Env.le.refl ρ, h7, .inl ⟨_, .slice (some ⟨k2, 0, none⟩) (lv + mv) cv, rfl, ?_, hrun _ _ (by rw [add_lit]; exact hrr)⟩⟩
                    simp only [SV.ev, EV.ev, SC.ev, hb2, hlm', hcv]
                    rw [if_pos (by omega)]; rfl
                  · cases hx
              · cases hx
            · split at hx
              · next cs ty hgb =>
                cases hty : Nat.beq ty e with
                | false => rw [hty, cond_false] at hx; cases hx
                | true =>
                  rw [hty, cond_true] at hx
                  have := Nat.eq_of_beq_eq_true hty
                  subst this
                  split at hx
                  · next olds junk hsp hlen hcap =>
                    cases hx
                    obtain ⟨ad', had', k2, vs, rfl, hvs, h5⟩ := h.mem.has b _ hgb
                    rw [had'] at had
                    cases had
                    obtain ⟨vo, vj, hvo, hvj, rfl, hlo⟩ := split_ok hb hsp hvs (Lin.ev_mul hl)
                    have hlo' : vo.length = lv * s := by rw [← Int.natCast_mul] at hlo; rw [Nat.mul_comm]; omega
                    have htot := of_decide_eq_true (eq_ok hb (Cs.ev_len hvs) (Lin.ev_mul hcv) hlen).symm
                    have htot' : vo.length + vj.length = cv * s := by
                      rw [← Int.natCast_mul, List.length_append] at htot
                      rw [Nat.mul_comm]; omega
                    by_cases hroom : lv + mv ≤ cv
                    ·
                      have Rr := R (by have : ((mv * by_ : Nat) : Int) ≤ 140737488355328 := by
                                         have := Nat.mul_le_mul_right by_ (show mv ≤ lv + mv by omega)
                                         omega
                                       rw [Int.natCast_mul] at this; exact this) (by omega)
                      have hfit : lv * s + vn.length ≤ (vo ++ vj).length := by
                        rw [List.length_append, htot', hnl, ← Nat.add_mul]
                        exact Nat.mul_le_mul_right _ hroom
                      have hrr := Rr.room k2 lv cv (vo ++ vj) h5 hmp' hroom h63 hbytes hfit
                      have hcells : (vo ++ vj).take (lv * s) ++ vn ++ (vo ++ vj).drop (lv * s + vn.length) = vo ++ vn ++ vj.drop vn.length := by
                        rw [← hlo']; simp [List.drop_append]
                      rw [hcells] at hrr
                      have hdl : (vj.drop vn.length).length = (cv - (lv + mv)) * s := by
                        rw [List.length_drop, Nat.sub_mul, Nat.add_mul, hnl]; omega
                      have hcap' := of_decide_eq_true (le_ok hb (Lin.ev_sub hcv hlm') (rfl : (Lin.k 9223372036854775807).ev ρ = some 9223372036854775807) hcap).symm
                      have hcvle : cv - (lv + mv) ≤ 9223372036854775807 := by omega
                      · obtain ⟨hle1, hg1, hs1, hj1⟩ := h.junk (cv - (lv + mv)) s hcvle (vj.drop vn.length) hdl (fun v hv => Cs.ev_one hvs v (List.mem_append_right _ (List.mem_of_mem_drop hv)))
                        generalize hρ1 : ρ.setIL g.e.ni g.e.nl (cv - (lv + mv) : Nat) (vj.drop vn.length) = ρ1 at hle1 hg1 hs1 hj1
                        have hs1' : (slackL g.e.ni 1).ev ρ1 = some ((cv - (lv + mv) : Nat) : Int) := by
                          rw [← hρ1]
                          simp only [slackL, Lin.ev, evTs, Env.setIL, if_true, Option.map_some]
                          congr 1
                          have e2 : (Int.ofNat 1 : Int) = 1 := rfl
                          rw [e2]; omega
                        obtain ⟨hle2, hg2⟩ := hg1.mov (nid := nid) (id := id) (nb' := nb) (rs' := rs) hid (b := b) (k := k2) (hb0 := .cells cs ty) (hb := .cells (olds ++ (news ++ [.run g.e.nl 0 (slackL g.e.ni s)])) ty) hgb rfl (hle1.b _ _ had') (kept_setRow w k2 _) (.inr rfl)
                          (fun ρ' hle => ⟨_, vo ++ vn ++ vj.drop vn.length, rfl, by
                            rw [List.append_assoc]
                            exact Cs.ev_append (Cs.ev_mono (hle1.trans hle) hvo) (Cs.ev_append (Cs.ev_mono (hle1.trans hle) hn) (Cs.ev_mono hle hj1)), setRow_heap w k2 _ _ _ _ h5⟩)
                        refine ⟨_, _, hle1.trans hle2, hg2, .inl ⟨_, .slice (some ⟨k2, 0, none⟩) (lv + mv) cv, rfl, ?_, hrun _ _ (by rw [add_lit]; exact hrr)⟩⟩
                        have h1 := Lin.ev_mono (hle1.trans hle2) hlm'
                        have h2 := Lin.ev_add h1 (Lin.ev_mono hle2 hs1')
                        simp only [SV.ev, EV.ev, SC.ev, Env.setB_self, h1, h2]
                        rw [if_pos (by omega)]
                        congr 2
                        omega
                    ·
                      have Rr := R (by have : ((mv * by_ : Nat) : Int) ≤ 140737488355328 := by
                                         have := Nat.mul_le_mul_right by_ (show mv ≤ lv + mv by omega)
                                         omega
                                       rw [Int.natCast_mul] at this; exact this) (by omega)
                      have hrr := Rr.grow (some ⟨k2, 0, none⟩) lv cv vo hmp' hlo' (fun h => by cases h) (fun ad2 h j v hj => by
                        cases h
                        rw [add_lit, Nat.zero_add, cell_of_row w k2 j _ _ _ h5]
                        simp only [List.getElem?_toArray]
                        rw [List.getElem?_append_left (List.getElem?_eq_some_iff.1 hj).1]
                        exact hj) (by omega) h63 hbytes
                      have hge := grownCap_ge w (lv + mv) cv ty
                      have hle63 := grownCap_le_maxLen w (lv + mv) cv ty h63
                      obtain ⟨hle1, hg1, hs1, hj1⟩ := h.junk (grownCap w (lv + mv) cv ty - (lv + mv)) s (by have : maxLen = 9223372036854775807 := rfl; omega) (Builtin.zeroCells z.cells (grownCap w (lv + mv) cv ty - (lv + mv))).toList (zlen _) (zone _)
                      generalize hρ1 : ρ.setIL g.e.ni g.e.nl (grownCap w (lv + mv) cv ty - (lv + mv) : Nat) (Builtin.zeroCells z.cells (grownCap w (lv + mv) cv ty - (lv + mv))).toList = ρ1 at hle1 hg1 hs1 hj1
                      have hs1' : (slackL g.e.ni 1).ev ρ1 = some ((grownCap w (lv + mv) cv ty - (lv + mv) : Nat) : Int) := by
                        rw [← hρ1]
                        simp only [slackL, Lin.ev, evTs, Env.setIL, if_true, Option.map_some]
                        congr 1
                        have e2 : (Int.ofNat 1 : Int) = 1 := rfl
                        rw [e2]; omega
                      obtain ⟨hle2, hg2⟩ := hg1.mov (nid := nid) (id := id) (nb' := nb) (rs' := rs) hid (b := b) (k := k2) (hb0 := .cells cs ty) (hb := .cells (olds ++ (news ++ [.run g.e.nl 0 (slackL g.e.ni s)])) ty) hgb rfl (hle1.b _ _ had') ((dk _).of_nil) (.inl (Nat.le_refl _))
                        (fun ρ' hle => ⟨_, vo ++ vn ++ (Builtin.zeroCells z.cells (grownCap w (lv + mv) cv ty - (lv + mv))).toList, rfl, by
                          rw [List.append_assoc]
                          exact Cs.ev_append (Cs.ev_mono (hle1.trans hle) hvo) (Cs.ev_append (Cs.ev_mono (hle1.trans hle) hn) (Cs.ev_mono hle hj1)), heap_alloc_new w.drew _⟩)
                      refine ⟨_, _, hle1.trans hle2, hg2, .inl ⟨_, .slice (some ⟨w.heap.size, 0, none⟩) (lv + mv) (grownCap w (lv + mv) cv ty), rfl, ?_, hrun _ _ (by rw [add_lit]; exact hrr)⟩⟩
                      have h1 := Lin.ev_mono (hle1.trans hle2) hlm'
                      have h2 := Lin.ev_add h1 (Lin.ev_mono hle2 hs1')
                      simp only [SV.ev, EV.ev, SC.ev, Env.setB_self, h1, h2]
                      rw [if_pos (by omega)]
                      congr 2
                      omega
                  · cases hx
              · cases hx
        · cases hx
      · cases hx
    · cases hx
  · cases hx
end
end Go.Z
namespace Go.Z
open Go Go.X
section
variable {P : Program} {I : In} {w0 w : World} {ρ : Env} {g : G} {n : Nat} {L : Sl} {a : Act} {o : Oper} {zt : Zt}
noncomputable def dropA (bi : Bi) (cs : Cs) (k : Nat) : Option Cs := match dropF cs k with
  | some r => some r
  | none => match split bi cs (.k (.ofNat k)) with
    | some (_, r) => some r
    | none => none
noncomputable def takeB (bi : Bi) (cs : Cs) (m : Lin) : Option Cs := match split bi cs m with
  | some (c, _) => some c
  | none => none
noncomputable def takeA (bi : Bi) (cs : Cs) (m : Lin) : Option Cs := match m with
  | .k (.ofNat n) => match takeF cs n with
    | some c => some c
    | none => takeB bi cs (.k (.ofNat n))
  | m => takeB bi cs m
noncomputable def slCs (g : G) (b k : Nat) (m : Lin) : Option Cs :=
  match rdB g.H b with
  | some cs => match dropA g.e.bi cs k with
    | some r => takeA g.e.bi r m
    | none => none
  | none => none
theorem dropA_ok {bi : Bi} (hb : Bok ρ bi) {cs r : Cs} {k : Nat} {vs : List Value} (h : dropA bi cs k = some r) (hv : Cs.ev ρ cs = some vs) : Cs.ev ρ r = some (vs.drop k) ∧ k ≤ vs.length := by
  unfold dropA at h
  split at h
  · next r' hr => cases h; exact dropF_ok hr hv
  · split at h
    · next p r' hs =>
      cases h
      obtain ⟨va, vr, _, hvr, rfl, hla⟩ := split_ok hb hs hv (rfl : (Lin.k (.ofNat k)).ev ρ = some (Int.ofNat k))
      have hla' : va.length = k := by have : (Int.ofNat k : Int) = (k : Int) := rfl; omega
      subst hla'
      exact ⟨by rw [List.drop_left' rfl]; exact hvr, by simp⟩
    · cases h
theorem takeB_ok {bi : Bi} (hb : Bok ρ bi) {cs c : Cs} {m : Lin} {mv : Int} {vs : List Value} (h : takeB bi cs m = some c) (hm : m.ev ρ = some mv) (hv : Cs.ev ρ cs = some vs) : ∃ vo vq, Cs.ev ρ c = some vo ∧ vs = vo ++ vq ∧ (vo.length : Int) = mv := by
  unfold takeB at h
  split at h
  · next c' q hs =>
    cases h
    obtain ⟨vo, vq, h1, _, h3, h4⟩ := split_ok hb hs hv hm
    exact ⟨vo, vq, h1, h3, h4⟩
  · cases h
theorem takeA_ok {bi : Bi} (hb : Bok ρ bi) {cs c : Cs} {m : Lin} {mv : Int} {vs : List Value} (h : takeA bi cs m = some c) (hm : m.ev ρ = some mv) (hv : Cs.ev ρ cs = some vs) : ∃ vo vq, Cs.ev ρ c = some vo ∧ vs = vo ++ vq ∧ (vo.length : Int) = mv := by
  unfold takeA at h
  split at h
  · next n =>
    split at h
    · next c' hc =>
      cases h
      cases hm
      obtain ⟨h1, h2⟩ := takeF_ok hc hv
      exact ⟨_, vs.drop n, h1, (List.take_append_drop n vs).symm, by rw [List.length_take]; have : (Int.ofNat n : Int) = (n : Int) := rfl; omega⟩
    · exact takeB_ok hb h hm hv
  · exact takeB_ok hb h hm hv
theorem slCs_ok (h : Gok I w0 ρ g w) {b k : Nat} {m : Lin} {cs : Cs} {mv : Int} (hc : slCs g b k m = some cs) (hm : m.ev ρ = some mv) : ∃ ad vs, ρ.b b = some ad ∧ Cs.ev ρ cs = some vs ∧ (vs.length : Int) = mv ∧ ∀ j v, vs[j]? = some v → w.cell? ((ad.add k).add j) = some v := by
  unfold slCs at hc
  split at hc
  · next c0 hc0 =>
    split at hc
    · next r h1 =>
      obtain ⟨ad, vs, had, hvs, hrd⟩ := rdB_ok hc0 h.mem.has
      obtain ⟨hvr, hk⟩ := dropA_ok h.env.bok h1 hvs
      obtain ⟨vo, vq, hvo, he, hlo⟩ := takeA_ok h.env.bok hc hm hvr
      refine ⟨ad, vo, had, hvo, hlo, fun j v hj => ?_⟩
      rw [add_add]
      refine hrd (k + j) v ?_
      have h2 : (vs.drop k)[j]? = some v := by rw [he, List.getElem?_append_left (List.getElem?_eq_some_iff.1 hj).1]; exact hj
      rw [List.getElem?_drop] at h2
      exact h2
    · cases hc
  · cases hc
noncomputable def fAppend (P : Program) (zt : Zt) (g : G) (L : Sl) (nid : Option Nat) (t t2 : TypeId) (x y : Operand) : Option Res :=
  match slc P t, evS L x with
  | some (e, s, by_), some (.e (.c X)) => match zcells P zt e with
    | some zc => bif Nat.blt 0 s then (match eq? g.e.bi (Cs.len zc) (.k (.ofNat s)) with
      | some true => bif Nat.beq t t2 then (match evS L y with
          | some (.e (.c (.slc b k m c))) => match lt? g.e.bi (.k 0) m with
            | some true => match slCs g b k (m.mul s) with
              | some news => appTo zt P g nid e s by_ X m news
              | none => none
            | some false => appTo zt P g nid e s by_ X (.k 0) []
            | none => none
          | some (.e (.c .snil)) => appTo zt P g nid e s by_ X (.k 0) []
          | some (.e (.c (.sld _ _ _ m _))) => match lt? g.e.bi (.k 0) m with
            | some false => appTo zt P g nid e s by_ X (.k 0) []
            | _ => none
          | _ => none)
        else (match P.underlying t2, evS L y with
          | some (.int _), some (.e (.c (.int _ m))) => match le? g.e.bi (.k 0) m with
            | some true => match zc, m with
              | [.one z], m => appTo zt P g nid e s by_ X m [.zs z m]
              | zc, .k (.ofNat q) => match scs zc with
                | some p => appTo zt P g nid e s by_ X (.k (.ofNat q)) [.rep p q]
                | none => none
              | _, _ => none
            | _ => none
          | _, _ => none)
      | _ => none) else none
    | none => none
  | _, _ => none
theorem fAppend_ok (hz : zt.Ok P) (hf : Frm ρ n L a) (h : Gok I w0 ρ g w) {nid : Option Nat} {t t2 : TypeId} {y z : Operand} {x : Res} (ho : o.op = .call { callee := .builtin .append, args := #[y, z], argTypes := #[t, t2] }) (hx : fAppend P zt g L nid t t2 y z = some x) : EfOk P I w0 ρ a w o x := by
  have hb := h.env.bok
  unfold fAppend at hx
  split at hx
  · next e s by_ X ha hy =>
    obtain ⟨vx, hvx, hax⟩ := evA hf hy
    have hX : X.ev ρ = some vx := hvx
    split at hx
    · next zc hzc =>
      cases hs0 : Nat.blt 0 s with
      | false => rw [hs0, cond_false] at hx; cases hx
      | true =>
        rw [hs0, cond_true] at hx
        have hs0' := blt_iff.1 hs0
        split at hx
        · next hzlen =>
          obtain ⟨hu, inf, hinf, hsz, hby⟩ := slc_parts ha
          obtain ⟨zs, hz1, hz2⟩ := zcells_ok hz hzc
          obtain ⟨inf', zv, hinf', hzv, hzz⟩ := zer_parts hz1
          rw [hinf] at hinf'
          cases hinf'
          have hzl := of_decide_eq_true (eq_ok hb (Cs.ev_len (hz2 ρ)) (rfl : (Lin.k (.ofNat s)).ev ρ = some (Int.ofNat s)) hzlen).symm
          have hzl' : zv.cells.size = s := by have : (Int.ofNat s : Int) = (s : Int) := rfl; rw [← Array.length_toList, hzz]; omega
          have hz1' : ∀ v ∈ zv.cells.toList, v.oneCell' = true := by rw [hzz]; exact Cs.ev_one (hz2 ρ)
          have hrun : ∀ (vz : Value), a.eval z = vz → ∀ v w', (Builtin.append_ #[t, t2] o.type #[vx, vz]).run P w = .ok v w' → (execOp a.eval o).run P w = .ok (.value v) w' := fun vz hvz v w' hr => by
            simp only [execOp, ho, resolve, invoke, builtin, hax, hvz, Sem.run_bind, Sem.run_pure, Result.andThen_ok, List.map_toArray, List.map_cons, List.map_nil, hr]
          cases ht : Nat.beq t t2 with
          | true =>
            rw [ht, cond_true] at hx
            have := Nat.eq_of_beq_eq_true ht
            subst this
            have nothing : ∀ (B : Option Addr) (c' : Nat), a.eval z = .slice B 0 c' → appTo zt P g nid e s by_ X (.k 0) [] = some x → EfOk P I w0 ρ a w o x := fun B c' hvz hx => by
              have R := appR_slice (P := P) (w := w) o.type ha hinf hzv (B := B) (m := 0) (c' := c') (news := []) (by simp) (by simp) (fun h => absurd h (by omega)) (fun b _ j v hj => by simp at hj)
              exact appTo_ok hz h hs0' hX (m := .k 0) (news := []) rfl rfl (by simp) hzl' hz1' (fun _ _ => R) (hrun _ hvz) (fun _ => R) hx
            split at hx
            · next b k m c hy2 =>
              obtain ⟨vz, hvz, haz⟩ := evA hf hy2
              obtain ⟨ad, mv, cv, had, hm, hcv, hmc, rfl⟩ := slc_ev hvz
              split at hx
              · next hlt =>
                split at hx
                · next news hn =>
                  obtain ⟨ad', vn, had', hvn, hnl, hrd⟩ := slCs_ok h hn (Lin.ev_mul hm)
                  rw [had] at had'
                  cases had'
                  have hnl' : vn.length = mv * s := by rw [← Int.natCast_mul] at hnl; rw [Nat.mul_comm]; omega
                  have R := appR_slice (P := P) (w := w) o.type ha hinf hzv (B := some (ad.add k)) (m := mv) (c' := cv) hnl' (Cs.ev_one hvn) (fun _ => ⟨_, rfl⟩) (fun b hb j v hj => by cases hb; exact hrd j v hj)
                  exact appTo_ok hz h hs0' hX hm hvn hnl' hzl' hz1' (fun _ _ => R) (hrun _ haz) (fun _ => R) hx
                · cases hx
              · next hlt =>
                have h0 := of_decide_eq_false (lt_ok hb (rfl : (Lin.k 0).ev ρ = some 0) hm hlt).symm
                have hmv : mv = 0 := by omega
                subst hmv
                exact nothing _ _ haz hx
              · cases hx
            · next hy2 =>
              obtain ⟨vz, hvz, haz⟩ := evA hf hy2
              cases hvz
              exact nothing _ _ haz hx
            · next m _ hy2 =>
              obtain ⟨vz, hvz, haz⟩ := evA hf hy2
              obtain ⟨B, mv, cv, hm, rfl⟩ := sld_ev hvz
              split at hx
              · next hlt =>
                have h0 := of_decide_eq_false (lt_ok hb (rfl : (Lin.k 0).ev ρ = some 0) hm hlt).symm
                have hmv : mv = 0 := by omega
                subst hmv
                exact nothing _ _ haz hx
              · cases hx
            · cases hx
          | false =>
            rw [ht, cond_false] at hx
            split at hx
            · next kn kq m htn hy2 =>
              obtain ⟨vz, hvz, haz⟩ := evA hf hy2
              simp only [SV.ev, EV.ev, SC.ev] at hvz
              obtain ⟨mv', hm, rfl⟩ := Option.map_eq_some_iff.1 hvz
              split at hx
              · next hle =>
                have hle' := of_decide_eq_true (le_ok hb (rfl : (Lin.k 0).ev ρ = some 0) hm hle).symm
                obtain ⟨mv, rfl⟩ := Int.eq_ofNat_of_zero_le hle'
                have R : (mv : Int) * by_ ≤ 140737488355328 → (mv : Int) ≤ 9223372036854775807 → AppR P t t2 o.type e s by_ zv w (.int kq (mv : Int)) mv (times mv zv.cells.toList) := fun h1 h2 =>
                  appR_zeros o.type ha hs0' htn hinf hzv hzl' hz1' mv (by omega) (by rw [← Int.natCast_mul] at h1; omega)
                have R0 : mv = 0 → AppR P t t2 o.type e s by_ zv w (.int kq (mv : Int)) mv (times mv zv.cells.toList) := fun h0 => R (by subst h0; simp) (by subst h0; simp)
                have hlen : (times mv zv.cells.toList).length = mv * s := by rw [times_length, Array.length_toList, hzl', Nat.mul_comm]
                split at hx
                · next zz hcase =>
                  have hzs := hz2 ρ
                  simp only [Cs.ev, Seg.ev] at hzs
                  split at hzs
                  · next p q hp hq =>
                    cases hq; cases hzs
                    obtain ⟨v, hv, rfl⟩ := Option.map_eq_some_iff.1 hp
                    simp only [List.append_nil] at hzz
                    refine appTo_ok hz h hs0' hX hm (vn := times mv zv.cells.toList) ?_ hlen hzl' hz1' R (hrun _ haz) R0 hx
                    have e1 : times mv [v] = List.replicate mv v := by simp [times]
                    rw [hzz, e1]
                    simp only [Cs.ev, Seg.ev, hv, hm]
                    rw [if_pos (by omega)]
                    simp
                  · cases hzs
                · next q _ =>
                  split at hx
                  · next p hp =>
                    simp only [Lin.ev] at hm
                    have hq : mv = q := by have e : (Int.ofNat q : Int) = (q : Int) := rfl; have := Option.some.inj hm; omega
                    subst hq
                    have hev := scs_ok hp (hz2 ρ)
                    refine appTo_ok hz h hs0' hX (m := .k (.ofNat mv)) rfl (vn := times mv zv.cells.toList) ?_ hlen hzl' hz1' R (hrun _ haz) R0 hx
                    rw [hzz]
                    simp [Cs.ev, Seg.ev, hev]
                  · cases hx
                · cases hx
              · cases hx
            · cases hx
        · cases hx
    · cases hx
  · cases hx
noncomputable def fCopy (P : Program) (g : G) (L : Sl) (t : TypeId) (x y : Operand) : Option Res :=
  match slc P t with
  | some (_, 1, _) => match evS L x, evS L y with
    | some (.e (.c (.slc b k dl _))), some (.e (.c (.slc b2 k2 sl _))) => match lt? g.e.bi sl dl with
      | some c => match (bif c then sl else dl) with
        | m => match eq? g.e.bi m (.k 0) with
          | some true => some ⟨some (.e (.c (.int .i64 m))), g.H, g.nb, g.rs, g.e⟩
          | _ => match slCs g b2 k2 m, g.H.get b with
            | some news, some (.cells cs ty) => match putC g.e.bi cs k news m with
              | some cs' => some ⟨some (.e (.c (.int .i64 m))), g.H.set b (some (.cells cs' ty)), g.nb, g.rs, g.e⟩
              | none => none
            | _, _ => none
      | none => none
    | some (.e (.c (.slc _ _ _ _))), some (.e (.c .snil)) => some ⟨some (.e (.c (.int .i64 (.k 0)))), g.H, g.nb, g.rs, g.e⟩
    | some (.e (.c .snil)), some (.e (.c (.slc _ _ _ _))) => some ⟨some (.e (.c (.int .i64 (.k 0)))), g.H, g.nb, g.rs, g.e⟩
    | some (.e (.c .snil)), some (.e (.c .snil)) => some ⟨some (.e (.c (.int .i64 (.k 0)))), g.H, g.nb, g.rs, g.e⟩
    | _, _ => none
  | _ => none
theorem fCopy_ok (hf : Frm ρ n L a) (h : Gok I w0 ρ g w) {t t2 : TypeId} {y z : Operand} {x : Res} (ho : o.op = .call { callee := .builtin .copy, args := #[y, z], argTypes := #[t, t2] }) (hx : fCopy P g L t y z = some x) : EfOk P I w0 ρ a w o x := by
  have hb := h.env.bok
  unfold fCopy at hx
  split at hx
  · next e by_ ha =>
    obtain ⟨hu, inf, hinf, hs, hby⟩ := slc_parts ha
    have hsz1 : (P.info? e).map (·.size) = some 1 := by rw [hinf]; simp [hs]
    have hrun : ∀ (vy vz : Value), a.eval y = vy → a.eval z = vz → ∀ v w', (Builtin.copy_ #[t, t2] o.type #[vy, vz]).run P w = .ok v w' → (execOp a.eval o).run P w = .ok (.value v) w' := fun vy vz hvy hvz v w' hr => by
      simp only [execOp, ho, resolve, invoke, builtin, hvy, hvz, Sem.run_bind, Sem.run_pure, Result.andThen_ok, List.map_toArray, List.map_cons, List.map_nil, hr]
    have none_ : ∀ (m : Lin) (D B : Option Addr) (dl dc sl sc : Nat), m.ev ρ = some 0 → a.eval y = .slice D dl dc → a.eval z = .slice B sl sc → Nat.min sl dl = 0 → EfOk P I w0 ρ a w o ⟨some (.e (.c (.int .i64 m))), g.H, g.nb, g.rs, g.e⟩ := fun m D B dl dc sl sc hm hay haz hmin =>
      ⟨w, ρ, Env.le.refl ρ, h, .inl ⟨_, .int .i64 0, rfl, evi hm, hrun _ _ hay haz _ _ (run_copy_none (P := P) w t t2 o.type e D B dl dc sl sc hu hsz1 hmin)⟩⟩
    split at hx
    · next b k dl dc b2 k2 sl sc hy hz =>
      obtain ⟨vy, hvy, hay⟩ := evA hf hy
      obtain ⟨vz, hvz, haz⟩ := evA hf hz
      obtain ⟨ad, dv, dcv, had, hdl, hdc, hdle, rfl⟩ := slc_ev hvy
      obtain ⟨ad2, sv, scv, had2, hsl, hsc, hsle, rfl⟩ := slc_ev hvz
      split at hx
      · next c hlt =>
        have hlt' := lt_ok hb hsl hdl hlt
        have hmv : (bif c then sl else dl).ev ρ = some ((Nat.min sv dv : Nat) : Int) := by
          subst hlt'
          by_cases hh : (sv : Int) < dv
          · have e : Nat.min sv dv = sv := Nat.min_eq_left (by omega)
            rw [decide_eq_true hh, cond_true, hsl, e]
          · have e : Nat.min sv dv = dv := Nat.min_eq_right (by omega)
            rw [decide_eq_false hh, cond_false, hdl, e]
        generalize (bif c then sl else dl) = m at hx hmv
        simp only at hx
        split at hx
        · next h0 =>
          cases hx
          have h0' := of_decide_eq_true (eq_ok hb hmv (rfl : (Lin.k 0).ev ρ = some 0) h0).symm
          exact none_ m _ _ _ _ _ _ (by rw [hmv, h0']) hay haz (by omega)
        · split at hx
          · next news cs ty hn hg =>
            split at hx
            · next cs' hp =>
              cases hx
              obtain ⟨ad', vn, had', hvn, hnl, hrd⟩ := slCs_ok h hn hmv
              rw [had2] at had'
              cases had'
              have hnl' : vn.length = Nat.min sv dv := by omega
              obtain ⟨kk, hb2, vs, h5, h6, h7⟩ := store_cells h hg hp hvn (by rw [hmv, hnl'])
              rw [hb2] at had
              cases had
              have hr := run_copy_row (P := P) w t t2 o.type e kk k dv dcv (ad2.add k2) sv scv vs.toArray ty vn hu hsz1 h5 hnl' hrd (by simpa using h6) (Cs.ev_one hvn)
              refine ⟨_, ρ, Env.le.refl ρ, h7, .inl ⟨_, .int .i64 vn.length, rfl, evi (by rw [hmv, hnl']), hrun _ _ hay haz _ _ ?_⟩⟩
              rw [add_lit, Nat.zero_add]
              simpa [goInt] using hr
            · cases hx
          · cases hx
      · cases hx
    · next b k dl dc hy hz =>
      cases hx
      obtain ⟨vy, hvy, hay⟩ := evA hf hy
      obtain ⟨vz, hvz, haz⟩ := evA hf hz
      obtain ⟨ad, dv, dcv, had, hdl, hdc, hdle, rfl⟩ := slc_ev hvy
      cases hvz
      exact none_ (.k 0) _ _ _ _ _ _ rfl hay haz (Nat.zero_min _)
    · next b k dl dc hy hz =>
      cases hx
      obtain ⟨vy, hvy, hay⟩ := evA hf hy
      obtain ⟨vz, hvz, haz⟩ := evA hf hz
      obtain ⟨ad, dv, dcv, had, hdl, hdc, hdle, rfl⟩ := slc_ev hvz
      cases hvy
      exact none_ (.k 0) _ _ _ _ _ _ rfl hay haz (Nat.min_zero _)
    · next hy hz =>
      cases hx
      obtain ⟨vy, hvy, hay⟩ := evA hf hy
      obtain ⟨vz, hvz, haz⟩ := evA hf hz
      cases hvy
      cases hvz
      exact none_ (.k 0) _ _ _ _ _ _ rfl hay haz rfl
    · cases hx
  · cases hx
noncomputable def fClear (P : Program) (zt : Zt) (g : G) (L : Sl) (t : TypeId) (x : Operand) : Option Res :=
  match evS L x with
  | some (.e (.c .snil)) => bif slcT P t then some ⟨some (.tup []), g.H, g.nb, g.rs, g.e⟩ else none
  | some (.e (.c (.map b))) => bif mapT P t then (match g.H.get b with
    | some (.map _) => some ⟨some (.tup []), g.H.set b (some (.map [])), g.nb, g.rs, g.e⟩
    | _ => none) else none
  | some (.e (.c (.slc b k (.k (.ofNat m)) _))) => match slc P t with
    | some (e, s, _) => match zcells P zt e with
      | some zc => match scs zc, g.H.get b with
        | some p, some (.cells cs ty) => bif Nat.blt 0 m && Nat.blt 0 s && Nat.beq (lenN p) s then (match putC g.e.bi cs k [.rep p m] (.k (.ofNat (Nat.mul m s))) with
          | some cs' => some ⟨some (.tup []), g.H.set b (some (.cells cs' ty)), g.nb, g.rs, g.e⟩
          | none => none) else none
        | _, _ => none
      | none => none
    | none => none
  | _ => none
theorem fClear_ok (hz : zt.Ok P) (hf : Frm ρ n L a) (h : Gok I w0 ρ g w) {t : TypeId} {y : Operand} {x : Res} (ho : o.op = .call { callee := .builtin .clear, args := #[y], argTypes := #[t] }) (hx : fClear P zt g L t y = some x) : EfOk P I w0 ρ a w o x := by
  have hrun : ∀ (vy : Value), a.eval y = vy → ∀ v w', (Builtin.clear_ #[t] o.type #[vy]).run P w = .ok v w' → (execOp a.eval o).run P w = .ok (.value v) w' := fun vy hvy v w' hr => by
    simp only [execOp, ho, resolve, invoke, builtin, hvy, Sem.run_bind, Sem.run_pure, Result.andThen_ok, List.map_toArray, List.map_cons, List.map_nil, hr]
  unfold fClear at hx
  split at hx
  · next hy =>
    obtain ⟨vy, hvy, hay⟩ := evA hf hy
    cases hvy
    cases ht : slcT P t with
    | false => rw [ht, cond_false] at hx; cases hx
    | true =>
      rw [ht, cond_true] at hx
      cases hx
      obtain ⟨e, he⟩ := slcT_ok ht
      exact ⟨w, ρ, Env.le.refl ρ, h, .inl ⟨_, .tuple #[], rfl, rfl, hrun _ hay _ _ (by simp [Builtin.clear_, run_underlying he])⟩⟩
  · next b hy =>
    obtain ⟨vy, hvy, hay⟩ := evA hf hy
    simp only [SV.ev, EV.ev, SC.ev] at hvy
    obtain ⟨ad, had, rfl⟩ := Option.map_eq_some_iff.1 hvy
    cases ht : mapT P t with
    | false => rw [ht, cond_false] at hx; cases hx
    | true =>
      rw [ht, cond_true] at hx
      split at hx
      · next es hg =>
        cases hx
        obtain ⟨kt, e, he⟩ := mapT_ok ht
        obtain ⟨ad', had', k, ms, clock, rfl, h2, h3⟩ := h.mem.has b _ hg
        rw [had] at had'
        cases had'
        have hset := MapKept.run_setObj_map (P := P) (.map #[] clock) h3
        have hlt := (Array.getElem?_eq_some_iff.1 h3).1
        refine ⟨{ w with heap := w.heap.setIfInBounds k (.map #[] clock) }, ρ, Env.le.refl ρ, h.wrt hg rfl had ⟨rfl, rfl, rfl, by simp, fun j hj hx => by simp only [List.mem_singleton] at hx; exact Array.getElem?_setIfInBounds_ne (fun e => hx e.symm)⟩ ⟨k, #[], clock, rfl, rfl, by simp [hlt]⟩, .inl ⟨_, .tuple #[], rfl, rfl, hrun _ hay _ _ ?_⟩⟩
        simp [Builtin.clear_, run_underlying he, MapKept.run_getObj_map h3, hset]
      · cases hx
  · next b k m c hy =>
    obtain ⟨vy, hvy, hay⟩ := evA hf hy
    obtain ⟨ad, lv, cv, had, hl, hc, hlc, rfl⟩ := slc_ev hvy
    have hlv : lv = m := by simp only [Lin.ev] at hl; have e : (Int.ofNat m : Int) = (m : Int) := rfl; have := Option.some.inj hl; omega
    subst hlv
    split at hx
    · next e s by_ ha =>
      split at hx
      · next zc hzc =>
        split at hx
        · next p cs ty hp hg =>
          cases hcond : (Nat.blt 0 lv && Nat.blt 0 s && Nat.beq (lenN p) s) with
          | false => rw [hcond, cond_false] at hx; cases hx
          | true =>
            rw [hcond, cond_true] at hx
            simp only [Bool.and_eq_true] at hcond
            have hm0 := blt_iff.1 hcond.1.1
            have hs0 := blt_iff.1 hcond.1.2
            have hps := Nat.eq_of_beq_eq_true hcond.2
            split at hx
            · next cs' hput =>
              cases hx
              obtain ⟨hu, inf, hinf, hs, hby⟩ := slc_parts ha
              obtain ⟨zs, hz1, hz2⟩ := zcells_ok hz hzc
              obtain ⟨inf', zv, hinf', hzv, hzz⟩ := zer_parts hz1
              rw [hinf] at hinf'
              cases hinf'
              have hev := scs_ok hp (hz2 ρ)
              have hzl : zs.length = s := by rw [evSs_length hev, ← lenN_eq, hps]
              have hnews : Cs.ev ρ [Seg.rep p lv] = some (times lv zs) := by simp [Cs.ev, Seg.ev, hev]
              have hnl : (times lv zs).length = lv * s := by rw [times_length, hzl, Nat.mul_comm]
              obtain ⟨kk, hb2, vs, h5, h6, h7⟩ := store_cells h hg hput hnews (by rw [hnl]; rfl)
              rw [hb2] at had
              cases had
              have hone := Cs.ev_one hnews
              have hst := run_storeCells_at P kk k ty (times lv zs) 0 vs.toArray w h5 (by simpa using h6) hone
              simp only [Nat.add_zero] at hst
              have hzc' : (Builtin.zeroCells zv.cells lv).toList = times lv zs := by rw [zeroCells_times _ _ (by rw [← Array.length_toList, hzz]; omega), hzz]
              refine ⟨_, ρ, Env.le.refl ρ, h7, .inl ⟨_, .tuple #[], rfl, rfl, hrun _ hay _ _ ?_⟩⟩
              obtain ⟨q, rfl⟩ : ∃ q, lv = q + 1 := ⟨lv - 1, by omega⟩
              rw [add_lit, Nat.zero_add]
              simp [Builtin.clear_, run_underlying hu, zeroValue, typeInfo, hinf, hzv, hzc', hst]
            · cases hx
        · cases hx
      · cases hx
    · cases hx
  · cases hx
def mput (key : Int) (x : EV) : List (Int × EV) → List (Int × EV)
  | [] => [(key, x)]
  | (k, y) :: r => bif ieq key k then (k, x) :: r else (k, y) :: mput key x r
def mdel (key : Int) : List (Int × EV) → List (Int × EV)
  | [] => []
  | (k, y) :: r => bif ieq key k then r else (k, y) :: mdel key r
theorem evMs_none {key : Int} {x : EV} {v : Value} (hv : x.ev ρ = some v) : ∀ {es : List (Int × EV)} {ps : List (Value × Value)}, evMs ρ es = some ps → fnd key es = none → evMs ρ (mput key x es) = some (ps ++ [(.int .i64 key, v)]) ∧ mdel key es = es
  | [], ps, h, _ => by simp only [evMs] at h; cases h; exact ⟨by simp only [mput, evMs, hv]; rfl, rfl⟩
  | (k, y) :: r, ps, h, hf => by
    simp only [evMs] at h
    split at h
    · next u us h1 h2 =>
      cases h
      simp only [fnd] at hf
      cases hk : ieq key k with
      | true => rw [hk, cond_true] at hf; cases hf
      | false =>
        rw [hk, cond_false] at hf
        obtain ⟨h3, h4⟩ := evMs_none hv h2 hf
        refine ⟨by simp only [mput, hk, cond_false, evMs, h1, h3]; rfl, by simp only [mdel, hk, cond_false, h4]⟩
    · cases h
theorem evMs_some {key : Int} {x : EV} {v : Value} (hv : x.ev ρ = some v) : ∀ {es : List (Int × EV)} {ps : List (Value × Value)} {j : Nat}, evMs ρ es = some ps → (∀ i, i < j → ps[i]?.map (·.1) ≠ some (.int .i64 key)) → ps[j]?.map (·.1) = some (.int .i64 key) → evMs ρ (mput key x es) = some (ps.set j (.int .i64 key, v)) ∧ evMs ρ (mdel key es) = some (ps.eraseIdx j)
  | [], ps, j, h, _, hj => by simp only [evMs] at h; cases h; simp at hj
  | (k, y) :: r, ps, j, h, hb, hj => by
    simp only [evMs] at h
    split at h
    · next u us h1 h2 =>
      cases h
      cases j with
      | zero =>
        simp at hj
        subst hj
        have hk : ieq k k = true := by rw [ieq_dec]; simp
        refine ⟨by simp only [mput, hk, cond_true, evMs, hv, h2]; rfl, by simp only [mdel, hk, cond_true, h2]; rfl⟩
      | succ j =>
        have hne : k ≠ key := fun e => hb 0 (by omega) (by simp [e])
        have hk : ieq key k = false := by rw [ieq_dec]; exact decide_eq_false (fun e => hne e.symm)
        obtain ⟨h3, h4⟩ := evMs_some hv h2 (j := j) (fun i hi => by have := hb (i + 1) (by omega); simpa using this) (by simpa using hj)
        refine ⟨by simp only [mput, hk, cond_false, evMs, h1, h3]; rfl, by simp only [mdel, hk, cond_false, evMs, h1, h4]; rfl⟩
    · cases h
theorem map_erase {α β : Type} (f : α → β) : ∀ (l : List α) (j : Nat), (l.eraseIdx j).map f = (l.map f).eraseIdx j
  | [], j => by simp
  | x :: r, 0 => rfl
  | x :: r, j + 1 => by simp [map_erase f r j]
theorem find_first (q : IntKind) (key : Int) : ∀ {es : List (Int × EV)} {ms : List MapEntry} (i : Nat), evMs ρ es = some (ms.map fun m => (m.key, m.val)) →
    (fnd key es = none ∧ Instr.findNow (.int q) (.int .i64 key) ms i = some none) ∨ (∃ v j, Instr.findNow (.int q) (.int .i64 key) ms i = some (some (i + j, v)) ∧ ms[j]?.map (·.key) = some (.int .i64 key) ∧ ∀ i', i' < j → ms[i']?.map (·.key) ≠ some (.int .i64 key))
  | [], ms, i, h => by
    simp only [evMs] at h
    have : ms = [] := by simpa using h.symm
    subst this
    exact .inl ⟨rfl, rfl⟩
  | (k, x) :: r, [], i, h => by
    simp only [evMs] at h
    split at h <;> simp at h
  | (k, x) :: r, m :: ms, i, h => by
    simp only [evMs] at h
    split at h
    · next v vs hv hvs =>
      simp only [Option.some.injEq, List.map_cons, List.cons.injEq, Prod.mk.injEq] at h
      obtain ⟨⟨hk, hval⟩, hr⟩ := h
      simp only [fnd]
      have e : Instr.findNow (.int q) (.int .i64 key) (m :: ms) i = if key == k then some (some (i, m.val)) else Instr.findNow (.int q) (.int .i64 key) ms (i + 1) := by
        simp only [Instr.findNow, ← hk, Instr.sameNow, if_true]
        cases key == k <;> rfl
      cases hkk : ieq key k with
      | true =>
        have := ieq_true hkk
        subst this
        exact .inr ⟨m.val, 0, by rw [e]; simp, by simp [hk], fun i' h => absurd h (Nat.not_lt_zero _)⟩
      | false =>
        have hne : key ≠ k := by rw [ieq_dec] at hkk; exact of_decide_eq_false hkk
        have hbe : (key == k) = false := by simpa using hne
        rw [cond_false, e, hbe, if_neg (by simp)]
        rcases find_first q key (i + 1) (by rw [hvs, hr]) with ⟨h1, h2⟩ | ⟨u, j, h3, h4, h5⟩
        · exact .inl ⟨h1, h2⟩
        · refine .inr ⟨u, j + 1, by rw [h3]; congr 3; omega, by simpa using h4, fun i' hi' => ?_⟩
          cases i' with
          | zero => simp [← hk]; exact fun e => hne e.symm
          | succ i' => simpa using h5 i' (by omega)
    · cases h
theorem kept_setObj (w : World) (k : Nat) (ob : Obj) : Kept [k] w { w with heap := w.heap.setIfInBounds k ob } :=
  ⟨rfl, rfl, rfl, by simp, fun j hj hx => by simp only [List.mem_singleton] at hx; exact Array.getElem?_setIfInBounds_ne (fun e => hx e.symm)⟩
noncomputable def fUpd (P : Program) (g : G) (L : Sl) (t : TypeId) (m k v : Operand) : Option Res :=
  match mapI P t, evS L m, evS L k, evS L v with
  | some _, some (.e (.c (.map b))), some (.e (.c (.int .i64 (.k key)))), some (.e x) => match g.H.get b with
    | some (.map es) => some ⟨none, g.H.set b (some (.map (mput key x es))), g.nb, g.rs, g.e⟩
    | _ => none
  | _, _, _, _ => none
theorem fUpd_ok (hf : Frm ρ n L a) (h : Gok I w0 ρ g w) {t : TypeId} {m k v : Operand} {x : Res} (ho : o.op = .mapUpdate t m k v) (hx : fUpd P g L t m k v = some x) : EfOk P I w0 ρ a w o x := by
  unfold fUpd at hx
  split at hx
  · next e b key y ht hm hk hv =>
    split at hx
    · next es hg =>
      cases hx
      obtain ⟨kt, hu, hkt⟩ := mapI_ok ht
      obtain ⟨mv, hmv, ham⟩ := evA hf hm
      obtain ⟨kv, hkv, hak⟩ := evA hf hk
      obtain ⟨vv, hvv, hav⟩ := evA hf hv
      cases hkv
      simp only [SV.ev, EV.ev, SC.ev] at hmv
      obtain ⟨ad, had, rfl⟩ := Option.map_eq_some_iff.1 hmv
      obtain ⟨ad', had', kk, ms, clock, rfl, h2, h3⟩ := h.mem.has b _ hg
      rw [had] at had'
      cases had'
      have hlt := (Array.getElem?_eq_some_iff.1 h3).1
      have hvv' : y.ev ρ = some vv := hvv
      rcases find_first .i64 key 0 h2 with ⟨h4, h5⟩ | ⟨u, j, h5, h6, h7⟩
      · obtain ⟨h8, _⟩ := evMs_none hvv' h2 h4
        have hfk := run_findKey (P := P) hkt h5 w
        refine ⟨{ w with heap := w.heap.setIfInBounds kk (.map (ms.push ⟨.int .i64 key, vv, clock⟩) (clock + 1)) }, ρ, Env.le.refl ρ, h.wrt hg rfl had (kept_setObj w kk _) ⟨kk, ms.push ⟨.int .i64 key, vv, clock⟩, clock + 1, rfl, by rw [h8]; simp, by simp [hlt]⟩, .inr ⟨rfl, ?_⟩⟩
        simp only [execOp, ho, ham, hak, hav]
        simp [Instr.mapUpdate, run_underlying hu, MapKept.run_getObj_map h3, run_checkKey hkt, hfk, MapKept.run_setObj_map _ h3, Result.andThen]
      · obtain ⟨h8, _⟩ := evMs_some hvv' h2 (j := j) (fun i hi => by have := h7 i hi; simpa [Option.map_map, Function.comp_def] using this) (by simpa [Option.map_map, Function.comp_def] using h6)
        have hfk := run_findKey (P := P) hkt h5 w
        obtain ⟨e0, he0, he0k⟩ := Option.map_eq_some_iff.1 h6
        have he0' : ms[j]? = some e0 := by simpa using he0
        have hjl : j < ms.toList.length := (List.getElem?_eq_some_iff.1 he0).1
        have hlist : (ms.modify j (fun e' => { e' with key := .int .i64 key, val := vv })).toList.map (fun m => (m.key, m.val)) = (ms.toList.map fun m => (m.key, m.val)).set j (.int .i64 key, vv) := by
          rw [Array.toList_modify]
          apply List.ext_getElem?
          intro i
          simp only [List.getElem?_map, List.getElem?_modify, List.getElem?_set, List.length_map]
          by_cases hij : j = i
          · subst hij; have hjs : j < ms.size := by simpa using hjl
            simp [he0', hjs]
          · simp [hij]
        refine ⟨{ w with heap := w.heap.setIfInBounds kk (.map (ms.modify j (fun e' => { e' with key := .int .i64 key, val := vv })) clock) }, ρ, Env.le.refl ρ, h.wrt hg rfl had (kept_setObj w kk _) ⟨kk, _, clock, rfl, by rw [h8, hlist], by simp [hlt]⟩, .inr ⟨rfl, ?_⟩⟩
        have hsb : Instr.sameBits 10000 (.int .i64 key) (.int .i64 key) = true := by simp [Instr.sameBits]
        simp only [execOp, ho, ham, hak, hav]
        simp [Instr.mapUpdate, run_underlying hu, MapKept.run_getObj_map h3, run_checkKey hkt, hfk, he0', he0k, Instr.keyThatStays, hsb, MapKept.run_setObj_map _ h3, Result.andThen]
    · cases hx
  · cases hx
noncomputable def fDel (P : Program) (g : G) (L : Sl) (t : TypeId) (m k : Operand) : Option Res :=
  match mapI P t, evS L m, evS L k with
  | some _, some (.e (.c (.map b))), some (.e (.c (.int .i64 (.k key)))) => match g.H.get b with
    | some (.map es) => some ⟨some (.tup []), g.H.set b (some (.map (mdel key es))), g.nb, g.rs, g.e⟩
    | _ => none
  | _, _, _ => none
theorem fDel_ok (hf : Frm ρ n L a) (h : Gok I w0 ρ g w) {t t2 : TypeId} {m k : Operand} {x : Res} (ho : o.op = .call { callee := .builtin .delete, args := #[m, k], argTypes := #[t, t2] }) (hx : fDel P g L t m k = some x) : EfOk P I w0 ρ a w o x := by
  unfold fDel at hx
  split at hx
  · next e b key ht hm hk =>
    split at hx
    · next es hg =>
      cases hx
      obtain ⟨kt, hu, hkt⟩ := mapI_ok ht
      obtain ⟨mv, hmv, ham⟩ := evA hf hm
      obtain ⟨kv, hkv, hak⟩ := evA hf hk
      cases hkv
      simp only [SV.ev, EV.ev, SC.ev] at hmv
      obtain ⟨ad, had, rfl⟩ := Option.map_eq_some_iff.1 hmv
      obtain ⟨ad', had', kk, ms, clock, rfl, h2, h3⟩ := h.mem.has b _ hg
      rw [had] at had'
      cases had'
      have hlt := (Array.getElem?_eq_some_iff.1 h3).1
      have hrun : ∀ v w', (Builtin.delete_ #[t, t2] o.type #[.map (some kk), .int .i64 key]).run P w = .ok v w' → (execOp a.eval o).run P w = .ok (.value v) w' := fun v w' hr => by
        simp only [execOp, ho, resolve, invoke, builtin, ham, hak, Sem.run_bind, Sem.run_pure, Result.andThen_ok, List.map_toArray, List.map_cons, List.map_nil, hr]
      rcases find_first .i64 key 0 h2 with ⟨h4, h5⟩ | ⟨u, j, h5, h6, h7⟩
      · obtain ⟨_, h8⟩ := evMs_none (x := .c .pnil) (v := .pointer none) rfl h2 h4
        have hfk := run_findKey (P := P) hkt h5 w
        refine ⟨{ w with heap := w.heap.setIfInBounds kk (.map ms clock) }, ρ, Env.le.refl ρ, h.wrt hg rfl had (kept_setObj w kk _) ⟨kk, ms, clock, rfl, by rw [h8]; exact h2, by simp [hlt]⟩, .inl ⟨_, .tuple #[], rfl, rfl, hrun _ _ ?_⟩⟩
        simp [Builtin.delete_, run_underlying hu, MapKept.run_getObj_map h3, run_checkKey hkt, hfk, MapKept.run_setObj_map _ h3, Result.andThen]
      · obtain ⟨_, h8⟩ := evMs_some (x := .c .pnil) (v := .pointer none) rfl h2 (j := j) (fun i hi => by have := h7 i hi; simpa [Option.map_map, Function.comp_def] using this) (by simpa [Option.map_map, Function.comp_def] using h6)
        have hfk := run_findKey (P := P) hkt h5 w
        refine ⟨{ w with heap := w.heap.setIfInBounds kk (.map (ms.eraseIdxIfInBounds j) clock) }, ρ, Env.le.refl ρ, h.wrt hg rfl had (kept_setObj w kk _) ⟨kk, _, clock, rfl, by rw [h8]; congr 1; rw [Array.toList_eraseIdxIfInBounds, map_erase], by simp [hlt]⟩, .inl ⟨_, .tuple #[], rfl, rfl, hrun _ _ ?_⟩⟩
        simp [Builtin.delete_, run_underlying hu, MapKept.run_getObj_map h3, run_checkKey hkt, hfk, MapKept.run_setObj_map _ h3, Result.andThen]
    · cases hx
  · cases hx
end
end Go.Z
