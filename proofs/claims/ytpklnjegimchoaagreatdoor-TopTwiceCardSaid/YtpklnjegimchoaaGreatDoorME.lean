/-
  A run by forms: functions that are known by a contract, loops whose rounds are passed over, functions that are run once.
-/
import Derived.Laws.Closers25b
import Derived.Laws.Externs
import Derived.Shelf.Spec.BitsCarry
import Derived.Shelf.Bits.Mul64
import Derived.Test.YtpklnjegimchoaaGreatDoorMD
namespace Go.Z
open Go Go.X
noncomputable def pHash (args : List SV) (g : G) : Option (SV × G) :=
  match args with
  | [x] => match argCs g x with
    | some cs => bif bytesC g.e cs && lenUp g.e cs 65536 then (match mkL g.e ⟨1, [], [normC cs]⟩ (.k 32) with
      | (i, e) => some (.e (.agg [.run i 0 (.k 32)]), ⟨g.H, g.nb, g.rs, e⟩)) else none
    | none => none
  | _ => none
noncomputable def pChain (args : List SV) (g : G) : Option (SV × G) :=
  match args with
  | [.e (.agg k), x] => match argCs g x with
    | some cs => bif bytesC g.e cs && lenUp g.e cs 65536 && bytesC g.e k && lenIs g.e k 32 then (match mkL g.e ⟨2, [], [normC k, normC cs]⟩ (.k 32) with
      | (i, e) => match mkL e ⟨3, [], [normC k, normC cs]⟩ (.k 32) with
        | (j, e') => some (.tup [.agg [.run i 0 (.k 32)], .agg [.run j 0 (.k 32)]], ⟨g.H, g.nb, g.rs, e'⟩)) else none
    | none => none
  | _ => none
noncomputable def pOf (args : List SV) (g : G) : Option (SV × G) :=
  match args with
  | [.e (.agg k)] => bif bytesC g.e k && lenIs g.e k 32 then (match mkL g.e ⟨4, [], [normC k]⟩ (.k 32) with
      | (i, e) => some (.e (.agg [.run i 0 (.k 32)]), ⟨g.H, g.nb, g.rs, e⟩)) else none
  | _ => none
noncomputable def newB (g : G) (cs : Cs) : Option (SC × G) :=
  match newId g none with
  | some (id, nb, rs) => match Cs.len cs with
    | n => some (.slc id 0 n (n.add (slackL g.e.ni 1)), ⟨g.H.set id (some (.cells (cs ++ [.run g.e.nl 0 (slackL g.e.ni 1)]) 5)), nb, rs, g.e.junk 1⟩)
  | none => none
noncomputable def pSeal (args : List SV) (g : G) : Option (SV × G) :=
  match args with
  | [.e (.agg k), .e (.agg nn), x, y] => match argCs g x, argCs g y with
    | some bs, some ts => bif bytesC g.e k && lenIs g.e k 32 && bytesC g.e nn && lenIs g.e nn 12 && bytesC g.e bs && lenUp g.e bs 65536 && lenPos g.e bs && bytesC g.e ts && lenUp g.e ts 65536 then
        (match mkL g.e ⟨6, [], [normC k, normC nn, normC bs, normC ts]⟩ ((Cs.len ts).add (.k 16)) with
        | (i, e) => match newB ⟨g.H, g.nb, g.rs, e⟩ [.run i 0 ((Cs.len ts).add (.k 16))] with
          | some (s, g') => some (.e (.c s), g')
          | none => none) else none
    | _, _ => none
  | _ => none
noncomputable def pOpen (args : List SV) (g : G) : Option (SV × G) :=
  match args with
  | [.e (.agg k), .e (.agg nn), x, y] => match argCs g x, argCs g y with
    | some bs, some ss => match normC ss with
      | [.run i 0 n] => match g.e.li.get i with
        | some ⟨n', some ⟨6, [], [k', nn', bs', ts]⟩⟩ => bif n.beq n' && Cs.beq (normC k) k' && Cs.beq (normC nn) nn' && Cs.beq (normC bs) bs' && bytesC g.e bs && bytesC g.e k && bytesC g.e nn && lenIs g.e k 32 && lenIs g.e nn 12 && lenUp g.e bs 65536 && lenPos g.e bs && lenUp g.e ts 65536 && bytesC g.e ts then
            (match newB g ts with
            | some (s, g') => some (.tup [.c s, .c (.int .i64 (.k 0))], g')
            | none => none) else none
        | _ => none
      | _ => none
    | _, _ => none
  | _ => none
noncomputable def pKind (args : List SV) (g : G) : Option (SV × G) :=
  match args with
  | [.e (.c (.int .i64 m))] => match lt? g.e.bi m (.k 0), lt? g.e.bi m (.k 64), lt? g.e.bi m (.k 16384) with
    | some false, some true, _ => some (.e (.c (.int .i64 (.k 0))), g)
    | some false, some false, some true => some (.e (.c (.int .i64 (.k 1))), g)
    | _, _, _ => none
  | _ => none
noncomputable def pLen (args : List SV) (g : G) : Option (SV × G) :=
  match args with
  | [.e (.c (.int .u64 (.k (.ofNat n))))] => bif Nat.blt n 18446744073709551616 then some (.e (.c (.int .i64 (.k (.ofNat (bif Nat.beq n 0 then 0 else Nat.succ (Nat.log2 n)))))), g) else none
  | _ => none
noncomputable def pItoa (args : List SV) (g : G) : Option (SV × G) :=
  match args with
  | [.e (.c (.int .i64 n))] => match rng g.e.bi n with
    | some (lo, hi) => bif ile (-9223372036854775808) lo && ile hi 9223372036854775807 then (match mkS g.e ⟨10, [21], [[.one (.int .i64 n)]]⟩ with
      | (i, e) => some (.e (.c (.sym i)), ⟨g.H, g.nb, g.rs, e⟩)) else none
    | none => none
  | _ => none
noncomputable def upAll (g : G) (p : Int) : Cs → Option Int
  | [] => some 0
  | .one x :: r => match txtUp g x, upAll g p r with
    | some a, some b => some (Int.add (Int.add a p) b)
    | _, _ => none
  | _ :: _ => none
noncomputable def pJoin (args : List SV) (g : G) : Option (SV × G) :=
  match args with
  | [.e (.c (.slc b o l c)), .e (.c (.str p))] => match slCs g b o l, g.H.get b with
    | some cs, some (.cells _ _) => match upAll g (.ofNat p.size) cs with
      | some n => bif ile n 1000000 && Nat.blt (lenN cs) 1000000 then (match mkS g.e ⟨11, [n], [cs, [.one (.str p)]]⟩ with
        | (i, e) => some (.e (.c (.sym i)), ⟨g.H, g.nb, g.rs, e⟩)) else none
      | none => none
    | _, _ => none
  | _ => none
end Go.Z
namespace Go.Z
open Go Go.X
section
variable {P : Program} {I : In} {w0 w : World} {C : Cf} {f n k : Nat} {b : Code}
noncomputable def rndS (P : Program) (C : Cf) (k f n : Nat) (b : Code) : Nat → Sl → G → Option (Sl × G) :=
  nrec (fun L g => some (L, g)) (fun _ ih L g => match exec P C k f n b L g with
    | some (.norm, L', g') => tF (dropB L' (C.lpd f (headId b)) g'.H) fun H => ih L' ⟨H, g'.nb, g'.rs, g'.e⟩
    | _ => none)
theorem rndS_ok (hC : CfOk P I w0 C) (hb : CodeOk P I w0 C f b) {Q : Exit → Act → World → Prop} {M : Nat} {L' : Sl} {g' : G} : ∀ (m : Nat) {L : Sl} {g : G} {ρ : Env} {a : Act} {w : World}, rndS P C k f n b m L g = some (L', g') → Frm ρ n L a → Gok I w0 ρ g w →
    (∀ ρ' a' w', ρ.le ρ' → Frm ρ' n L' a' → Gok I w0 ρ' g' w' → a'.defers = a.defers → Code.rounds P b Q M a' w') → Code.rounds P b Q (m + M) a w
  | 0, L, g, ρ, a, w, h, hf, hg, hk => by
    have e : rndS P C k f n b 0 L g = some (L, g) := rfl
    rw [e] at h
    cases h
    rw [Nat.zero_add]
    exact hk ρ a w (Env.le.refl ρ) hf hg rfl
  | m + 1, L, g, ρ, a, w, h, hf, hg, hk => by
    have e : rndS P C k f n b (m + 1) L g = match exec P C k f n b L g with
      | some (.norm, L', g') => tF (dropB L' (C.lpd f (headId b)) g'.H) fun H => rndS P C k f n b m L' ⟨H, g'.nb, g'.rs, g'.e⟩
      | _ => none := rfl
    rw [e] at h
    split at h
    · next L1 g1 hx =>
      rw [show m + 1 + M = (m + M) + 1 from by omega]
      show b.wp P (Exit.then (Code.rounds P b Q (m + M)) Q) a w
      refine wp_mono (exec_ok hC k k (Nat.le_refl _) f n b L g .norm L1 g1 hx hb ρ a w hf hg) ?_
      rintro e a1 w1 ⟨rfl, hd, ρ1, hle, hf1, hg1⟩
      rw [tF_eq] at h
      exact rndS_ok hC hb m (g := ⟨dropB L1 (C.lpd f (headId b)) g1.H, g1.nb, g1.rs, g1.e⟩) h hf1 ⟨hg1.mem.less fun j hj hjj => dropB_less _ hjj, hg1.fb, hg1.fr, hg1.env⟩ fun ρ' a' w' hle' hf' hg' hd' => hk ρ' a' w' (hle.trans hle') hf' hg' (hd'.trans hd)
    · cases h
noncomputable def segSk (nn : Nat) (S : List ((Sl × G) × (Sl × G))) : Nat → Sl → G → Option (Sl × G) := fun n L g =>
  bif Nat.beq n nn then lrec none (fun p _ ih => bif slgEq (L, g) p.1 then some p.2 else ih) S else none
theorem seg_skip (nn : Nat) {S : List ((Sl × G) × (Sl × G))} (hC : CfOk P I w0 C) (hb : CodeOk P I w0 C f b) (h : ∀ p ∈ S, ∃ m, m ≤ 256 ∧ rndS P C k f nn b m p.1.1 p.1.2 = some p.2) : SkipOk P I w0 b (segSk nn S) := by
  intro n L g L' g' hsk Q m ρ a w hf hg hnext
  unfold segSk at hsk
  cases hn : Nat.beq n nn with
  | false => rw [hn, cond_false] at hsk; cases hsk
  | true =>
    rw [hn, cond_true] at hsk
    obtain rfl := nat_ok hn
    have : ∃ p ∈ S, slgEq (L, g) p.1 = true ∧ p.2 = (L', g') := by
      clear h
      induction S with
      | nil => cases hsk
      | cons p S ih =>
        have e : lrec (none : Option (Sl × G)) (fun p _ ih => bif slgEq (L, g) p.1 then some p.2 else ih) (p :: S) = bif slgEq (L, g) p.1 then some p.2 else lrec none (fun p _ ih => bif slgEq (L, g) p.1 then some p.2 else ih) S := rfl
        rw [e] at hsk
        cases hq : slgEq (L, g) p.1 with
        | true => rw [hq, cond_true] at hsk; exact ⟨p, List.mem_cons_self, hq, Option.some.inj hsk⟩
        | false =>
          rw [hq, cond_false] at hsk
          obtain ⟨q, h1, h2⟩ := ih hsk
          exact ⟨q, List.mem_cons_of_mem _ h1, h2⟩
    obtain ⟨p, hp, hq, he⟩ := this
    obtain ⟨j, hj, hr⟩ := h p hp
    have h1 := slgEq_ok hq
    rw [← h1, he] at hr
    exact rounds_mono (n := j + m) (by omega) (rndS_ok hC hb j hr hf hg fun ρ' a' w' hle hf' hg' hd => hnext ρ' a' w' hle hf' hg' hd)
def zs12 : List SC := [.int .i64 (.k 0), .int .i64 (.k 0), .int .i64 (.k 0), .int .i64 (.k 0), .int .u8 (.k 0), .int .u8 (.k 0), .int .u8 (.k 0), .int .u8 (.k 0), .int .u8 (.k 0), .int .u8 (.k 0), .int .u8 (.k 0), .int .u8 (.k 0)]
def opqs : List Nat → Nat → Sl
  | [], _ => []
  | k :: r, j => (k, .e (.c (.opq j))) :: opqs r (Nat.succ j)
def smallL (ti : Nat) (ks : List Nat) (i : Nat) : Sl := (ti, .e (.c (.int .i64 (.k (.ofNat i))))) :: (0, .e (.c (.ptr 0 0))) :: opqs ks 0
def gS : G := ⟨.n .e (some (.ro [.run 0 0 (.k 12), .rep zs12 255])) .e, 1, [], ⟨.e, 0, .n .e (some ⟨.k 12, none⟩) .e, 1, .e, 0⟩⟩
noncomputable def subS (L : Sl) : Sl → Bool := lrec true (fun p _ ih => (match lk L p.1 with
  | some x => x.beq p.2
  | none => false) && ih)
noncomputable def tabRun (P : Program) (C : Cf) (k f n : Nat) (b : Code) (ti : Nat) (ks : List Nat) : Bool :=
  match rndS P C k f n b 255 (smallL ti ks 1) gS with
  | some (L', _) => subS L' (smallL ti ks 256)
  | none => false
noncomputable def opqL (L : Sl) : List Nat → Option Sl
  | [] => some []
  | k :: r => match lk L k, opqL L r with
    | some (.e (.c x)), some rs => some ((k, .e (.c x)) :: rs)
    | _, _ => none
noncomputable def tabSk (nn ti : Nat) (ks : List Nat) : Nat → Sl → G → Option (Sl × G) := fun n L g =>
  bif Nat.beq n nn then (match lk L ti, lk L 0 with
    | some (.e (.c (.int .i64 (.k (.ofNat 1))))), some (.e (.c (.ptr b 0))) => match rdB g.H b with
      | some cs => match split g.e.bi cs (.k (.ofNat 12)) with
        | some (_, [.rep p 255]) => bif leq SC.beq p zs12 then (match opqL L ks with
          | some r => some ((ti, .e (.c (.int .i64 (.k (.ofNat 256))))) :: (0, .e (.c (.ptr b 0))) :: r, g)
          | none => none) else none
        | _ => none
      | none => none
    | _, _ => none) else none
theorem subS_ok {L : Sl} : ∀ {M : Sl}, subS L M = true → ∀ p ∈ M, lk L p.1 = some p.2
  | [], _, p, hp => by cases hp
  | q :: M, h, p, hp => by
    have e : subS L (q :: M) = ((match lk L q.1 with
      | some x => x.beq q.2
      | none => false) && subS L M) := rfl
    rw [e, Bool.and_eq_true] at h
    rcases List.mem_cons.1 hp with rfl | hp
    · have h1 := h.1
      split at h1
      · next x hx => rw [hx, SV.beq_ok h1]
      · cases h1
    · exact subS_ok h.2 p hp
theorem opqL_ok {ρ : Env} {L : Sl} {a : Act} (hf : Frm ρ n L a) : ∀ {ks : List Nat} {r : Sl}, opqL L ks = some r → ∃ vs : List Value, vs.length = ks.length ∧
    (∀ (j k : Nat) (v : Value), ks[j]? = some k → vs[j]? = some v → v.oneCell' = true ∧ a.tmps[k]? = some v) ∧
    (∀ t x, lk r t = some x → ∃ (j : Nat) (v : Value), ks[j]? = some t ∧ vs[j]? = some v ∧ x.ev ρ = some v)
  | [], r, h => by cases h; exact ⟨[], rfl, fun j k v hj => by simp at hj, fun t x hx => by cases hx⟩
  | k :: ks, r, h => by
    simp only [opqL] at h
    split at h
    · next x rs hx hr =>
      cases h
      obtain ⟨v, hv, hm⟩ := hf.holds k _ hx
      obtain ⟨vs, h1, h2, h3⟩ := opqL_ok hf hr
      refine ⟨v :: vs, by simp [h1], fun j q u hj hu => ?_, fun t y hy => ?_⟩
      · cases j with
        | zero => simp at hj hu; subst hj hu; exact ⟨SC.ev_one hv, hm⟩
        | succ j => simp at hj hu; exact h2 j q u hj hu
      · rw [lk_cons] at hy
        by_cases hk : k = t
        · subst hk
          rw [Nat.beq_refl, cond_true] at hy
          cases hy
          exact ⟨0, v, by simp, by simp, hv⟩
        · rw [nbeq hk, cond_false] at hy
          obtain ⟨j, u, h4, h5, h6⟩ := h3 t y hy
          exact ⟨j + 1, u, by simpa using h4, by simpa using h5, h6⟩
    · cases h
theorem opqs_mem : ∀ {ks : List Nat} {i j k : Nat}, ks[j]? = some k → (k, SV.e (.c (.opq (i + j)))) ∈ opqs ks i
  | [], i, j, k, h => by simp at h
  | q :: ks, i, 0, k, h => by simp at h; subst h; exact List.mem_cons_self ..
  | q :: ks, i, j + 1, k, h => by
    simp at h
    have := opqs_mem (i := i + 1) h
    rw [show i + 1 + j = i + (j + 1) from by omega] at this
    exact List.mem_cons_of_mem _ this
theorem opqs_lk : ∀ {ks : List Nat} {i t : Nat} {x : SV}, lk (opqs ks i) t = some x → ∃ j, ks[j]? = some t ∧ x = .e (.c (.opq (i + j)))
  | [], i, t, x, h => by cases h
  | q :: ks, i, t, x, h => by
    rw [opqs, lk_cons] at h
    by_cases hq : q = t
    · subst hq
      rw [Nat.beq_refl, cond_true] at h
      cases h
      exact ⟨0, by simp, rfl⟩
    · rw [nbeq hq, cond_false] at h
      obtain ⟨j, h1, h2⟩ := opqs_lk h
      exact ⟨j + 1, by simpa using h1, by rw [h2]; congr 3; show i + 1 + j = i + (j + 1); omega⟩
theorem gS_get {i : Nat} {hb : HB} (h : gS.H.get i = some hb) : i = 0 ∧ hb = .ro [.run 0 0 (.k 12), .rep zs12 255] := by
  cases i with
  | zero => cases h; exact ⟨rfl, rfl⟩
  | succ i =>
    exfalso
    have h2 : ((T.e : T HB).set 0 (some (.ro [.run 0 0 (.k 12), .rep zs12 255]))).get (i + 1) = some hb := h
    rw [T.get_set, if_neg (by omega)] at h2
    cases h2
theorem gS_li {i : Nat} {x : LI} (h : gS.e.li.get i = some x) : i = 0 ∧ x = ⟨.k 12, none⟩ := by
  cases i with
  | zero => cases h; exact ⟨rfl, rfl⟩
  | succ i =>
    exfalso
    have h2 : ((T.e : T LI).set 0 (some ⟨.k 12, none⟩)).get (i + 1) = some x := h
    rw [T.get_set, if_neg (by omega)] at h2
    cases h2
theorem tab_skip (nn ti : Nat) (ks : List Nat) (hti : ti ≠ 0) (hC : ∀ w1, CfOk P I w1 C) (hb : ∀ w1, CodeOk P I w1 C f b) (hrun : tabRun P C k f nn b ti ks = true) : SkipOk P I w0 b (tabSk nn ti ks) := by
  intro n L g L' g2 hsk Q m ρ a w hf hg hnext
  unfold tabSk at hsk
  cases hn : Nat.beq n nn with
  | false => rw [hn, cond_false] at hsk; cases hsk
  | true =>
    rw [hn, cond_true] at hsk
    obtain rfl := nat_ok hn
    split at hsk
    · next B hi hp =>
      split at hsk
      · next cs hcs =>
        split at hsk
        · next c1 p hsp =>
          cases hpz : leq SC.beq p zs12 with
          | false => rw [hpz, cond_false] at hsk; cases hsk
          | true =>
            rw [hpz, cond_true] at hsk
            have hpe : p = zs12 := leq_ok (fun _ _ h => SC.beq_ok h) hpz
            subst hpe
            split at hsk
            · next r hr =>
              cases hsk
              obtain ⟨vs, hvl, hv1, hv2⟩ := opqL_ok hf hr
              obtain ⟨ad, cv, had, hcv, hrd⟩ := rdB_ok hcs hg.mem.has
              obtain ⟨va, vb, hva, hvb, rfl, hl⟩ := split_ok hg.env.bok hsp hcv (rfl : (Lin.k (.ofNat 12)).ev ρ = some (Int.ofNat 12))
              have hone := Cs.ev_one hcv
              have hl12 : va.length = 12 := by have : (Int.ofNat 12 : Int) = 12 := rfl; omega
              let ρ0 : Env := ⟨fun i => if i = 0 then some ad else none, fun _ => none, fun i => if i = 0 then some va else none, fun _ => none, fun j => vs[j]?⟩
              have hread : Cs.ev ρ0 [.run 0 0 (.k 12), .rep zs12 255] = some (va ++ vb) := by
                have h1 : (Seg.run 0 0 (.k 12)).ev ρ0 = some va := by
                  have hall : va.all Value.oneCell' = true := List.all_eq_true.2 fun v hv => hone v (List.mem_append.2 (.inl hv))
                  have e12 : (12 : Int).toNat = 12 := rfl
                  simp only [Seg.ev, Lin.ev, ρ0, if_true, List.drop_zero, e12, Nat.zero_add]
                  rw [if_pos ⟨by decide, by omega, hall⟩, ← hl12, List.take_length]
                obtain ⟨b1, b2, hb1, hb2, hb3⟩ := Cs.ev_cons hvb
                cases hb2
                have h2 : (Seg.rep zs12 255).ev ρ0 = some b1 := hb1
                simp only [Cs.ev, h1, h2]
                rw [hb3]
              have hfS : Frm ρ0 n (smallL ti ks 1) a := by
                refine ⟨hf.size, fun t x hx => ?_⟩
                rw [smallL, lk_cons] at hx
                by_cases h1 : ti = t
                · subst h1
                  rw [Nat.beq_refl, cond_true] at hx
                  cases hx
                  obtain ⟨v, hv, hm⟩ := hf.holds _ _ hi
                  cases hv
                  exact ⟨_, rfl, hm⟩
                · rw [nbeq h1, cond_false, lk_cons] at hx
                  by_cases h2 : 0 = t
                  · subst h2
                    rw [Nat.beq_refl, cond_true] at hx
                    cases hx
                    obtain ⟨v, hv, hm⟩ := hf.holds _ _ hp
                    simp only [SV.ev, EV.ev, SC.ev, had, Option.map_some] at hv
                    cases hv
                    exact ⟨_, rfl, hm⟩
                  · rw [nbeq h2, cond_false] at hx
                    obtain ⟨j, hj, rfl⟩ := opqs_lk hx
                    have hjl : j < vs.length := by rw [hvl]; exact (List.getElem?_eq_some_iff.1 hj).1
                    have hjv : vs[j]? = some vs[j] := List.getElem?_eq_getElem hjl
                    obtain ⟨h3, h4⟩ := hv1 j t _ hj hjv
                    refine ⟨vs[j], ?_, h4⟩
                    simp only [SV.ev, EV.ev, SC.ev, ρ0, Nat.zero_add, hjv, h3, if_true]
              have hgS : Gok I w ρ0 gS w := by
                refine ⟨⟨Kept.refl [] w, fun id hb h => ?_, fun i j hi hj ai aj h1 h2 hne _ _ _ => ?_, fun i hi ai h1 ho _ => ?_⟩, fun i hi => ?_, fun i hi => (by cases hi), ⟨fun i lo hi h => (by cases i <;> cases h), fun _ _ => rfl, fun i x h => ?_, fun i hi => ?_, fun i x h => (by cases i <;> cases h), fun _ _ => rfl⟩⟩
                · obtain ⟨rfl, rfl⟩ := gS_get h
                  exact ⟨ad, rfl, va ++ vb, hread, hrd⟩
                · obtain ⟨rfl, _⟩ := gS_get h1
                  obtain ⟨rfl, _⟩ := gS_get h2
                  exact absurd rfl hne
                · obtain ⟨_, rfl⟩ := gS_get h1
                  cases ho
                · have hi' : 1 ≤ i := hi
                  show (if i = 0 then some ad else none) = none
                  rw [if_neg (by omega)]
                · obtain ⟨rfl, rfl⟩ := gS_li h
                  exact ⟨va, rfl, by rw [hl12]; rfl, List.all_eq_true.2 fun v hv => hone v (List.mem_append.2 (.inl hv)), fun d hd => by cases hd⟩
                · have hi' : 1 ≤ i := hi
                  show (if i = 0 then some va else none) = none
                  rw [if_neg (by omega)]
              unfold tabRun at hrun
              split at hrun
              · next L1 g1 hrnd =>
                refine rounds_mono (n := 255 + m) (by omega) (rndS_ok (hC w) (hb w) 255 hrnd hfS hgS fun ρ' a' w' hle hf' hg' hd => ?_)
                refine hnext ρ a' w' (Env.le.refl ρ) ⟨hf'.size, fun t x hx => ?_⟩ ⟨hg.mem.same (Env.le.refl ρ) hg'.mem.kept, hg.fb, hg.fr, hg.env⟩ hd
                rw [lk_cons] at hx
                by_cases h1 : ti = t
                · subst h1
                  rw [Nat.beq_refl, cond_true] at hx
                  cases hx
                  obtain ⟨v, hv, hm⟩ := hf'.holds _ _ (subS_ok hrun _ (List.mem_cons_self ..))
                  cases hv
                  exact ⟨_, rfl, hm⟩
                · rw [nbeq h1, cond_false, lk_cons] at hx
                  by_cases h2 : 0 = t
                  · subst h2
                    rw [Nat.beq_refl, cond_true] at hx
                    cases hx
                    obtain ⟨v, hv, hm⟩ := hf'.holds _ _ (subS_ok hrun _ (List.mem_cons_of_mem _ (List.mem_cons_self ..)))
                    have hb0 : ρ'.b 0 = some ad := hle.b 0 ad rfl
                    simp only [SV.ev, EV.ev, SC.ev, hb0, Option.map_some] at hv
                    cases hv
                    exact ⟨_, by simp only [SV.ev, EV.ev, SC.ev, had, Option.map_some], hm⟩
                  · rw [nbeq h2, cond_false] at hx
                    obtain ⟨j, v, hj, hjv, hxv⟩ := hv2 t x hx
                    have hmem := opqs_mem (i := 0) hj
                    obtain ⟨u, hu, hm⟩ := hf'.holds _ _ (subS_ok hrun _ (List.mem_cons_of_mem _ (List.mem_cons_of_mem _ hmem)))
                    have hvj : ρ'.v j = some v := hle.v j v hjv
                    have h3 := (hv1 j t v hj hjv).1
                    simp only [SV.ev, EV.ev, SC.ev, Nat.zero_add, hvj, h3, if_true] at hu
                    cases hu
                    exact ⟨v, hxv, hm⟩
              · cases hrun
            · cases hsk
        · cases hsk
      · cases hsk
    · cases hsk
def gM (o : Nat) : G := ⟨.n (.n .e (some (.rom [])) .e) (some (.ro [.run 0 0 (.k (.ofNat o)), .one (.map 1)])) .e, 2, [], ⟨.e, 0, .n .e (some ⟨.k (.ofNat o), none⟩) .e, 1, .e, 0⟩⟩
noncomputable def mapRun (P : Program) (C : Cf) (k f n : Nat) (b : Code) (ti : Nat) (ks : List Nat) (o : Nat) : Bool :=
  match rndS P C k f n b 255 (smallL ti ks 1) (gM o) with
  | some (L', _) => subS L' (smallL ti ks 256)
  | none => false
noncomputable def mapSk (nn ti : Nat) (ks : List Nat) (o : Nat) : Nat → Sl → G → Option (Sl × G) := fun n L g =>
  bif Nat.beq n nn then (match lk L ti, lk L 0 with
    | some (.e (.c (.int .i64 (.k (.ofNat 1))))), some (.e (.c (.ptr b 0))) => match rdB g.H b with
      | some cs => match split g.e.bi cs (.k (.ofNat o)) with
        | some (_, .one (.map q) :: _) => match g.H.get q with
          | some hb => match hb.ms with
            | some [] => match opqL L ks with
              | some r => some ((ti, .e (.c (.int .i64 (.k (.ofNat 256))))) :: (0, .e (.c (.ptr b 0))) :: r, g)
              | none => none
            | _ => none
          | none => none
        | _ => none
      | none => none
    | _, _ => none) else none
theorem gM_get {o i : Nat} {hb : HB} (h : (gM o).H.get i = some hb) : (i = 0 ∧ hb = .ro [.run 0 0 (.k (.ofNat o)), .one (.map 1)]) ∨ (i = 1 ∧ hb = .rom []) := by
  match i with
  | 0 => cases h; exact .inl ⟨rfl, rfl⟩
  | 1 => cases h; exact .inr ⟨rfl, rfl⟩
  | i + 2 =>
    exfalso
    have h2 : (((T.e : T HB).set 0 (some (.ro [.run 0 0 (.k (.ofNat o)), .one (.map 1)]))).set 1 (some (.rom []))).get (i + 2) = some hb := h
    rw [T.get_set, if_neg (by omega), T.get_set, if_neg (by omega)] at h2
    cases h2
theorem gM_li {o i : Nat} {x : LI} (h : (gM o).e.li.get i = some x) : i = 0 ∧ x = ⟨.k (.ofNat o), none⟩ := by
  cases i with
  | zero => cases h; exact ⟨rfl, rfl⟩
  | succ i =>
    exfalso
    have h2 : ((T.e : T LI).set 0 (some ⟨.k (.ofNat o), none⟩)).get (i + 1) = some x := h
    rw [T.get_set, if_neg (by omega)] at h2
    cases h2
theorem map_skip (nn ti : Nat) (ks : List Nat) (o : Nat) (hC : ∀ w1, CfOk P I w1 C) (hb : ∀ w1, CodeOk P I w1 C f b) (hrun : mapRun P C k f nn b ti ks o = true) : SkipOk P I w0 b (mapSk nn ti ks o) := by
  intro n L g L' g2 hsk Q m ρ a w hf hg hnext
  unfold mapSk at hsk
  cases hn : Nat.beq n nn with
  | false => rw [hn, cond_false] at hsk; cases hsk
  | true =>
    rw [hn, cond_true] at hsk
    obtain rfl := nat_ok hn
    split at hsk
    · next B hi hp =>
      split at hsk
      · next cs hcs =>
        split at hsk
        · next c1 q c2 hsp =>
          split at hsk
          · next hbq hgq =>
            split at hsk
            · next hms =>
              split at hsk
              · next r hr =>
                cases hsk
                obtain ⟨vs, hvl, hv1, hv2⟩ := opqL_ok hf hr
                obtain ⟨ad, cv, had, hcv, hrd⟩ := rdB_ok hcs hg.mem.has
                obtain ⟨va, vb, hva, hvb, rfl, hl⟩ := split_ok hg.env.bok hsp hcv (rfl : (Lin.k (.ofNat o)).ev ρ = some (Int.ofNat o))
                have hone := Cs.ev_one hcv
                have hlo : va.length = o := by have : (Int.ofNat o : Int) = (o : Int) := rfl; omega
                obtain ⟨mv, vr, hmv, _, rfl⟩ := Cs.ev_one1 hvb
                obtain ⟨adq, hadq, hokq⟩ := hg.mem.has q hbq hgq
                obtain ⟨kq, ms, clock, rfl, hms2, hheap⟩ := HB.ms_ok hokq hms
                simp only [SC.ev, hadq, Option.map_some, Option.some.injEq] at hmv
                let ρ0 : Env := ⟨fun i => if i = 0 then some ad else if i = 1 then some ⟨kq, 0, none⟩ else none, fun _ => none, fun i => if i = 0 then some va else none, fun _ => none, fun j => vs[j]?⟩
                have hread : Cs.ev ρ0 [.run 0 0 (.k (.ofNat o)), .one (.map 1)] = some (va ++ [mv]) := by
                  have h1 : (Seg.run 0 0 (.k (.ofNat o))).ev ρ0 = some va := by
                    have hall : va.all Value.oneCell' = true := List.all_eq_true.2 fun v hv => hone v (List.mem_append.2 (.inl hv))
                    have eo : (Int.ofNat o).toNat = o := rfl
                    have e0 : (0 : Int) ≤ Int.ofNat o := Int.natCast_nonneg o
                    simp only [Seg.ev, Lin.ev, ρ0, if_true, List.drop_zero, eo, Nat.zero_add]
                    rw [if_pos ⟨e0, by omega, hall⟩, ← hlo, List.take_length]
                  have h2 : (Seg.one (.map 1)).ev ρ0 = some [mv] := by
                    rw [← hmv]; rfl
                  simp only [Cs.ev, h1, h2]
                  rfl
                have hfS : Frm ρ0 n (smallL ti ks 1) a := by
                  refine ⟨hf.size, fun t x hx => ?_⟩
                  rw [smallL, lk_cons] at hx
                  by_cases h1 : ti = t
                  · subst h1
                    rw [Nat.beq_refl, cond_true] at hx
                    cases hx
                    obtain ⟨v, hv, hm⟩ := hf.holds _ _ hi
                    cases hv
                    exact ⟨_, rfl, hm⟩
                  · rw [nbeq h1, cond_false, lk_cons] at hx
                    by_cases h2 : 0 = t
                    · subst h2
                      rw [Nat.beq_refl, cond_true] at hx
                      cases hx
                      obtain ⟨v, hv, hm⟩ := hf.holds _ _ hp
                      simp only [SV.ev, EV.ev, SC.ev, had, Option.map_some] at hv
                      cases hv
                      exact ⟨_, rfl, hm⟩
                    · rw [nbeq h2, cond_false] at hx
                      obtain ⟨j, hj, rfl⟩ := opqs_lk hx
                      have hjl : j < vs.length := by rw [hvl]; exact (List.getElem?_eq_some_iff.1 hj).1
                      have hjv : vs[j]? = some vs[j] := List.getElem?_eq_getElem hjl
                      obtain ⟨h3, h4⟩ := hv1 j t _ hj hjv
                      refine ⟨vs[j], ?_, h4⟩
                      simp only [SV.ev, EV.ev, SC.ev, ρ0, Nat.zero_add, hjv, h3, if_true]
                have hgS : Gok I w ρ0 (gM o) w := by
                  refine ⟨⟨Kept.refl [] w, fun id hb h => ?_, fun i j hi hj ai aj h1 h2 hne ho _ _ => ?_, fun i hi ai h1 ho _ => ?_⟩, fun i hi => ?_, fun i hi => (by cases hi), ⟨fun i lo hi h => (by cases i <;> cases h), fun _ _ => rfl, fun i x h => ?_, fun i hi => ?_, fun i x h => (by cases i <;> cases h), fun _ _ => rfl⟩⟩
                  · rcases gM_get h with ⟨rfl, rfl⟩ | ⟨rfl, rfl⟩
                    · refine ⟨ad, rfl, va ++ [mv], hread, fun j v hj => hrd j v ?_⟩
                      rw [show va ++ mv :: vr = (va ++ [mv]) ++ vr from by simp]
                      rw [List.getElem?_append_left (List.getElem?_eq_some_iff.1 hj).1]
                      exact hj
                    · exact ⟨⟨kq, 0, none⟩, rfl, kq, ms, clock, rfl, hms2, hheap⟩
                  · rcases gM_get h1 with ⟨_, rfl⟩ | ⟨_, rfl⟩ <;> cases ho
                  · rcases gM_get h1 with ⟨_, rfl⟩ | ⟨_, rfl⟩ <;> cases ho
                  · have hi' : 2 ≤ i := hi
                    show (if i = 0 then some ad else if i = 1 then some ⟨kq, 0, none⟩ else none) = none
                    rw [if_neg (by omega), if_neg (by omega)]
                  · obtain ⟨rfl, rfl⟩ := gM_li h
                    exact ⟨va, rfl, by rw [hlo]; rfl, List.all_eq_true.2 fun v hv => hone v (List.mem_append.2 (.inl hv)), fun d hd => by cases hd⟩
                  · have hi' : 1 ≤ i := hi
                    show (if i = 0 then some va else none) = none
                    rw [if_neg (by omega)]
                unfold mapRun at hrun
                split at hrun
                · next L1 g1 hrnd =>
                  refine rounds_mono (n := 255 + m) (by omega) (rndS_ok (hC w) (hb w) 255 hrnd hfS hgS fun ρ' a' w' hle hf' hg' hd => ?_)
                  refine hnext ρ a' w' (Env.le.refl ρ) ⟨hf'.size, fun t x hx => ?_⟩ ⟨hg.mem.same (Env.le.refl ρ) hg'.mem.kept, hg.fb, hg.fr, hg.env⟩ hd
                  rw [lk_cons] at hx
                  by_cases h1 : ti = t
                  · subst h1
                    rw [Nat.beq_refl, cond_true] at hx
                    cases hx
                    obtain ⟨v, hv, hm⟩ := hf'.holds _ _ (subS_ok hrun _ (List.mem_cons_self ..))
                    cases hv
                    exact ⟨_, rfl, hm⟩
                  · rw [nbeq h1, cond_false, lk_cons] at hx
                    by_cases h2 : 0 = t
                    · subst h2
                      rw [Nat.beq_refl, cond_true] at hx
                      cases hx
                      obtain ⟨v, hv, hm⟩ := hf'.holds _ _ (subS_ok hrun _ (List.mem_cons_of_mem _ (List.mem_cons_self ..)))
                      have hb0 : ρ'.b 0 = some ad := hle.b 0 ad rfl
                      simp only [SV.ev, EV.ev, SC.ev, hb0, Option.map_some] at hv
                      cases hv
                      exact ⟨_, by simp only [SV.ev, EV.ev, SC.ev, had, Option.map_some], hm⟩
                    · rw [nbeq h2, cond_false] at hx
                      obtain ⟨j, v, hj, hjv, hxv⟩ := hv2 t x hx
                      have hmem := opqs_mem (i := 0) hj
                      obtain ⟨u, hu, hm⟩ := hf'.holds _ _ (subS_ok hrun _ (List.mem_cons_of_mem _ (List.mem_cons_of_mem _ hmem)))
                      have hvj : ρ'.v j = some v := hle.v j v hjv
                      have h3 := (hv1 j t v hj hjv).1
                      simp only [SV.ev, EV.ev, SC.ev, Nat.zero_add, hvj, h3, if_true] at hu
                      cases hu
                      exact ⟨v, hxv, hm⟩
                · cases hrun
              · cases hsk
            · cases hsk
          · cases hsk
        · cases hsk
      · cases hsk
    · cases hsk
end
end Go.Z
namespace Go.Z
open Go Go.X
def mK : IntKind → Nat
  | .u8 => 256 | .u16 => 65536 | .u32 => 4294967296 | .u64 => 18446744073709551616
  | _ => 1
def uK : IntKind → Bool
  | .u8 => true | .u16 => true | .u32 => true | .u64 => true
  | _ => false
def bK : IntKind → Nat
  | .u8 => 8 | .u16 => 16 | .u32 => 32
  | _ => 64
def o_add (k : IntKind) (a b : Nat) : Nat := Nat.mod (Nat.add a b) (mK k)
def o_sub (k : IntKind) (a b : Nat) : Nat := Nat.mod (Nat.add a (Nat.sub (mK k) (Nat.mod b (mK k)))) (mK k)
def o_mul (k : IntKind) (a b : Nat) : Nat := Nat.mod (Nat.mul a b) (mK k)
def o_and (k : IntKind) (a b : Nat) : Nat := Nat.land (Nat.mod a (mK k)) (Nat.mod b (mK k))
def o_or (k : IntKind) (a b : Nat) : Nat := Nat.lor (Nat.mod a (mK k)) (Nat.mod b (mK k))
def o_xor (k : IntKind) (a b : Nat) : Nat := Nat.xor (Nat.mod a (mK k)) (Nat.mod b (mK k))
def o_andNot (k : IntKind) (a b : Nat) : Nat := Nat.land (Nat.mod a (mK k)) (Nat.sub (Nat.sub (mK k) 1) (Nat.mod b (mK k)))
def o_shl (k : IntKind) (a b : Nat) : Nat := Nat.mod (Nat.mul a (Nat.pow 2 (bif Nat.ble b (bK k) then b else bK k))) (mK k)
def o_shr (k : IntKind) (a b : Nat) : Nat := Nat.div a (Nat.pow 2 (bif Nat.ble b (bK k) then b else bK k))
def o_wrap (k : IntKind) (a b : Nat) : Nat := Nat.mod a (mK k)
def o_sum (k : IntKind) (a b : Nat) : Nat := Nat.add a b
def o_low (k : IntKind) (a b : Nat) : Nat := Nat.mod a 18446744073709551616
def o_less (k : IntKind) (a b : Nat) : Nat := Nat.sub (Nat.add a 18446744073709551616) b
def o_below (k : IntKind) (a b : Nat) : Nat := bif Nat.blt a b then 1 else 0
def o_over (k : IntKind) (a b : Nat) : Nat := bif Nat.blt a 18446744073709551616 then 0 else 1
def o_high (k : IntKind) (a b : Nat) : Nat := Nat.mod (Nat.div a 18446744073709551616) 18446744073709551616
def o_prod (k : IntKind) (a b : Nat) : Nat := Nat.mul a b
noncomputable def opN (o : NO) : IntKind → Nat → Nat → Nat := @NO.rec (fun _ => IntKind → Nat → Nat → Nat) o_add o_sub o_mul o_and o_or o_xor o_andNot o_shl o_shr o_wrap o_sum o_low o_less o_below o_over o_high o_prod o
theorem wrapU {k : IntKind} (h : uK k = true) (n : Int) : k.wrap n = n % (mK k : Int) := by
  cases k <;> first | (exact absurd h (by decide)) | simp [IntKind.wrap, IntKind.bits, IntKind.signed, mK]
theorem mK_pow {k : IntKind} (h : uK k = true) : mK k = 2 ^ k.bits := by cases k <;> first | (exact absurd h (by decide)) | rfl
theorem bK_bits {k : IntKind} (h : uK k = true) : bK k = k.bits := by cases k <;> first | (exact absurd h (by decide)) | rfl
theorem opN_ok {o : NO} {k : IntKind} (hk : uK k = true) (a b : Nat) : nxOp o k (a : Int) (b : Int) = (opN o k a b : Int) := by
  have hp : 0 < mK k := by cases k <;> decide
  have hpow := mK_pow hk
  have hmn : (bif Nat.ble b (bK k) then b else bK k) = min b k.bits := by
    rw [← bK_bits hk]
    cases hb : Nat.ble b (bK k) with
    | true => have := Nat.le_of_ble_eq_true hb; rw [cond_true, Nat.min_eq_left this]
    | false =>
      have : ¬ b ≤ bK k := fun h => by rw [Nat.ble_eq_true_of_le h] at hb; cases hb
      rw [cond_false, Nat.min_eq_right (by omega)]
  have hbits : ∀ (op : BinOp) (n : Nat), n < mK k → (bits op k (a : Int) (b : Int) = k.wrap ((n : Nat) : Int)) → bits op k (a : Int) (b : Int) = (n : Int) := fun op n hn h => by
    rw [h, wrapU hk, Int.emod_eq_of_lt (by omega) (by omega)]
  cases o <;> simp only [opN, nxOp, o_add, o_sub, o_mul, o_and, o_or, o_xor, o_andNot, o_shl, o_shr, o_wrap, o_sum, o_low, o_less, o_below, o_over, o_high, o_prod]
  · rw [wrapU hk]; show _ = (((a + b) % mK k : Nat) : Int); rw [Int.natCast_emod, Int.natCast_add]
  · rw [wrapU hk]
    show _ = (((a + (mK k - b % mK k)) % mK k : Nat) : Int)
    have h1 : b % mK k < mK k := Nat.mod_lt _ hp
    have h2 : (b : Int) = mK k * ((b / mK k : Nat) : Int) + ((b % mK k : Nat) : Int) := by
      have := Nat.div_add_mod b (mK k)
      exact_mod_cast this.symm
    rw [Int.natCast_emod, Int.natCast_add, Int.ofNat_sub (Nat.le_of_lt h1)]
    have e : (a : Int) - b = (a + (mK k - ((b % mK k : Nat) : Int))) + mK k * (-((b / mK k : Nat) : Int) - 1) := by
      rw [h2, Int.mul_sub, Int.mul_neg]; omega
    rw [e, Int.add_mul_emod_self_left]
  · rw [wrapU hk]; show _ = (((a * b) % mK k : Nat) : Int); simp
  · refine hbits .and _ (Nat.lt_of_le_of_lt Nat.and_le_left (Nat.mod_lt _ hp)) ?_
    show bits .and k (a : Int) (b : Int) = k.wrap ((((a % mK k) &&& (b % mK k) : Nat)) : Int)
    simp only [bits, BitVec.ofInt_natCast, BitVec.toNat_and, BitVec.toNat_ofNat, hpow]
  · refine hbits .or _ (by rw [hpow] at *; exact Nat.or_lt_two_pow (Nat.mod_lt _ (Nat.two_pow_pos _)) (Nat.mod_lt _ (Nat.two_pow_pos _))) ?_
    show bits .or k (a : Int) (b : Int) = k.wrap ((((a % mK k) ||| (b % mK k) : Nat)) : Int)
    simp only [bits, BitVec.ofInt_natCast, BitVec.toNat_or, BitVec.toNat_ofNat, hpow]
  · refine hbits .xor _ (by rw [hpow] at *; exact Nat.xor_lt_two_pow (Nat.mod_lt _ (Nat.two_pow_pos _)) (Nat.mod_lt _ (Nat.two_pow_pos _))) ?_
    show bits .xor k (a : Int) (b : Int) = k.wrap ((((a % mK k) ^^^ (b % mK k) : Nat)) : Int)
    simp only [bits, BitVec.ofInt_natCast, BitVec.toNat_xor, BitVec.toNat_ofNat, hpow]
  · refine hbits .andNot _ (Nat.lt_of_le_of_lt Nat.and_le_left (Nat.mod_lt _ hp)) ?_
    show bits .andNot k (a : Int) (b : Int) = k.wrap ((((a % mK k) &&& (mK k - 1 - b % mK k) : Nat)) : Int)
    simp only [bits, BitVec.ofInt_natCast, BitVec.toNat_and, BitVec.toNat_not, BitVec.toNat_ofNat, hpow]
  · rw [hmn]; unfold X.shl; rw [wrapU hk]
    show _ = (((a * 2 ^ min b k.bits) % mK k : Nat) : Int)
    simp
  · rw [hmn]; unfold X.shr
    show _ = ((a / 2 ^ min b k.bits : Nat) : Int)
    simp only [Int.toNat_natCast]
    rw [Int.fdiv_eq_ediv_of_nonneg _ (by exact_mod_cast Nat.zero_le _)]
    simp
  · rw [wrapU hk]; show _ = ((a % mK k : Nat) : Int); simp
  · show _ = ((a + b : Nat) : Int); simp
  · rfl
  · rfl
  · rfl
  · rfl
  · rfl
  · exact (Int.natCast_mul a b).symm
noncomputable def linN (xs : Nat → Nat) (l : Lin) : Nat := match l with
  | .k (.ofNat n) => n
  | .s _ [(_, i)] => xs i
  | _ => 0
noncomputable def nxN (xs : Nat → Nat) (e : Nx) : Nat := @Nx.rec (fun _ => Nat) (fun l => linN xs l) (fun o k _ _ x y => opN o k x y) e
noncomputable def linOk (n : Nat) (l : Lin) : Bool := match l with
  | .k (.ofNat _) => true
  | .s (.ofNat 0) [(.ofNat 1, i)] => Nat.blt i n
  | _ => false
noncomputable def nxOk (n : Nat) (e : Nx) : Bool := @Nx.rec (fun _ => Bool) (fun l => linOk n l) (fun _ k _ _ x y => uK k && (x && y)) e
def Nums (ρ : Env) (n : Nat) (xs : Nat → Nat) : Prop := ∀ i, i < n → ρ.i i = some ((xs i : Nat) : Int)
theorem linN_ok {ρ : Env} {n : Nat} {xs : Nat → Nat} (h : Nums ρ n xs) {l : Lin} (hl : linOk n l = true) : l.ev ρ = some (linN xs l : Int) := by
  unfold linOk at hl
  split at hl
  · rfl
  · next i =>
    have h1 := h i (Nat.le_of_ble_eq_true hl)
    simp only [Lin.ev, evTs, h1, linN, Option.map_some]
    simp
  · cases hl
theorem nxN_ok {ρ : Env} {n : Nat} {xs : Nat → Nat} (h : Nums ρ n xs) : ∀ {e : Nx}, nxOk n e = true → e.ev ρ = some (nxN xs e : Int)
  | .lin l, hl => linN_ok h hl
  | .op o k a b, hl => by
    have hl' : (uK k && (nxOk n a && nxOk n b)) = true := hl
    simp only [Bool.and_eq_true] at hl'
    have e : nxN xs (.op o k a b) = opN o k (nxN xs a) (nxN xs b) := rfl
    simp only [Nx.ev, nxN_ok h hl'.2.1, nxN_ok h hl'.2.2, e, opN_ok hl'.1]
end Go.Z
namespace Go.Z
open Go Go.X
def asNx : SV → Option Nx
  | .e (.c (.int .u64 l)) => some (.lin l)
  | .e (.c (.ix .u64 e)) => some e
  | _ => none
def nxRo (o : NO) (u x : Bool) : Bool := match o with
  | .add | .sub | .mul | .and | .or | .xor | .andNot | .shl | .wrap => u
  | .shr => x
  | .low | .below | .over | .high => true
  | _ => false
noncomputable def nxR (bi : Bi) (e : Nx) : Bool := @Nx.rec (fun _ => Bool) (fun l => match rng bi l with
    | some (lo, hi) => ile 0 lo && ile hi 18446744073709551615
    | none => false)
  (fun o k _ _ x _ => nxRo o (uK k) x) e
def nx1 : Nx → Bool
  | .lin (.k (.ofNat 0)) => true
  | .lin (.k (.ofNat 1)) => true
  | .op .below _ _ _ => true
  | .op .over _ _ _ => true
  | _ => false
section
variable {ρ : Env} {bi : Bi}
theorem asNx_ok {x : SV} {e : Nx} {v : Value} (h : asNx x = some e) (hv : x.ev ρ = some v) : ∃ n, e.ev ρ = some n ∧ v = .int .u64 n := by
  unfold asNx at h
  split at h
  · cases h
    simp only [SV.ev, EV.ev, SC.ev] at hv
    obtain ⟨n, hn, rfl⟩ := Option.map_eq_some_iff.1 hv
    exact ⟨n, hn, rfl⟩
  · cases h
    simp only [SV.ev, EV.ev, SC.ev] at hv
    obtain ⟨n, hn, rfl⟩ := Option.map_eq_some_iff.1 hv
    exact ⟨n, hn, rfl⟩
  · cases h
theorem wrapR {k : IntKind} (h : uK k = true) (n : Int) : 0 ≤ k.wrap n ∧ k.wrap n ≤ 18446744073709551615 := by
  rw [wrapU h]
  have hp : 0 < (mK k : Int) ∧ (mK k : Int) ≤ 18446744073709551616 := by cases k <;> decide
  have h1 := Int.emod_nonneg n (show (mK k : Int) ≠ 0 by omega)
  have h2 := Int.emod_lt_of_pos n hp.1
  omega
theorem nxR_ok (hb : Bok ρ bi) : ∀ {e : Nx} {n : Int}, nxR bi e = true → e.ev ρ = some n → 0 ≤ n ∧ n ≤ 18446744073709551615
  | .lin l, n, h, he => by
    have h' : (match rng bi l with
      | some (lo, hi) => ile 0 lo && ile hi 18446744073709551615
      | none => false) = true := h
    split at h'
    · next lo hi hr =>
      obtain ⟨x, hx, h1, h2⟩ := rng_ok hb hr
      simp only [Bool.and_eq_true] at h'
      have h3 := ile_true h'.1
      have h4 := ile_true h'.2
      have : l.ev ρ = some n := he
      rw [hx] at this
      cases this
      omega
    · cases h'
  | .op o k a b, n, h, he => by
    have h' : nxRo o (uK k) (nxR bi a) = true := h
    unfold nxRo at h'
    clear h
    simp only [Nx.ev] at he
    split at he
    · next x y hx hy =>
      cases he
      split at h'
      iterate 9 · exact wrapR h' _
      · obtain ⟨h1, h2⟩ := nxR_ok hb h' hx
        show 0 ≤ X.shr k x y ∧ X.shr k x y ≤ 18446744073709551615
        unfold X.shr
        have hp : (0 : Int) < 2 ^ min y.toNat k.bits := by exact_mod_cast Nat.two_pow_pos _
        rw [Int.fdiv_eq_ediv_of_nonneg _ (Int.le_of_lt hp)]
        refine ⟨Int.ediv_nonneg h1 (Int.le_of_lt hp), Int.le_trans (Int.ediv_le_self _ h1) h2⟩
      · show 0 ≤ Int.ofNat (x.toNat % 18446744073709551616) ∧ Int.ofNat (x.toNat % 18446744073709551616) ≤ 18446744073709551615
        simp only [Int.ofNat_eq_natCast]; omega
      · show 0 ≤ Int.ofNat (bif Nat.blt x.toNat y.toNat then 1 else 0) ∧ Int.ofNat (bif Nat.blt x.toNat y.toNat then 1 else 0) ≤ 18446744073709551615
        cases Nat.blt x.toNat y.toNat <;> decide
      · show 0 ≤ Int.ofNat (bif Nat.blt x.toNat 18446744073709551616 then 0 else 1) ∧ Int.ofNat (bif Nat.blt x.toNat 18446744073709551616 then 0 else 1) ≤ 18446744073709551615
        cases Nat.blt x.toNat 18446744073709551616 <;> decide
      · show 0 ≤ Int.ofNat (x.toNat / 18446744073709551616 % 18446744073709551616) ∧ Int.ofNat (x.toNat / 18446744073709551616 % 18446744073709551616) ≤ 18446744073709551615
        simp only [Int.ofNat_eq_natCast]; omega
      · cases h'
    · cases he
theorem nx1_ok {e : Nx} {n : Int} (h : nx1 e = true) (he : e.ev ρ = some n) : n = 0 ∨ n = 1 := by
  unfold nx1 at h
  split at h
  · cases he; exact .inl rfl
  · cases he; exact .inr rfl
  · next k a b =>
    simp only [Nx.ev] at he
    split at he
    · next x y hx hy =>
      cases he
      show Int.ofNat (bif Nat.blt x.toNat y.toNat then 1 else 0) = 0 ∨ Int.ofNat (bif Nat.blt x.toNat y.toNat then 1 else 0) = 1
      cases Nat.blt x.toNat y.toNat <;> decide
    · cases he
  · next k a b =>
    simp only [Nx.ev] at he
    split at he
    · next x y hx hy =>
      cases he
      show Int.ofNat (bif Nat.blt x.toNat 18446744073709551616 then 0 else 1) = 0 ∨ Int.ofNat (bif Nat.blt x.toNat 18446744073709551616 then 0 else 1) = 1
      cases Nat.blt x.toNat 18446744073709551616 <;> decide
    · cases he
  · cases h
end
def nxSV (e : Nx) : EV := .c (.ix .u64 e)
noncomputable def pAdd (args : List SV) (g : G) : Option (SV × G) :=
  match args with
  | [x, y, c] => match asNx x, asNx y, asNx c with
    | some a, some b, some d => bif nxR g.e.bi a && (nxR g.e.bi b && nx1 d) then some (.tup [nxSV (.op .low .u64 (.op .sum .u64 (.op .sum .u64 a b) d) (.lin (.k 0))), nxSV (.op .over .u64 (.op .sum .u64 (.op .sum .u64 a b) d) (.lin (.k 0)))], g) else none
    | _, _, _ => none
  | _ => none
noncomputable def pSub (args : List SV) (g : G) : Option (SV × G) :=
  match args with
  | [x, y, c] => match asNx x, asNx y, asNx c with
    | some a, some b, some d => bif nxR g.e.bi a && (nxR g.e.bi b && nx1 d) then some (.tup [nxSV (.op .low .u64 (.op .less .u64 a (.op .sum .u64 b d)) (.lin (.k 0))), nxSV (.op .below .u64 a (.op .sum .u64 b d))], g) else none
    | _, _, _ => none
  | _ => none
noncomputable def pMul (args : List SV) (g : G) : Option (SV × G) :=
  match args with
  | [x, y] => match asNx x, asNx y with
    | some a, some b => bif nxR g.e.bi a && nxR g.e.bi b then some (.tup [nxSV (.op .high .u64 (.op .prod .u64 a b) (.lin (.k 0))), nxSV (.op .low .u64 (.op .prod .u64 a b) (.lin (.k 0)))], g) else none
    | _, _ => none
  | _ => none
section
variable {P : Program} {I : In} {w0 w : World} {ρ : Env} {g : G}
theorem natR {n : Int} (h : 0 ≤ n ∧ n ≤ 18446744073709551615) : ∃ m : Nat, n = m ∧ m < 18446744073709551616 := ⟨n.toNat, by omega, by omega⟩
theorem nx_op {o : NO} {k : IntKind} {a b : Nx} {x y : Int} (ha : a.ev ρ = some x) (hb : b.ev ρ = some y) : (Nx.op o k a b).ev ρ = some (nxOp o k x y) := by simp only [Nx.ev, ha, hb]
theorem ix2_ok {e d : Nx} {x y : Int} (he : e.ev ρ = some x) (hd : d.ev ρ = some y) : (SV.tup [nxSV e, nxSV d]).ev ρ = some (.tuple #[.int .u64 x, .int .u64 y]) := by
  simp only [SV.ev, evEs, nxSV, EV.ev, SC.ev, he, hd, Option.map_some]
theorem vs3 {x y c : SV} {vs : List Value} (h : evVs ρ [x, y, c] = some vs) : ∃ u v z, x.ev ρ = some u ∧ y.ev ρ = some v ∧ c.ev ρ = some z ∧ vs = [u, v, z] := by
  simp only [evVs] at h
  cases hx : x.ev ρ <;> cases hy : y.ev ρ <;> cases hc : c.ev ρ <;> simp [hx, hy, hc] at h
  exact ⟨_, _, _, rfl, rfl, rfl, h.symm⟩
theorem vs2 {x y : SV} {vs : List Value} (h : evVs ρ [x, y] = some vs) : ∃ u v, x.ev ρ = some u ∧ y.ev ρ = some v ∧ vs = [u, v] := by
  simp only [evVs] at h
  cases hx : x.ev ρ <;> cases hy : y.ev ρ <;> simp [hx, hy] at h
  exact ⟨_, _, rfl, rfl, h.symm⟩
def PrimOk (P : Program) (I : In) (w0 : World) (f : FuncId) (p : List SV → G → Option (SV × G)) : Prop :=
  ∀ args g r g', p args g = some (r, g') → ∀ ρ vs w, evVs ρ args = some vs → Gok I w0 ρ g w → Ent P I w0 ρ f vs w r g'
theorem pAdd_ok {f : FuncId} (hf : ∀ (x y c : Nat), c ≤ 1 → ∀ w, (callFunc f #[.int .u64 x, .int .u64 y, .int .u64 c]).run P w = .ok (.value (.tuple #[.int .u64 (((x + y + c) % 18446744073709551616 : Nat) : Int), .int .u64 (((x + y + c) / 18446744073709551616 : Nat) : Int)])) w) : PrimOk P I w0 f pAdd := by
  intro args g r g' h ρ vs w hvs hg
  unfold pAdd at h
  split at h
  · next x y c =>
    split at h
    · next a b d ha hb hd =>
      cases hc : (nxR g.e.bi a && (nxR g.e.bi b && nx1 d)) with
      | false => rw [hc, cond_false] at h; cases h
      | true =>
        rw [hc, cond_true] at h
        cases h
        simp only [Bool.and_eq_true] at hc
        obtain ⟨u, v, z, hu, hv, hz, rfl⟩ := vs3 hvs
        obtain ⟨n1, h1, rfl⟩ := asNx_ok ha hu
        obtain ⟨n2, h2, rfl⟩ := asNx_ok hb hv
        obtain ⟨n3, h3, rfl⟩ := asNx_ok hd hz
        obtain ⟨m1, rfl, l1⟩ := natR (nxR_ok hg.env.bok hc.1 h1)
        obtain ⟨m2, rfl, l2⟩ := natR (nxR_ok hg.env.bok hc.2.1 h2)
        obtain ⟨m3, rfl, l3⟩ : ∃ m : Nat, n3 = m ∧ m ≤ 1 := by rcases nx1_ok hc.2.2 h3 with rfl | rfl; exact ⟨0, rfl, by omega⟩; exact ⟨1, rfl, by omega⟩
        refine .inr ⟨_, hf m1 m2 m3 l3 w, ?_, hg⟩
        have hz0 : (Nx.lin (.k 0)).ev ρ = some 0 := rfl
        have hs : (Nx.op .sum .u64 (.op .sum .u64 a b) d).ev ρ = some ((m1 + m2 + m3 : Nat) : Int) := nx_op (nx_op h1 h2) h3
        have e1 : nxOp .low .u64 ((m1 + m2 + m3 : Nat) : Int) 0 = (((m1 + m2 + m3) % 18446744073709551616 : Nat) : Int) := rfl
        have e2 : nxOp .over .u64 ((m1 + m2 + m3 : Nat) : Int) 0 = (((m1 + m2 + m3) / 18446744073709551616 : Nat) : Int) := by
          show Int.ofNat (bif Nat.blt (m1 + m2 + m3) 18446744073709551616 then 0 else 1) = _
          cases hlt : Nat.blt (m1 + m2 + m3) 18446744073709551616 with
          | true => have := Nat.le_of_ble_eq_true hlt; rw [cond_true, Nat.div_eq_of_lt (by omega)]; rfl
          | false =>
            have : ¬ m1 + m2 + m3 < 18446744073709551616 := fun h => by rw [Nat.blt, Nat.ble_eq_true_of_le h] at hlt; cases hlt
            rw [cond_false, show (m1 + m2 + m3) / 18446744073709551616 = 1 by omega]; rfl
        rw [ix2_ok (nx_op hs hz0) (nx_op hs hz0), e1, e2]
    · cases h
  · cases h
theorem pSub_ok {f : FuncId} (hf : ∀ (x y c : Nat), c ≤ 1 → ∀ w, (callFunc f #[.int .u64 x, .int .u64 y, .int .u64 c]).run P w = .ok (.value (.tuple #[.int .u64 (((x + 18446744073709551616 - y - c) % 18446744073709551616 : Nat) : Int), .int .u64 ((if x < y + c then 1 else 0 : Nat) : Int)])) w) : PrimOk P I w0 f pSub := by
  intro args g r g' h ρ vs w hvs hg
  unfold pSub at h
  split at h
  · next x y c =>
    split at h
    · next a b d ha hb hd =>
      cases hc : (nxR g.e.bi a && (nxR g.e.bi b && nx1 d)) with
      | false => rw [hc, cond_false] at h; cases h
      | true =>
        rw [hc, cond_true] at h
        cases h
        simp only [Bool.and_eq_true] at hc
        obtain ⟨u, v, z, hu, hv, hz, rfl⟩ := vs3 hvs
        obtain ⟨n1, h1, rfl⟩ := asNx_ok ha hu
        obtain ⟨n2, h2, rfl⟩ := asNx_ok hb hv
        obtain ⟨n3, h3, rfl⟩ := asNx_ok hd hz
        obtain ⟨m1, rfl, l1⟩ := natR (nxR_ok hg.env.bok hc.1 h1)
        obtain ⟨m2, rfl, l2⟩ := natR (nxR_ok hg.env.bok hc.2.1 h2)
        obtain ⟨m3, rfl, l3⟩ : ∃ m : Nat, n3 = m ∧ m ≤ 1 := by rcases nx1_ok hc.2.2 h3 with rfl | rfl; exact ⟨0, rfl, by omega⟩; exact ⟨1, rfl, by omega⟩
        refine .inr ⟨_, hf m1 m2 m3 l3 w, ?_, hg⟩
        have hz0 : (Nx.lin (.k 0)).ev ρ = some 0 := rfl
        have hs : (Nx.op .sum .u64 b d).ev ρ = some ((m2 + m3 : Nat) : Int) := nx_op h2 h3
        have e1 : nxOp .low .u64 (nxOp .less .u64 (m1 : Int) ((m2 + m3 : Nat) : Int)) 0 = (((m1 + 18446744073709551616 - m2 - m3) % 18446744073709551616 : Nat) : Int) := by
          show Int.ofNat ((m1 + 18446744073709551616 - (m2 + m3)) % 18446744073709551616) = _
          rw [Nat.sub_add_eq]; rfl
        have e2 : nxOp .below .u64 (m1 : Int) ((m2 + m3 : Nat) : Int) = ((if m1 < m2 + m3 then 1 else 0 : Nat) : Int) := by
          show Int.ofNat (bif Nat.blt m1 (m2 + m3) then 1 else 0) = _
          cases hlt : Nat.blt m1 (m2 + m3) with
          | true => have := Nat.le_of_ble_eq_true hlt; rw [cond_true, if_pos (by omega)]; rfl
          | false =>
            have : ¬ m1 < m2 + m3 := fun h => by rw [Nat.blt, Nat.ble_eq_true_of_le h] at hlt; cases hlt
            rw [cond_false, if_neg this]; rfl
        rw [ix2_ok (nx_op (nx_op h1 hs) hz0) (nx_op h1 hs), e1, e2]
    · cases h
  · cases h
theorem pMul_ok {f : FuncId} (hent : ∀ vs w, (callFunc f vs).run P w = .ok (.enter f vs) w) (hf : ∀ (x y : Nat), x < 18446744073709551616 → y < 18446744073709551616 → ∀ w, Calls P f #[.int .u64 x, .int .u64 y] w fun e w' => e = .returned (.tuple #[.int .u64 ((x * y / 18446744073709551616 : Nat) : Int), .int .u64 ((x * y % 18446744073709551616 : Nat) : Int)]) ∧ w' = w) : PrimOk P I w0 f pMul := by
  intro args g r g' h ρ vs w hvs hg
  unfold pMul at h
  split at h
  · next x y =>
    split at h
    · next a b ha hb =>
      cases hc : (nxR g.e.bi a && nxR g.e.bi b) with
      | false => rw [hc, cond_false] at h; cases h
      | true =>
        rw [hc, cond_true] at h
        cases h
        simp only [Bool.and_eq_true] at hc
        obtain ⟨u, v, hu, hv, rfl⟩ := vs2 hvs
        obtain ⟨n1, h1, rfl⟩ := asNx_ok ha hu
        obtain ⟨n2, h2, rfl⟩ := asNx_ok hb hv
        obtain ⟨m1, rfl, l1⟩ := natR (nxR_ok hg.env.bok hc.1 h1)
        obtain ⟨m2, rfl, l2⟩ := natR (nxR_ok hg.env.bok hc.2 h2)
        refine .inl ⟨fun w => hent _ w, Calls.mono (hf m1 m2 l1 l2 w) ?_⟩
        rintro e w' ⟨rfl, rfl⟩
        have hz0 : (Nx.lin (.k 0)).ev ρ = some 0 := rfl
        have hs : (Nx.op .prod .u64 a b).ev ρ = some ((m1 * m2 : Nat) : Int) := by
          rw [nx_op h1 h2]
          show some ((m1 : Int) * (m2 : Int)) = _
          rw [Int.natCast_mul]
        refine ⟨ρ, _, Env.le.refl ρ, rfl, ?_, hg⟩
        have hlt : m1 * m2 / 18446744073709551616 < 18446744073709551616 := Nat.div_lt_of_lt_mul (Nat.mul_lt_mul'' l1 l2)
        have e1 : nxOp .high .u64 ((m1 * m2 : Nat) : Int) 0 = ((m1 * m2 / 18446744073709551616 : Nat) : Int) := by
          show Int.ofNat (m1 * m2 / 18446744073709551616 % 18446744073709551616) = _
          rw [Nat.mod_eq_of_lt hlt]; rfl
        have e2 : nxOp .low .u64 ((m1 * m2 : Nat) : Int) 0 = ((m1 * m2 % 18446744073709551616 : Nat) : Int) := rfl
        rw [ix2_ok (nx_op hs hz0) (nx_op hs hz0), e1, e2]
    · cases h
  · cases h
end
end Go.Z
namespace Go.Z
open Go Go.X
noncomputable def nums (k : IntKind) (n : Nat) : Nat → Cs := nrec (fun _ => []) (fun _ ih o => .one (.int k (.s 0 [(1, o)])) :: ih (Nat.succ o)) n
noncomputable def biN (hi : Int) (m : Nat) : Bi := nrec .e (fun i ih => ih.set i (some (0, hi))) m
noncomputable def symA (k : IntKind) : List (Option Nat) → Nat → List SV
  | [], _ => []
  | none :: r, o => .e (.c (.int k (.s 0 [(1, o)]))) :: symA k r (Nat.succ o)
  | some n :: r, o => .e (.agg (nums k n o)) :: symA k r (Nat.add o n)
def conA (k : IntKind) : List (Option Nat) → List SV → Option (List Int)
  | [], [] => some []
  | none :: r, .e (.c (.int k' (.k x))) :: s => bif kq k k' then (match conA k r s with
    | some l => some (x :: l)
    | none => none) else none
  | some n :: r, .e (.agg cs) :: s => match intsOf k cs, conA k r s with
    | some a, some l => bif Nat.beq (lenN a) n then some (a ++ l) else none
    | _, _ => none
  | _, _ => none
def packN (m : Nat) : List Int → Option Nat
  | [] => some 0
  | .ofNat x :: r => bif Nat.blt x m then (match packN m r with
    | some n => some (Nat.add x (Nat.mul m n))
    | none => none) else none
  | _ :: _ => none
def dig (w n i : Nat) : Nat := Nat.mod (Nat.shiftRight n (Nat.mul w i)) (Nat.pow 2 w)
theorem dig_zero (w x n : Nat) (h : x < 2 ^ w) : dig w (x + 2 ^ w * n) 0 = x := by
  show (x + 2 ^ w * n) >>> (w * 0) % 2 ^ w = x
  rw [Nat.mul_zero, Nat.shiftRight_zero, Nat.add_mul_mod_self_left, Nat.mod_eq_of_lt h]
theorem dig_succ (w x n i : Nat) (h : x < 2 ^ w) : dig w (x + 2 ^ w * n) (i + 1) = dig w n i := by
  show (x + 2 ^ w * n) >>> (w * (i + 1)) % 2 ^ w = n >>> (w * i) % 2 ^ w
  rw [Nat.mul_add, Nat.mul_one, Nat.add_comm (w * i) w, Nat.shiftRight_add, Nat.shiftRight_eq_div_pow (x + 2 ^ w * n) w, Nat.add_mul_div_left _ _ (Nat.two_pow_pos w), Nat.div_eq_of_lt h, Nat.zero_add]
theorem packN_ok {w : Nat} : ∀ {l : List Int} {n : Nat}, packN (Nat.pow 2 w) l = some n → ∀ i, i < l.length → l[i]? = some ((dig w n i : Nat) : Int) ∧ dig w n i < 2 ^ w
  | [], _, _, i, hi => absurd hi (Nat.not_lt_zero _)
  | .negSucc _ :: _, n, h, _, _ => by simp [packN] at h
  | .ofNat x :: r, n, h, i, hi => by
    simp only [packN] at h
    cases hb : Nat.blt x (Nat.pow 2 w) with
    | false => rw [hb, cond_false] at h; cases h
    | true =>
      rw [hb, cond_true] at h
      have hx : x < 2 ^ w := blt_iff.1 hb
      split at h
      · next m hm =>
        cases h
        have e : Nat.add x (Nat.mul (Nat.pow 2 w) m) = x + 2 ^ w * m := rfl
        rw [e]
        cases i with
        | zero => rw [dig_zero w x m hx]; exact ⟨rfl, hx⟩
        | succ i =>
          rw [dig_succ w x m i hx]
          have := packN_ok hm i (by simpa using hi)
          simpa using this
      · cases h
def nxOf (k : IntKind) : Cs → Option (List Nx)
  | [] => some []
  | .one (.ix k' e) :: r => bif kq k k' then (match nxOf k r with
    | some l => some (e :: l)
    | none => none) else none
  | .one (.int k' e) :: r => bif kq k k' then (match nxOf k r with
    | some l => some (.lin e :: l)
    | none => none) else none
  | _ :: _ => none
noncomputable def glT : List (Nat × List SC) → Hp
  | [] => .e
  | (g, cs) :: r => (glT r).set g (some (.glb g (ones cs)))
def glLt : List (Nat × List SC) → Bool
  | [] => true
  | (g, _) :: r => Nat.blt g 13 && glLt r
noncomputable def gC (gl : List (Nat × List SC)) (n : Nat) (hi : Int) : G := ⟨glT gl, 13, [], ⟨biN hi n, n, .e, 0, .e, 0⟩⟩
def lenA : List (Option Nat) → Nat
  | [] => 0
  | none :: r => Nat.succ (lenA r)
  | some n :: r => Nat.add n (lenA r)
noncomputable def resC (P : Program) (C : Cf) (fuel f : Nat) (k : IntKind) (sh : List (Option Nat)) (gl : List (Nat × List SC)) (k' : IntKind) : Option (List Nx) :=
  bif glLt gl && uK k then (match callF P C (exec P C fuel) f (symA k sh 0) (gC gl (lenA sh) (Int.sub (.ofNat (mK k)) 1)) with
  | some (.e (.agg cs), _) => match nxOf k' cs with
    | some m => bif m.all (nxOk (lenA sh)) then some m else none
    | none => none
  | _ => none) else none
noncomputable def glOk (H : Hp) : List (Nat × List SC) → Bool
  | [] => true
  | (g, cs) :: r => (match H.get g with
    | some (.glb g' cs') => Nat.beq g g' && Cs.beq cs' (ones cs)
    | _ => false) && glOk H r
def glCl : List (Nat × List SC) → Bool
  | [] => true
  | (_, cs) :: r => (match allI .u64 cs with
    | some _ => true
    | none => false) && glCl r
noncomputable def outN (k : IntKind) (xs : Nat → Nat) (m : List Nx) : Cs := lrec [] (fun e _ ih => nF (nxN xs e) fun v => .one (.int k (.k (.ofNat v))) :: ih) m
noncomputable def pNx (k : IntKind) (sh : List (Option Nat)) (gl : List (Nat × List SC)) (k' : IntKind) (m : Option (List Nx)) (args : List SV) (g : G) : Option (SV × G) :=
  match conA k sh args with
  | some l => match packN (Nat.pow 2 (bK k)) l, m with
    | some N, some m => bif glOk g.H gl && glCl gl then (nF N fun N => some (.e (.agg (outN k' (dig (bK k) N) m)), g)) else none
    | _, _ => none
  | none => none
section
variable {P : Program} {I : In} {w0 w : World} {ρ ρ0 : Env} {g : G} {C : Cf}
theorem nums_ok {k : IntKind} : ∀ {l : List Int} {o : Nat}, (∀ i x, l[i]? = some x → ρ0.i (o + i) = some x) → Cs.ev ρ0 (nums k l.length o) = some (ints k l)
  | [], o, _ => rfl
  | x :: l, o, h => by
    have e : nums k (x :: l).length o = .one (.int k (.s 0 [(1, o)])) :: nums k l.length (Nat.succ o) := rfl
    have h0 := h 0 x rfl
    rw [Nat.add_zero] at h0
    have h1 : Cs.ev ρ0 (nums k l.length (Nat.succ o)) = some (ints k l) := nums_ok fun i y hy => by
      have := h (i + 1) y (by simpa using hy)
      rwa [show o + (i + 1) = Nat.succ o + i by omega] at this
    rw [e]
    simp only [Cs.ev, Seg.ev, SC.ev, Lin.ev, evTs, h0, h1, Option.map_some]
    simp [ints]
theorem con_sym {k : IntKind} : ∀ {sh : List (Option Nat)} {s : List SV} {l : List Int} {vs : List Value} {o : Nat}, conA k sh s = some l → evVs ρ s = some vs → (∀ i x, l[i]? = some x → ρ0.i (o + i) = some x) → evVs ρ0 (symA k sh o) = some vs ∧ l.length = lenA sh
  | [], [], l, vs, o, hc, hv, _ => by cases hc; exact ⟨hv, rfl⟩
  | [], _ :: _, l, vs, o, hc, hv, _ => by simp [conA] at hc
  | none :: r, x :: s, l, vs, o, hc, hv, h => by
    unfold conA at hc
    split at hc
    · next heq _ => cases heq
    · next r' k' y s' he1 he2 =>
      cases he1; cases he2
      cases hk : kq k k' with
      | false => rw [hk, cond_false] at hc; cases hc
      | true =>
        rw [hk, cond_true] at hc
        have := kq_ok hk
        subst this
        split at hc
        · next l' hl' =>
          cases hc
          simp only [evVs] at hv
          split at hv
          · next v vs' hx hvs =>
            cases hv
            cases hx
            obtain ⟨h1, h2⟩ := con_sym (o := Nat.succ o) hl' hvs fun i z hz => by
              have := h (i + 1) z (by simpa using hz)
              rwa [show o + (i + 1) = Nat.succ o + i by omega] at this
            have h0 := h 0 y rfl
            rw [Nat.add_zero] at h0
            refine ⟨?_, by simp [lenA, h2]⟩
            simp only [symA, evVs, SV.ev, EV.ev, SC.ev, Lin.ev, evTs, h0, Option.map_some, h1]
            simp
          · cases hv
        · cases hc
    · next he _ => cases he
    · cases hc
  | some n :: r, x :: s, l, vs, o, hc, hv, h => by
    unfold conA at hc
    split at hc
    · next heq _ => cases heq
    · next he _ => cases he
    · next n' r' cs s' he1 he2 =>
      cases he1; cases he2
      split at hc
      · next a l' ha hl' =>
        cases hb : Nat.beq (lenN a) n with
        | false => rw [hb, cond_false] at hc; cases hc
        | true =>
          rw [hb, cond_true] at hc
          cases hc
          have hn := Nat.eq_of_beq_eq_true hb
          rw [lenN_eq] at hn
          subst hn
          simp only [evVs] at hv
          split at hv
          · next v vs' hx hvs =>
            cases hv
            simp only [SV.ev, EV.ev, intsOf_ok ha, Option.map_some] at hx
            cases hx
            obtain ⟨h1, h2⟩ := con_sym (o := Nat.add o a.length) hl' hvs fun i z hz => by
              have := h (a.length + i) z (by rw [List.getElem?_append_right (by omega)]; simpa using hz)
              rwa [show o + (a.length + i) = Nat.add o a.length + i from (Nat.add_assoc _ _ _).symm] at this
            have h0 : Cs.ev ρ0 (nums k a.length o) = some (ints k a) := nums_ok fun i z hz => h i z (by
              have hi : i < a.length := (List.getElem?_eq_some_iff.1 hz).1
              rw [List.getElem?_append_left hi]; exact hz)
            refine ⟨?_, by show (a ++ l').length = a.length + lenA r; rw [List.length_append, h2]⟩
            simp only [symA, evVs, SV.ev, EV.ev, h0, Option.map_some, h1]
          · cases hv
      · cases hc
    · cases hc
  | none :: _, [], l, vs, o, hc, _, _ => by simp [conA] at hc
  | some _ :: _, [], l, vs, o, hc, _, _ => by simp [conA] at hc
theorem nxOf_ok {k : IntKind} {n : Nat} {xs : Nat → Nat} (h : Nums ρ n xs) : ∀ {cs : Cs} {m : List Nx}, nxOf k cs = some m → m.all (nxOk n) = true → Cs.ev ρ cs = some (m.map fun e => .int k (nxN xs e : Int))
  | [], m, hc, _ => by simp only [nxOf] at hc; cases hc; rfl
  | s :: r, m, hc, ha => by
    unfold nxOf at hc
    split at hc
    · next heq => cases heq
    · next k' e r' heq =>
      cases heq
      cases hk : kq k k' with
      | false => rw [hk, cond_false] at hc; cases hc
      | true =>
        rw [hk, cond_true] at hc
        have := kq_ok hk
        subst this
        split at hc
        · next l hl =>
          cases hc
          simp only [List.all_cons, Bool.and_eq_true] at ha
          simp only [Cs.ev, Seg.ev, SC.ev, nxN_ok h ha.1, nxOf_ok h hl ha.2, Option.map_some, List.map_cons]
          simp
        · cases hc
    · next k' e r' heq =>
      cases heq
      cases hk : kq k k' with
      | false => rw [hk, cond_false] at hc; cases hc
      | true =>
        rw [hk, cond_true] at hc
        have := kq_ok hk
        subst this
        split at hc
        · next l hl =>
          cases hc
          simp only [List.all_cons, Bool.and_eq_true] at ha
          have h1 : e.ev ρ = some (nxN xs (.lin e) : Int) := nxN_ok (e := .lin e) h ha.1
          simp only [Cs.ev, Seg.ev, SC.ev, h1, nxOf_ok h hl ha.2, Option.map_some, List.map_cons]
          simp
        · cases hc
    · cases hc
theorem outN_ok {k : IntKind} {xs : Nat → Nat} : ∀ (m : List Nx), Cs.ev ρ (outN k xs m) = some (m.map fun e => .int k (nxN xs e : Int))
  | [] => rfl
  | e :: m => by
    have h : outN k xs (e :: m) = nF (nxN xs e) fun v => .one (.int k (.k (.ofNat v))) :: outN k xs m := rfl
    rw [h, nF_eq]
    simp only [Cs.ev, Seg.ev, SC.ev, Lin.ev, Option.map_some, outN_ok m, List.map_cons]
    simp
theorem biN_get {hi : Int} : ∀ {m i : Nat} {p : Int × Int}, (biN hi m).get i = some p → i < m ∧ p = (0, hi)
  | 0, i, p, h => by
    have e : biN hi 0 = .e := rfl
    rw [e, T.get_e] at h
    cases h
  | m + 1, i, p, h => by
    have e : biN hi (m + 1) = (biN hi m).set m (some (0, hi)) := rfl
    rw [e, T.get_set] at h
    by_cases hm : m = i
    · subst hm; rw [if_pos rfl] at h; cases h; exact ⟨Nat.lt_succ_self _, rfl⟩
    · rw [if_neg hm] at h
      obtain ⟨h1, h2⟩ := biN_get h
      exact ⟨by omega, h2⟩
theorem glT_get : ∀ {gl : List (Nat × List SC)} {i : Nat} {hb : HB}, (glT gl).get i = some hb → ∃ cs, (i, cs) ∈ gl ∧ hb = .glb i (ones cs)
  | [], i, hb, h => by simp [glT, T.get_e] at h
  | (g, cs) :: r, i, hb, h => by
    simp only [glT] at h
    rw [T.get_set] at h
    by_cases hg : g = i
    · subst hg; rw [if_pos rfl] at h; cases h; exact ⟨cs, List.mem_cons_self, rfl⟩
    · rw [if_neg hg] at h
      obtain ⟨c, h1, h2⟩ := glT_get h
      exact ⟨c, List.mem_cons_of_mem _ h1, h2⟩
theorem glLt_ok : ∀ {gl : List (Nat × List SC)}, glLt gl = true → ∀ p ∈ gl, p.1 < 13
  | (g, cs) :: r, h, p, hp => by
    simp only [glLt, Bool.and_eq_true] at h
    rcases List.mem_cons.1 hp with rfl | hp
    · exact blt_iff.1 h.1
    · exact glLt_ok h.2 p hp
theorem glOk_ok {H : Hp} : ∀ {gl : List (Nat × List SC)}, glOk H gl = true → ∀ p ∈ gl, H.get p.1 = some (.glb p.1 (ones p.2))
  | (g, cs) :: r, h, p, hp => by
    simp only [glOk, Bool.and_eq_true] at h
    rcases List.mem_cons.1 hp with rfl | hp
    · have h1 := h.1
      split at h1
      · next g' cs' hg =>
        simp only [Bool.and_eq_true] at h1
        have := nat_ok h1.1
        subst this
        rw [hg, Cs.beq_ok h1.2]
      · cases h1
    · exact glOk_ok h.2 p hp
theorem glCl_ok : ∀ {gl : List (Nat × List SC)}, glCl gl = true → ∀ p ∈ gl, ∃ vs, ∀ ρ : Env, Cs.ev ρ (ones p.2) = some vs
  | (g, cs) :: r, h, p, hp => by
    simp only [glCl, Bool.and_eq_true] at h
    rcases List.mem_cons.1 hp with rfl | hp
    · have h1 := h.1
      split at h1
      · next l hl => exact ⟨_, fun ρ => ev_ones (allI_ok hl)⟩
      · cases h1
    · exact glCl_ok h.2 p hp
def rhoC (n : Nat) (xs : Nat → Nat) : Env := ⟨fun g => if g < 13 then some ⟨g, 0, none⟩ else none, fun i => if i < n then some (xs i : Int) else none, fun _ => none, fun _ => none, fun _ => none⟩
theorem gokC {gl : List (Nat × List SC)} {n : Nat} {hi : Int} {xs : Nat → Nat} (hlt : glLt gl = true) (hx : ∀ i, i < n → (xs i : Int) ≤ hi) (hgl : ∀ p ∈ gl, p.1 < w.heap.size ∧ ∃ vs, Cs.ev (rhoC n xs) (ones p.2) = some vs ∧ ∀ j v, vs[j]? = some v → w.cell? ((⟨p.1, 0, none⟩ : Addr).add j) = some v) : Gok I w (rhoC n xs) (gC gl n hi) w where
  mem := {
    kept := Kept.refl [] w
    has := fun i hb hg => by
      obtain ⟨cs, h1, rfl⟩ := glT_get hg
      obtain ⟨h2, vs, h3, h4⟩ := hgl _ h1
      exact ⟨⟨i, 0, none⟩, by simp [rhoC, glLt_ok hlt _ h1], rfl, h2, vs, h3, h4⟩
    apart := fun i j hi hj ai aj hgi _ _ hown _ _ => by
      obtain ⟨cs, _, rfl⟩ := glT_get hgi
      cases hown
    mine := fun i hi ai hgi hown _ => by
      obtain ⟨cs, _, rfl⟩ := glT_get hgi
      cases hown }
  fb := fun i hi => by
    have : 13 ≤ i := hi
    simp only [rhoC]
    rw [if_neg (by omega)]
  fr := fun i hi => by cases hi
  env := {
    bok := fun i lo hi' hb => by
      obtain ⟨h1, h2⟩ := biN_get hb
      cases h2
      exact ⟨xs i, by simp [rhoC, h1], by omega, hx i h1⟩
    fi := fun i hi => by
      have : n ≤ i := hi
      simp only [rhoC]
      rw [if_neg (by omega)]
    lok := fun i x h => by simp [gC, T.get_e] at h
    fl := fun i _ => rfl
    sok := fun i x h => by simp [gC, T.get_e] at h
    fs := fun i _ => rfl }
theorem Gok.kept (h : Gok I w0 ρ g w) {w' : World} (hk : Kept [] w w') : Gok I w0 ρ g w' := ⟨h.mem.same (Env.le.refl ρ) hk, h.fb, h.fr, h.env⟩
theorem pNx_ok (hC : ∀ w, CfOk P I w C) {fuel f : Nat} {k k' : IntKind} {sh : List (Option Nat)} {gl : List (Nat × List SC)} : PrimOk P I w0 f (pNx k sh gl k' (resC P C fuel f k sh gl k')) := by
  intro args g r g' h ρ vs w hvs hg
  unfold pNx at h
  split at h
  · next l hl =>
    split at h
    · next N m hN hm =>
      cases hb : (glOk g.H gl && glCl gl) with
      | false => rw [hb, cond_false] at h; cases h
      | true =>
        rw [hb, cond_true, nF_eq] at h
        cases h
        simp only [Bool.and_eq_true] at hb
        have hd := packN_ok hN
        unfold resC at hm
        cases hu : (glLt gl && uK k) with
        | false => rw [hu, cond_false] at hm; cases hm
        | true =>
          rw [hu, cond_true] at hm
          simp only [Bool.and_eq_true] at hu
          split at hm
          · next cs g1 hrun =>
            split at hm
            · next m' hcs =>
              cases hall : m'.all (nxOk (lenA sh)) with
              | false => rw [hall, cond_false] at hm; cases hm
              | true =>
                rw [hall, cond_true] at hm
                cases hm
                have hlen : l.length = lenA sh := (con_sym (ρ0 := ⟨fun _ => none, fun i => l[i]?, fun _ => none, fun _ => none, fun _ => none⟩) (o := 0) hl hvs fun i x hx => by rw [Nat.zero_add]; exact hx).2
                have hxs : ∀ i x, l[i]? = some x → (rhoC (lenA sh) (dig (bK k) N)).i (0 + i) = some x := fun i x hx => by
                  have hi : i < l.length := (List.getElem?_eq_some_iff.1 hx).1
                  rw [(hd i hi).1] at hx
                  cases hx
                  simp only [rhoC, Nat.zero_add]
                  rw [if_pos (by omega)]
                have hsym := (con_sym (ρ0 := rhoC (lenA sh) (dig (bK k) N)) (o := 0) hl hvs hxs).1
                have hmk : mK k = 2 ^ bK k := by rw [mK_pow hu.2, bK_bits hu.2]
                have hg0 : Gok I w (rhoC (lenA sh) (dig (bK k) N)) (gC gl (lenA sh) (Int.sub (.ofNat (mK k)) 1)) w := gokC hu.1 (fun i hi => by
                    have := (hd i (by omega)).2
                    show _ ≤ (mK k : Int) - 1
                    omega) fun p hp => by
                  obtain ⟨ad, had, hok⟩ := hg.mem.has _ _ (glOk_ok hb.1 p hp)
                  obtain ⟨rfl, h1, vs', h2, h3⟩ := hok
                  obtain ⟨vs2, h4⟩ := glCl_ok hb.2 p hp
                  rw [h4] at h2
                  cases h2
                  exact ⟨h1, _, h4 _, h3⟩
                have hent := callF_ok (hC w) (fun f n c L g xt L' g' hx hc => exec_ok (hC w) fuel fuel (Nat.le_refl _) f n c L g xt L' g' hx hc) f _ _ _ _ hrun _ vs w hsym hg0
                have hback : ∀ ρ' v w', (rhoC (lenA sh) (dig (bK k) N)).le ρ' → (SV.e (.agg cs)).ev ρ' = some v → Gok I w ρ' g1 w' → (SV.e (.agg (outN k' (dig (bK k) N) m))).ev ρ = some v ∧ Gok I w0 ρ g w' := fun ρ' v w' hle hv hg1 => by
                  have hn : Nums ρ' (lenA sh) (dig (bK k) N) := fun i hi => hle.i i _ (by simp [rhoC, hi])
                  simp only [SV.ev, EV.ev, nxOf_ok hn hcs hall, Option.map_some] at hv
                  cases hv
                  refine ⟨?_, hg.kept hg1.mem.kept⟩
                  simp only [SV.ev, EV.ev, outN_ok, Option.map_some]
                rcases hent with ⟨h1, h2⟩ | ⟨v, h1, h2, h3⟩
                · refine .inl ⟨h1, Calls.mono h2 ?_⟩
                  rintro e w' ⟨ρ', v, hle, rfl, hv, hg1⟩
                  obtain ⟨h4, h5⟩ := hback ρ' v w' hle hv hg1
                  exact ⟨ρ, v, Env.le.refl ρ, rfl, h4, h5⟩
                · obtain ⟨h4, h5⟩ := hback _ v w (Env.le.refl _) h2 h3
                  exact .inr ⟨v, h1, h4, h5⟩
            · cases hm
          · cases hm
    · cases h
  · cases h
end
end Go.Z
namespace Go.Z
open Go Go.X
noncomputable def allUse (P : Program) (C : Cf) : List Nat → Bool
  | [] => true
  | f :: r => (match P.funcs[f]? with
    | some fn => match fn.body with
      | some c => !(fn.name == "runtime.NumGoroutine") && codeOk C f c
      | none => false
    | none => false) && allUse P C r
theorem allUse_ok {P : Program} {C : Cf} : ∀ {l : List Nat}, allUse P C l = true → ∀ f, memN f l = true → ∀ fn, P.funcs[f]? = some fn → ∀ c, fn.body = some c → Enters P f ∧ codeOk C f c = true
  | q :: r, h, f, hm, fn, hf, c, hc => by
    simp only [allUse, Bool.and_eq_true] at h
    simp only [memN, Bool.or_eq_true] at hm
    by_cases hq : q = f
    · subst hq
      have h1 := h.1
      rw [hf] at h1
      simp only [hc, Bool.and_eq_true, Bool.not_eq_true'] at h1
      exact ⟨enters_of hf h1.1 (by rw [hc]; rfl), h1.2⟩
    · rcases hm with hm | hm
      · exact absurd (nat_ok hm) hq
      · exact allUse_ok h.2 f hm fn hf c hc
  | [], _, _, hm, _, _, _, _ => by cases hm
theorem cfOk_of {P : Program} {I : In} {w0 : World} {C : Cf} {l : List Nat} (hzt : C.zt.Ok P) (hmix : P.follows .mixedOrders = true) (hl : C.use = fun f => memN f l) (hall : allUse P C l = true)
    (hskip : ∀ f, memN f l = true → ∀ fn, P.funcs[f]? = some fn → ∀ c, fn.body = some c → ∀ b ∈ loopsOf c, ∀ sk, C.skip f (headId b) = some sk → SkipOk P I w0 b sk)
    (hprim : ∀ f p, C.prim f = some p → PrimOk P I w0 f p)
    (hdfr : ∀ f k, C.dfr f k = true → Enters P f ∧ ∀ vs : List Value, vs.length = k → ∀ w, CallsD P f vs.toArray .returning w fun e u w' => (∃ v, e = .returned v) ∧ u = .returning ∧ Kept [] w w') : CfOk P I w0 C where
  zt := hzt
  mixed := hmix
  use := fun f hu fn hf c hc => by
    rw [hl] at hu
    obtain ⟨h1, h2⟩ := allUse_ok hall f hu fn hf c hc
    exact ⟨h1, h2, hskip f hu fn hf c hc⟩
  prim := hprim
  dfr := hdfr
end Go.Z
namespace Go.Z
open Go Go.X
section
variable {P : Program} {I : In} {w0 w : World} {ρ ρ0 : Env} {g g0 g1 : G} {C : Cf} {f fuel : Nat}
theorem ent_of_run (hC : CfOk P I w C) {xs : List SV} {vs : List Value} {r0 r : SV} (hrun : callF P C (exec P C fuel) f xs g0 = some (r0, g1)) (hvs : evVs ρ0 xs = some vs) (hg0 : Gok I w ρ0 g0 w) (hg : Gok I w0 ρ g w)
    (hr : ∀ ρ' v, ρ0.le ρ' → r0.ev ρ' = some v → r.ev ρ = some v) : Ent P I w0 ρ f vs w r g := by
  rcases callF_ok hC (fun f n c L g xt L' g' hx hc => exec_ok hC fuel fuel (Nat.le_refl _) f n c L g xt L' g' hx hc) f _ _ _ _ hrun _ vs w hvs hg0 with ⟨h1, h2⟩ | ⟨v, h1, h2, h3⟩
  · refine .inl ⟨h1, Calls.mono h2 ?_⟩
    rintro e w' ⟨ρ', v, hle, rfl, hv, hg1⟩
    exact ⟨ρ, v, Env.le.refl ρ, rfl, hr ρ' v hle hv, hg.kept hg1.mem.kept⟩
  · exact .inr ⟨v, h1, hr ρ0 v (Env.le.refl _) h2, hg.kept h3.mem.kept⟩
end
end Go.Z
