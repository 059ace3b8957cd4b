/-
  The walks of layer 6: the small functions.
-/
import Derived.Test.YtkoomaoelekpaaaDoorH
namespace Go.Proofs.YtkoomaoelekpaaaDoor
open Go Go.X

set_option maxRecDepth 100000 in
theorem rot_spec (x k s : Int) (hs : bits .and .u64 (IntKind.u64.wrap k) 31 = s) (h0 : 0 ≤ s) (h1 : s < 32) (w0 : World) : Does Tryd.prog 60 #[.int .u32 x, .int .i64 k] w0 [] (fun v G => v = .int .u32 (rotl x s) ∧ G = []) := by
  have ht : IntKind.u64.wrap (32 - s) = 32 - s := by simp [IntKind.wrap, IntKind.bits, IntKind.signed]; omega
  refine spec_of 17 Tryd.func60 rfl rfl rfl ?_
  refine W.seq ?_
  refine W.region ?_
  refine T.q (q_assign rfl rfl) (Wt.plain rfl) rfl rfl ?_
  refine T.nil ?_
  refine Ex.next ?_
  refine W.slots (L' := [(0, _), (1, _)]) ⟨rfl, rfl, trivial⟩ ?_
  refine W.seq ?_
  refine W.region ?_
  refine T.q (q_move rfl rfl) (Wt.plain rfl) rfl rfl ?_
  refine T.q (q_conv un3 un63 rfl rfl) (Wt.plain rfl) rfl rfl ?_
  refine T.q (q_int (b := s) (q_and rfl rfl rfl) hs) (Wt.plain rfl) rfl rfl ?_
  refine T.q (q_assign rfl rfl) (Wt.plain rfl) rfl rfl ?_
  refine T.nil ?_
  refine Ex.next ?_
  refine W.slots (L' := [(0, _), (5, _)]) ⟨rfl, rfl, trivial⟩ ?_
  refine W.seq ?_
  refine W.region ?_
  refine T.q (q_move rfl rfl) (Wt.plain rfl) rfl rfl ?_
  refine T.q (q_move rfl rfl) (Wt.plain rfl) rfl rfl ?_
  refine T.q (q_shl rfl rfl rfl (by omega)) (Wt.plain rfl) rfl rfl ?_
  refine T.q (q_move rfl rfl) (Wt.plain rfl) rfl rfl ?_
  refine T.q (q_move rfl rfl) (Wt.plain rfl) rfl rfl ?_
  refine T.q (q_int (b := (32 - s)) (q_sub rfl rfl rfl) ht) (Wt.plain rfl) rfl rfl ?_
  refine T.q (q_shr rfl rfl rfl (by omega)) (Wt.plain rfl) rfl rfl ?_
  refine T.q (q_or rfl rfl rfl) (Wt.plain rfl) rfl rfl ?_
  refine T.q (q_assign rfl rfl) (Wt.plain rfl) rfl rfl ?_
  refine T.nil ?_
  refine Ex.next ?_
  refine W.slots (L' := [(4, _)]) ⟨rfl, trivial⟩ ?_
  refine W.ret ?_
  refine Ex.out1 [] rfl rfl ?_
  exact ⟨rfl, rfl⟩
set_option maxRecDepth 100000 in
theorem ror_spec (x k : Int) (h0 : 0 ≤ k) (h1 : k ≤ 32) (w0 : World) : Does Tryd.prog 61 #[.int .u32 x, .int .i64 k] w0 [] (fun v G => v = .int .u32 (rotl x (32 - k)) ∧ G = []) := by
  refine spec_of 13 Tryd.func61 rfl rfl rfl ?_
  refine W.seq ?_
  refine W.region ?_
  refine T.q (q_assign rfl rfl) (Wt.plain rfl) rfl rfl ?_
  refine T.nil ?_
  refine Ex.next ?_
  refine W.slots (L' := [(0, _), (1, _)]) ⟨rfl, rfl, trivial⟩ ?_
  refine W.seq ?_
  refine W.draw 8 (by kernel_rfl) ?_
  refine D.take 0 rfl (by kernel_rfl) (fun _ h => h) (q_move rfl rfl) (Wt.plain rfl) rfl rfl ?_
  refine D.take 1 rfl (by kernel_rfl) (fun _ h => h) (q_move rfl rfl) (Wt.plain rfl) rfl rfl ?_
  refine D.take 2 rfl (by kernel_rfl) (fun _ h => h) (q_shr rfl rfl rfl (by omega)) (Wt.plain rfl) rfl rfl ?_
  refine D.take 3 rfl (by kernel_rfl) (fun _ h => h) (q_move rfl rfl) (Wt.plain rfl) rfl rfl ?_
  refine D.take 4 rfl (by kernel_rfl) (fun _ h => h) (q_move rfl rfl) (Wt.plain rfl) rfl rfl ?_
  refine D.take 5 rfl (by kernel_rfl) (fun _ h => h) (q_subi rfl rfl rfl (by omega) (by omega)) (Wt.plain rfl) rfl rfl ?_
  refine D.take 6 rfl (by kernel_rfl) (fun _ h => h) (q_shl rfl rfl rfl (by omega)) (Wt.plain rfl) rfl rfl ?_
  refine D.take 7 rfl (by kernel_rfl) (fun _ h => h) (q_int (b := rotl x (32 - k)) (q_or rfl rfl rfl) (ror_rotl x k)) (Wt.plain rfl) rfl rfl ?_
  refine D.one 8 (by kernel_rfl) ?_
  refine Up.q rfl (q_assign rfl rfl) (Wt.plain rfl) rfl rfl (fun h => absurd h (by decide)) ?_
  refine D.done (by kernel_rfl) ?_
  refine Ex.next ?_
  refine W.slots (L' := [(4, _)]) ⟨rfl, trivial⟩ ?_
  refine W.ret ?_
  refine Ex.out1 [] rfl rfl ?_
  exact ⟨rfl, rfl⟩
set_option maxRecDepth 100000 in
theorem mix_spec (v : List Int) (k a b c d : Nat) (ty : TypeId) (x y : Int) (hv : v.length = 16) (ha : a < 16) (hb : b < 16) (hc : c < 16) (hd : d < 16) (w0 : World) (hk : (⟨some k, ints .u32 v, ty, (0, 0)⟩ : Blk).here w0) : Does Tryd.prog 56 #[.pointer (some ⟨k, a, none⟩), .pointer (some ⟨k, b, none⟩), .pointer (some ⟨k, c, none⟩), .pointer (some ⟨k, d, none⟩), .int .u32 x, .int .u32 y] w0 [k] (fun r G => ∃ cs G2, (r = .tuple #[] ∧ cs = ints .u32 (mixS v a b c d x y) ∧ G2 = []) ∧ G = ⟨some k, cs, ty, (0, 0)⟩ :: G2) := by
  refine spec_ofB 88 [⟨some k, ints .u32 v, ty, (0, 0)⟩] (Mem.own1 rfl hk) Tryd.func56 rfl rfl rfl ?_
  refine W.seq ?_
  refine W.draw 9 (by kernel_rfl) ?_
  refine D.take 0 rfl (by kernel_rfl) (fun _ h => h) (q_move rfl rfl) (Wt.plain rfl) rfl rfl ?_
  refine D.take 1 rfl (by kernel_rfl) (fun _ h => h) (q_nil rfl rfl) (Wt.plain rfl) rfl rfl ?_
  refine D.take 2 rfl (by kernel_rfl) (fun _ h => h) (q_loadI ss61 0 rfl rfl rfl (by first | omega | (simp; done) | (simp [-List.getD_eq_getElem?_getD]; omega))) (Wt.plain rfl) rfl rfl ?_
  refine D.take 3 rfl (by kernel_rfl) (fun _ h => h) (q_move rfl rfl) (Wt.plain rfl) rfl rfl ?_
  refine D.take 4 rfl (by kernel_rfl) (fun _ h => h) (q_nil rfl rfl) (Wt.plain rfl) rfl rfl ?_
  refine D.take 5 rfl (by kernel_rfl) (fun _ h => h) (q_loadI ss61 0 rfl rfl rfl (by first | omega | (simp; done) | (simp [-List.getD_eq_getElem?_getD]; omega))) (Wt.plain rfl) rfl rfl ?_
  refine D.take 6 rfl (by kernel_rfl) (fun _ h => h) (q_move rfl rfl) (Wt.plain rfl) rfl rfl ?_
  refine D.take 7 rfl (by kernel_rfl) (fun _ h => h) (q_add rfl rfl rfl) (Wt.plain rfl) rfl rfl ?_
  refine D.take 8 rfl (by kernel_rfl) (fun _ h => h) (q_add rfl rfl rfl) (Wt.plain rfl) rfl rfl ?_
  refine D.one 9 (by kernel_rfl) ?_
  refine Up.q rfl (q_nil rfl rfl) (Wt.plain rfl) rfl rfl (fun h => absurd h (by decide)) ?_
  refine D.one 10 (by kernel_rfl) ?_
  refine Up.eff rfl (e_storeI ss61 0 rfl rfl rfl rfl (by first | omega | (simp; done) | (simp [-List.getD_eq_getElem?_getD]; omega)) rfl) (Wt.plain rfl) ?_
  rintro _ _ ⟨rfl, rfl⟩
  refine ⟨fun h => absurd h (by decide), ?_⟩
  change (_ : List Blk → Prop) [_]
  change (_ : List Blk → Prop) [⟨some k, ints .u32 (add2 v a b x), ty, (0, 0)⟩]
  refine D.done (by kernel_rfl) ?_
  refine Ex.next ?_
  refine W.slots (L' := [(0, _), (1, _), (2, _), (3, _), (5, _)]) ⟨rfl, rfl, rfl, rfl, rfl, trivial⟩ ?_
  refine W.seq ?_
  refine W.draw 9 (by kernel_rfl) ?_
  refine D.take 0 rfl (by kernel_rfl) (fun _ h => h) (q_move rfl rfl) (Wt.plain rfl) rfl rfl ?_
  refine D.take 1 rfl (by kernel_rfl) (fun _ h => h) (q_move rfl rfl) (Wt.plain rfl) rfl rfl ?_
  refine D.take 2 rfl (by kernel_rfl) (fun _ h => h) (q_nil rfl rfl) (Wt.plain rfl) rfl rfl ?_
  refine D.take 3 rfl (by kernel_rfl) (fun _ h => h) (q_loadI ss61 0 rfl rfl rfl (by first | omega | (simp; done) | (simp [-List.getD_eq_getElem?_getD]; omega))) (Wt.plain rfl) rfl rfl ?_
  refine D.take 4 rfl (by kernel_rfl) (fun _ h => h) (q_move rfl rfl) (Wt.plain rfl) rfl rfl ?_
  refine D.take 5 rfl (by kernel_rfl) (fun _ h => h) (q_nil rfl rfl) (Wt.plain rfl) rfl rfl ?_
  refine D.take 6 rfl (by kernel_rfl) (fun _ h => h) (q_loadI ss61 0 rfl rfl rfl (by first | omega | (simp; done) | (simp [-List.getD_eq_getElem?_getD]; omega))) (Wt.plain rfl) rfl rfl ?_
  refine D.take 7 rfl (by kernel_rfl) (fun _ h => h) (q_xor rfl rfl rfl) (Wt.plain rfl) rfl rfl ?_
  refine D.one 8 (by kernel_rfl) ?_
  refine Up.eff rfl (e_call enters60 rfl rfl (fun w hm => rot_spec _ _ 16 (by decide +kernel) (by decide) (by decide) w) rfl rfl) (Wt.plain rfl) ?_
  rintro _ _ ⟨_, _, ⟨rfl, rfl⟩, rfl, rfl⟩
  refine ⟨fun _ => (fun _ h => h), ?_⟩
  change (_ : List Blk → Prop) [_]
  refine D.one 9 (by kernel_rfl) ?_
  refine Up.q rfl (q_nil rfl rfl) (Wt.plain rfl) rfl rfl (fun h => absurd h (by decide)) ?_
  refine D.one 10 (by kernel_rfl) ?_
  refine Up.eff rfl (e_storeI ss61 0 rfl rfl rfl rfl (by first | omega | (simp; done) | (simp [-List.getD_eq_getElem?_getD]; omega)) rfl) (Wt.plain rfl) ?_
  rintro _ _ ⟨rfl, rfl⟩
  refine ⟨fun h => absurd h (by decide), ?_⟩
  change (_ : List Blk → Prop) [_]
  change (_ : List Blk → Prop) [⟨some k, ints .u32 (xrot (add2 v a b x) d a 16), ty, (0, 0)⟩]
  refine D.done (by kernel_rfl) ?_
  refine Ex.next ?_
  refine W.slots (L' := [(0, _), (1, _), (2, _), (3, _), (5, _)]) ⟨rfl, rfl, rfl, rfl, rfl, trivial⟩ ?_
  refine W.seq ?_
  refine W.draw 7 (by kernel_rfl) ?_
  refine D.take 0 rfl (by kernel_rfl) (fun _ h => h) (q_move rfl rfl) (Wt.plain rfl) rfl rfl ?_
  refine D.take 1 rfl (by kernel_rfl) (fun _ h => h) (q_nil rfl rfl) (Wt.plain rfl) rfl rfl ?_
  refine D.take 2 rfl (by kernel_rfl) (fun _ h => h) (q_loadI ss61 0 rfl rfl rfl (by first | omega | (simp; done) | (simp [-List.getD_eq_getElem?_getD]; omega))) (Wt.plain rfl) rfl rfl ?_
  refine D.take 3 rfl (by kernel_rfl) (fun _ h => h) (q_move rfl rfl) (Wt.plain rfl) rfl rfl ?_
  refine D.take 4 rfl (by kernel_rfl) (fun _ h => h) (q_nil rfl rfl) (Wt.plain rfl) rfl rfl ?_
  refine D.take 5 rfl (by kernel_rfl) (fun _ h => h) (q_loadI ss61 0 rfl rfl rfl (by first | omega | (simp; done) | (simp [-List.getD_eq_getElem?_getD]; omega))) (Wt.plain rfl) rfl rfl ?_
  refine D.take 6 rfl (by kernel_rfl) (fun _ h => h) (q_add rfl rfl rfl) (Wt.plain rfl) rfl rfl ?_
  refine D.one 7 (by kernel_rfl) ?_
  refine Up.q rfl (q_nil rfl rfl) (Wt.plain rfl) rfl rfl (fun h => absurd h (by decide)) ?_
  refine D.one 8 (by kernel_rfl) ?_
  refine Up.eff rfl (e_storeI ss61 0 rfl rfl rfl rfl (by first | omega | (simp; done) | (simp [-List.getD_eq_getElem?_getD]; omega)) rfl) (Wt.plain rfl) ?_
  rintro _ _ ⟨rfl, rfl⟩
  refine ⟨fun h => absurd h (by decide), ?_⟩
  change (_ : List Blk → Prop) [_]
  change (_ : List Blk → Prop) [⟨some k, ints .u32 (add1 (xrot (add2 v a b x) d a 16) c d), ty, (0, 0)⟩]
  refine D.done (by kernel_rfl) ?_
  refine Ex.next ?_
  refine W.slots (L' := [(0, _), (1, _), (2, _), (3, _), (5, _)]) ⟨rfl, rfl, rfl, rfl, rfl, trivial⟩ ?_
  refine W.seq ?_
  refine W.draw 9 (by kernel_rfl) ?_
  refine D.take 0 rfl (by kernel_rfl) (fun _ h => h) (q_move rfl rfl) (Wt.plain rfl) rfl rfl ?_
  refine D.take 1 rfl (by kernel_rfl) (fun _ h => h) (q_move rfl rfl) (Wt.plain rfl) rfl rfl ?_
  refine D.take 2 rfl (by kernel_rfl) (fun _ h => h) (q_nil rfl rfl) (Wt.plain rfl) rfl rfl ?_
  refine D.take 3 rfl (by kernel_rfl) (fun _ h => h) (q_loadI ss61 0 rfl rfl rfl (by first | omega | (simp; done) | (simp [-List.getD_eq_getElem?_getD]; omega))) (Wt.plain rfl) rfl rfl ?_
  refine D.take 4 rfl (by kernel_rfl) (fun _ h => h) (q_move rfl rfl) (Wt.plain rfl) rfl rfl ?_
  refine D.take 5 rfl (by kernel_rfl) (fun _ h => h) (q_nil rfl rfl) (Wt.plain rfl) rfl rfl ?_
  refine D.take 6 rfl (by kernel_rfl) (fun _ h => h) (q_loadI ss61 0 rfl rfl rfl (by first | omega | (simp; done) | (simp [-List.getD_eq_getElem?_getD]; omega))) (Wt.plain rfl) rfl rfl ?_
  refine D.take 7 rfl (by kernel_rfl) (fun _ h => h) (q_xor rfl rfl rfl) (Wt.plain rfl) rfl rfl ?_
  refine D.one 8 (by kernel_rfl) ?_
  refine Up.eff rfl (e_call enters60 rfl rfl (fun w hm => rot_spec _ _ 20 (by decide +kernel) (by decide) (by decide) w) rfl rfl) (Wt.plain rfl) ?_
  rintro _ _ ⟨_, _, ⟨rfl, rfl⟩, rfl, rfl⟩
  refine ⟨fun _ => (fun _ h => h), ?_⟩
  change (_ : List Blk → Prop) [_]
  refine D.one 9 (by kernel_rfl) ?_
  refine Up.q rfl (q_nil rfl rfl) (Wt.plain rfl) rfl rfl (fun h => absurd h (by decide)) ?_
  refine D.one 10 (by kernel_rfl) ?_
  refine Up.eff rfl (e_storeI ss61 0 rfl rfl rfl rfl (by first | omega | (simp; done) | (simp [-List.getD_eq_getElem?_getD]; omega)) rfl) (Wt.plain rfl) ?_
  rintro _ _ ⟨rfl, rfl⟩
  refine ⟨fun h => absurd h (by decide), ?_⟩
  change (_ : List Blk → Prop) [_]
  change (_ : List Blk → Prop) [⟨some k, ints .u32 (xrot (add1 (xrot (add2 v a b x) d a 16) c d) b c 20), ty, (0, 0)⟩]
  refine D.done (by kernel_rfl) ?_
  refine Ex.next ?_
  refine W.slots (L' := [(0, _), (1, _), (2, _), (3, _), (5, _)]) ⟨rfl, rfl, rfl, rfl, rfl, trivial⟩ ?_
  refine W.seq ?_
  refine W.draw 9 (by kernel_rfl) ?_
  refine D.take 0 rfl (by kernel_rfl) (fun _ h => h) (q_move rfl rfl) (Wt.plain rfl) rfl rfl ?_
  refine D.take 1 rfl (by kernel_rfl) (fun _ h => h) (q_nil rfl rfl) (Wt.plain rfl) rfl rfl ?_
  refine D.take 2 rfl (by kernel_rfl) (fun _ h => h) (q_loadI ss61 0 rfl rfl rfl (by first | omega | (simp; done) | (simp [-List.getD_eq_getElem?_getD]; omega))) (Wt.plain rfl) rfl rfl ?_
  refine D.take 3 rfl (by kernel_rfl) (fun _ h => h) (q_move rfl rfl) (Wt.plain rfl) rfl rfl ?_
  refine D.take 4 rfl (by kernel_rfl) (fun _ h => h) (q_nil rfl rfl) (Wt.plain rfl) rfl rfl ?_
  refine D.take 5 rfl (by kernel_rfl) (fun _ h => h) (q_loadI ss61 0 rfl rfl rfl (by first | omega | (simp; done) | (simp [-List.getD_eq_getElem?_getD]; omega))) (Wt.plain rfl) rfl rfl ?_
  refine D.take 6 rfl (by kernel_rfl) (fun _ h => h) (q_move rfl rfl) (Wt.plain rfl) rfl rfl ?_
  refine D.take 7 rfl (by kernel_rfl) (fun _ h => h) (q_add rfl rfl rfl) (Wt.plain rfl) rfl rfl ?_
  refine D.take 8 rfl (by kernel_rfl) (fun _ h => h) (q_add rfl rfl rfl) (Wt.plain rfl) rfl rfl ?_
  refine D.one 9 (by kernel_rfl) ?_
  refine Up.q rfl (q_nil rfl rfl) (Wt.plain rfl) rfl rfl (fun h => absurd h (by decide)) ?_
  refine D.one 10 (by kernel_rfl) ?_
  refine Up.eff rfl (e_storeI ss61 0 rfl rfl rfl rfl (by first | omega | (simp; done) | (simp [-List.getD_eq_getElem?_getD]; omega)) rfl) (Wt.plain rfl) ?_
  rintro _ _ ⟨rfl, rfl⟩
  refine ⟨fun h => absurd h (by decide), ?_⟩
  change (_ : List Blk → Prop) [_]
  change (_ : List Blk → Prop) [⟨some k, ints .u32 (add2 (xrot (add1 (xrot (add2 v a b x) d a 16) c d) b c 20) a b y), ty, (0, 0)⟩]
  refine D.done (by kernel_rfl) ?_
  refine Ex.next ?_
  refine W.slots (L' := [(0, _), (1, _), (2, _), (3, _)]) ⟨rfl, rfl, rfl, rfl, trivial⟩ ?_
  refine W.seq ?_
  refine W.draw 9 (by kernel_rfl) ?_
  refine D.take 0 rfl (by kernel_rfl) (fun _ h => h) (q_move rfl rfl) (Wt.plain rfl) rfl rfl ?_
  refine D.take 1 rfl (by kernel_rfl) (fun _ h => h) (q_move rfl rfl) (Wt.plain rfl) rfl rfl ?_
  refine D.take 2 rfl (by kernel_rfl) (fun _ h => h) (q_nil rfl rfl) (Wt.plain rfl) rfl rfl ?_
  refine D.take 3 rfl (by kernel_rfl) (fun _ h => h) (q_loadI ss61 0 rfl rfl rfl (by first | omega | (simp; done) | (simp [-List.getD_eq_getElem?_getD]; omega))) (Wt.plain rfl) rfl rfl ?_
  refine D.take 4 rfl (by kernel_rfl) (fun _ h => h) (q_move rfl rfl) (Wt.plain rfl) rfl rfl ?_
  refine D.take 5 rfl (by kernel_rfl) (fun _ h => h) (q_nil rfl rfl) (Wt.plain rfl) rfl rfl ?_
  refine D.take 6 rfl (by kernel_rfl) (fun _ h => h) (q_loadI ss61 0 rfl rfl rfl (by first | omega | (simp; done) | (simp [-List.getD_eq_getElem?_getD]; omega))) (Wt.plain rfl) rfl rfl ?_
  refine D.take 7 rfl (by kernel_rfl) (fun _ h => h) (q_xor rfl rfl rfl) (Wt.plain rfl) rfl rfl ?_
  refine D.one 8 (by kernel_rfl) ?_
  refine Up.eff rfl (e_call enters60 rfl rfl (fun w hm => rot_spec _ _ 24 (by decide +kernel) (by decide) (by decide) w) rfl rfl) (Wt.plain rfl) ?_
  rintro _ _ ⟨_, _, ⟨rfl, rfl⟩, rfl, rfl⟩
  refine ⟨fun _ => (fun _ h => h), ?_⟩
  change (_ : List Blk → Prop) [_]
  refine D.one 9 (by kernel_rfl) ?_
  refine Up.q rfl (q_nil rfl rfl) (Wt.plain rfl) rfl rfl (fun h => absurd h (by decide)) ?_
  refine D.one 10 (by kernel_rfl) ?_
  refine Up.eff rfl (e_storeI ss61 0 rfl rfl rfl rfl (by first | omega | (simp; done) | (simp [-List.getD_eq_getElem?_getD]; omega)) rfl) (Wt.plain rfl) ?_
  rintro _ _ ⟨rfl, rfl⟩
  refine ⟨fun h => absurd h (by decide), ?_⟩
  change (_ : List Blk → Prop) [_]
  change (_ : List Blk → Prop) [⟨some k, ints .u32 (xrot (add2 (xrot (add1 (xrot (add2 v a b x) d a 16) c d) b c 20) a b y) d a 24), ty, (0, 0)⟩]
  refine D.done (by kernel_rfl) ?_
  refine Ex.next ?_
  refine W.slots (L' := [(1, _), (2, _), (3, _)]) ⟨rfl, rfl, rfl, trivial⟩ ?_
  refine W.seq ?_
  refine W.draw 7 (by kernel_rfl) ?_
  refine D.take 0 rfl (by kernel_rfl) (fun _ h => h) (q_move rfl rfl) (Wt.plain rfl) rfl rfl ?_
  refine D.take 1 rfl (by kernel_rfl) (fun _ h => h) (q_nil rfl rfl) (Wt.plain rfl) rfl rfl ?_
  refine D.take 2 rfl (by kernel_rfl) (fun _ h => h) (q_loadI ss61 0 rfl rfl rfl (by first | omega | (simp; done) | (simp [-List.getD_eq_getElem?_getD]; omega))) (Wt.plain rfl) rfl rfl ?_
  refine D.take 3 rfl (by kernel_rfl) (fun _ h => h) (q_move rfl rfl) (Wt.plain rfl) rfl rfl ?_
  refine D.take 4 rfl (by kernel_rfl) (fun _ h => h) (q_nil rfl rfl) (Wt.plain rfl) rfl rfl ?_
  refine D.take 5 rfl (by kernel_rfl) (fun _ h => h) (q_loadI ss61 0 rfl rfl rfl (by first | omega | (simp; done) | (simp [-List.getD_eq_getElem?_getD]; omega))) (Wt.plain rfl) rfl rfl ?_
  refine D.take 6 rfl (by kernel_rfl) (fun _ h => h) (q_add rfl rfl rfl) (Wt.plain rfl) rfl rfl ?_
  refine D.one 7 (by kernel_rfl) ?_
  refine Up.q rfl (q_nil rfl rfl) (Wt.plain rfl) rfl rfl (fun h => absurd h (by decide)) ?_
  refine D.one 8 (by kernel_rfl) ?_
  refine Up.eff rfl (e_storeI ss61 0 rfl rfl rfl rfl (by first | omega | (simp; done) | (simp [-List.getD_eq_getElem?_getD]; omega)) rfl) (Wt.plain rfl) ?_
  rintro _ _ ⟨rfl, rfl⟩
  refine ⟨fun h => absurd h (by decide), ?_⟩
  change (_ : List Blk → Prop) [_]
  change (_ : List Blk → Prop) [⟨some k, ints .u32 (add1 (xrot (add2 (xrot (add1 (xrot (add2 v a b x) d a 16) c d) b c 20) a b y) d a 24) c d), ty, (0, 0)⟩]
  refine D.done (by kernel_rfl) ?_
  refine Ex.next ?_
  refine W.slots (L' := [(1, _), (2, _)]) ⟨rfl, rfl, trivial⟩ ?_
  refine W.draw 9 (by kernel_rfl) ?_
  refine D.take 0 rfl (by kernel_rfl) (fun _ h => h) (q_move rfl rfl) (Wt.plain rfl) rfl rfl ?_
  refine D.take 1 rfl (by kernel_rfl) (fun _ h => h) (q_move rfl rfl) (Wt.plain rfl) rfl rfl ?_
  refine D.take 2 rfl (by kernel_rfl) (fun _ h => h) (q_nil rfl rfl) (Wt.plain rfl) rfl rfl ?_
  refine D.take 3 rfl (by kernel_rfl) (fun _ h => h) (q_loadI ss61 0 rfl rfl rfl (by first | omega | (simp; done) | (simp [-List.getD_eq_getElem?_getD]; omega))) (Wt.plain rfl) rfl rfl ?_
  refine D.take 4 rfl (by kernel_rfl) (fun _ h => h) (q_move rfl rfl) (Wt.plain rfl) rfl rfl ?_
  refine D.take 5 rfl (by kernel_rfl) (fun _ h => h) (q_nil rfl rfl) (Wt.plain rfl) rfl rfl ?_
  refine D.take 6 rfl (by kernel_rfl) (fun _ h => h) (q_loadI ss61 0 rfl rfl rfl (by first | omega | (simp; done) | (simp [-List.getD_eq_getElem?_getD]; omega))) (Wt.plain rfl) rfl rfl ?_
  refine D.take 7 rfl (by kernel_rfl) (fun _ h => h) (q_xor rfl rfl rfl) (Wt.plain rfl) rfl rfl ?_
  refine D.one 8 (by kernel_rfl) ?_
  refine Up.eff rfl (e_call enters60 rfl rfl (fun w hm => rot_spec _ _ 25 (by decide +kernel) (by decide) (by decide) w) rfl rfl) (Wt.plain rfl) ?_
  rintro _ _ ⟨_, _, ⟨rfl, rfl⟩, rfl, rfl⟩
  refine ⟨fun _ => (fun _ h => h), ?_⟩
  change (_ : List Blk → Prop) [_]
  refine D.one 9 (by kernel_rfl) ?_
  refine Up.q rfl (q_nil rfl rfl) (Wt.plain rfl) rfl rfl (fun h => absurd h (by decide)) ?_
  refine D.one 10 (by kernel_rfl) ?_
  refine Up.eff rfl (e_storeI ss61 0 rfl rfl rfl rfl (by first | omega | (simp; done) | (simp [-List.getD_eq_getElem?_getD]; omega)) rfl) (Wt.plain rfl) ?_
  rintro _ _ ⟨rfl, rfl⟩
  refine ⟨fun h => absurd h (by decide), ?_⟩
  change (_ : List Blk → Prop) [_]
  change (_ : List Blk → Prop) [⟨some k, ints .u32 (xrot (add1 (xrot (add2 (xrot (add1 (xrot (add2 v a b x) d a 16) c d) b c 20) a b y) d a 24) c d) b c 25), ty, (0, 0)⟩]
  refine D.done (by kernel_rfl) ?_
  refine Ex.end0 [true] rfl ?_
  exact ⟨_, _, ⟨rfl, rfl, rfl⟩, rfl⟩
set_option maxRecDepth 100000 in
theorem refmix_spec (v : List Int) (js : List Value) (k cp a b c d : Nat) (ty : TypeId) (x y : Int) (hv : v.length = 16) (ha : a < 16) (hb : b < 16) (hc : c < 16) (hd : d < 16) (w0 : World) (hk : (⟨some k, ints .u32 v ++ js, ty, (0, 0)⟩ : Blk).here w0) : Does Tryd.prog 58 #[.slice (some ⟨k, 0, none⟩) 16 cp, .int .i64 ((a : Nat) : Int), .int .i64 ((b : Nat) : Int), .int .i64 ((c : Nat) : Int), .int .i64 ((d : Nat) : Int), .int .u32 x, .int .u32 y] w0 [k] (fun r G => ∃ cs G2, (r = .tuple #[] ∧ cs = ints .u32 (mixS v a b c d x y) ++ js ∧ G2 = []) ∧ G = ⟨some k, cs, ty, (0, 0)⟩ :: G2) := by
  refine spec_ofB 118 [⟨some k, ints .u32 v ++ js, ty, (0, 0)⟩] (Mem.own1 rfl hk) Tryd.func58 rfl rfl rfl ?_
  refine W.seq ?_
  refine W.draw 13 (by kernel_rfl) ?_
  refine D.take 0 rfl (by kernel_rfl) (fun _ h => h) (q_move rfl rfl) (Wt.plain rfl) rfl rfl ?_
  refine D.take 1 rfl (by kernel_rfl) (fun _ h => h) (q_move rfl rfl) (Wt.plain rfl) rfl rfl ?_
  refine D.take 2 rfl (by kernel_rfl) (fun _ h => h) (q_move rfl rfl) (Wt.plain rfl) rfl rfl ?_
  refine D.take 3 rfl (by kernel_rfl) (fun _ h => h) (q_move rfl rfl) (Wt.plain rfl) rfl rfl ?_
  refine D.take 4 rfl (by kernel_rfl) (fun _ h => h) (q_ixS0 sc67 a rfl rfl rfl (by omega) (by omega)) (Wt.plain rfl) rfl rfl ?_
  refine D.take 5 rfl (by kernel_rfl) (fun _ h => h) (q_loadIJ ss61 0 rfl rfl rfl (by first | omega | (simp; done) | (simp [-List.getD_eq_getElem?_getD]; omega))) (Wt.plain rfl) rfl rfl ?_
  refine D.take 6 rfl (by kernel_rfl) (fun _ h => h) (q_move rfl rfl) (Wt.plain rfl) rfl rfl ?_
  refine D.take 7 rfl (by kernel_rfl) (fun _ h => h) (q_move rfl rfl) (Wt.plain rfl) rfl rfl ?_
  refine D.take 8 rfl (by kernel_rfl) (fun _ h => h) (q_ixS0 sc67 b rfl rfl rfl (by omega) (by omega)) (Wt.plain rfl) rfl rfl ?_
  refine D.take 9 rfl (by kernel_rfl) (fun _ h => h) (q_loadIJ ss61 0 rfl rfl rfl (by first | omega | (simp; done) | (simp [-List.getD_eq_getElem?_getD]; omega))) (Wt.plain rfl) rfl rfl ?_
  refine D.take 10 rfl (by kernel_rfl) (fun _ h => h) (q_add rfl rfl rfl) (Wt.plain rfl) rfl rfl ?_
  refine D.take 11 rfl (by kernel_rfl) (fun _ h => h) (q_move rfl rfl) (Wt.plain rfl) rfl rfl ?_
  refine D.take 12 rfl (by kernel_rfl) (fun _ h => h) (q_int (b := _) (q_add rfl rfl rfl) (add3 _ _ _)) (Wt.plain rfl) rfl rfl ?_
  refine D.one 13 (by kernel_rfl) ?_
  refine Up.q rfl (q_ixS0 sc67 a rfl rfl rfl (by omega) (by omega)) (Wt.plain rfl) rfl rfl (fun h => absurd h (by decide)) ?_
  refine D.one 14 (by kernel_rfl) ?_
  refine Up.eff rfl (e_storeIJ ss61 0 rfl rfl rfl rfl (by first | omega | (simp; done) | (simp [-List.getD_eq_getElem?_getD]; omega)) rfl) (Wt.plain rfl) ?_
  rintro _ _ ⟨rfl, rfl⟩
  refine ⟨fun h => absurd h (by decide), ?_⟩
  change (_ : List Blk → Prop) [_]
  change (_ : List Blk → Prop) [⟨some k, ints .u32 (add2 v a b x) ++ js, ty, (0, 0)⟩]
  refine D.done (by kernel_rfl) ?_
  refine Ex.next ?_
  refine W.slots (L' := [(0, _), (1, _), (2, _), (3, _), (4, _), (6, _)]) ⟨rfl, rfl, rfl, rfl, rfl, rfl, trivial⟩ ?_
  refine W.seq ?_
  refine W.draw 12 (by kernel_rfl) ?_
  refine D.take 0 rfl (by kernel_rfl) (fun _ h => h) (q_move rfl rfl) (Wt.plain rfl) rfl rfl ?_
  refine D.take 1 rfl (by kernel_rfl) (fun _ h => h) (q_move rfl rfl) (Wt.plain rfl) rfl rfl ?_
  refine D.take 2 rfl (by kernel_rfl) (fun _ h => h) (q_move rfl rfl) (Wt.plain rfl) rfl rfl ?_
  refine D.take 3 rfl (by kernel_rfl) (fun _ h => h) (q_move rfl rfl) (Wt.plain rfl) rfl rfl ?_
  refine D.take 4 rfl (by kernel_rfl) (fun _ h => h) (q_ixS0 sc67 d rfl rfl rfl (by omega) (by omega)) (Wt.plain rfl) rfl rfl ?_
  refine D.take 5 rfl (by kernel_rfl) (fun _ h => h) (q_loadIJ ss61 0 rfl rfl rfl (by first | omega | (simp; done) | (simp [-List.getD_eq_getElem?_getD]; omega))) (Wt.plain rfl) rfl rfl ?_
  refine D.take 6 rfl (by kernel_rfl) (fun _ h => h) (q_move rfl rfl) (Wt.plain rfl) rfl rfl ?_
  refine D.take 7 rfl (by kernel_rfl) (fun _ h => h) (q_move rfl rfl) (Wt.plain rfl) rfl rfl ?_
  refine D.take 8 rfl (by kernel_rfl) (fun _ h => h) (q_ixS0 sc67 a rfl rfl rfl (by omega) (by omega)) (Wt.plain rfl) rfl rfl ?_
  refine D.take 9 rfl (by kernel_rfl) (fun _ h => h) (q_loadIJ ss61 0 rfl rfl rfl (by first | omega | (simp; done) | (simp [-List.getD_eq_getElem?_getD]; omega))) (Wt.plain rfl) rfl rfl ?_
  refine D.take 10 rfl (by kernel_rfl) (fun _ h => h) (q_xor rfl rfl rfl) (Wt.plain rfl) rfl rfl ?_
  refine D.one 11 (by kernel_rfl) ?_
  refine Up.eff rfl (e_call enters61 rfl rfl (fun w hm => ror_spec _ 16 (by decide) (by decide) w) rfl rfl) (Wt.plain rfl) ?_
  rintro _ _ ⟨_, _, ⟨rfl, rfl⟩, rfl, rfl⟩
  refine ⟨fun _ => (fun _ h => h), ?_⟩
  change (_ : List Blk → Prop) [_]
  refine D.one 12 (by kernel_rfl) ?_
  refine Up.q rfl (q_ixS0 sc67 d rfl rfl rfl (by omega) (by omega)) (Wt.plain rfl) rfl rfl (fun h => absurd h (by decide)) ?_
  refine D.one 13 (by kernel_rfl) ?_
  refine Up.eff rfl (e_storeIJ ss61 0 rfl rfl rfl rfl (by first | omega | (simp; done) | (simp [-List.getD_eq_getElem?_getD]; omega)) rfl) (Wt.plain rfl) ?_
  rintro _ _ ⟨rfl, rfl⟩
  refine ⟨fun h => absurd h (by decide), ?_⟩
  change (_ : List Blk → Prop) [_]
  change (_ : List Blk → Prop) [⟨some k, ints .u32 (xrot (add2 v a b x) d a 16) ++ js, ty, (0, 0)⟩]
  refine D.done (by kernel_rfl) ?_
  refine Ex.next ?_
  refine W.slots (L' := [(0, _), (1, _), (2, _), (3, _), (4, _), (6, _)]) ⟨rfl, rfl, rfl, rfl, rfl, rfl, trivial⟩ ?_
  refine W.seq ?_
  refine W.draw 11 (by kernel_rfl) ?_
  refine D.take 0 rfl (by kernel_rfl) (fun _ h => h) (q_move rfl rfl) (Wt.plain rfl) rfl rfl ?_
  refine D.take 1 rfl (by kernel_rfl) (fun _ h => h) (q_move rfl rfl) (Wt.plain rfl) rfl rfl ?_
  refine D.take 2 rfl (by kernel_rfl) (fun _ h => h) (q_move rfl rfl) (Wt.plain rfl) rfl rfl ?_
  refine D.take 3 rfl (by kernel_rfl) (fun _ h => h) (q_move rfl rfl) (Wt.plain rfl) rfl rfl ?_
  refine D.take 4 rfl (by kernel_rfl) (fun _ h => h) (q_ixS0 sc67 c rfl rfl rfl (by omega) (by omega)) (Wt.plain rfl) rfl rfl ?_
  refine D.take 5 rfl (by kernel_rfl) (fun _ h => h) (q_loadIJ ss61 0 rfl rfl rfl (by first | omega | (simp; done) | (simp [-List.getD_eq_getElem?_getD]; omega))) (Wt.plain rfl) rfl rfl ?_
  refine D.take 6 rfl (by kernel_rfl) (fun _ h => h) (q_move rfl rfl) (Wt.plain rfl) rfl rfl ?_
  refine D.take 7 rfl (by kernel_rfl) (fun _ h => h) (q_move rfl rfl) (Wt.plain rfl) rfl rfl ?_
  refine D.take 8 rfl (by kernel_rfl) (fun _ h => h) (q_ixS0 sc67 d rfl rfl rfl (by omega) (by omega)) (Wt.plain rfl) rfl rfl ?_
  refine D.take 9 rfl (by kernel_rfl) (fun _ h => h) (q_loadIJ ss61 0 rfl rfl rfl (by first | omega | (simp; done) | (simp [-List.getD_eq_getElem?_getD]; omega))) (Wt.plain rfl) rfl rfl ?_
  refine D.take 10 rfl (by kernel_rfl) (fun _ h => h) (q_add rfl rfl rfl) (Wt.plain rfl) rfl rfl ?_
  refine D.one 11 (by kernel_rfl) ?_
  refine Up.q rfl (q_ixS0 sc67 c rfl rfl rfl (by omega) (by omega)) (Wt.plain rfl) rfl rfl (fun h => absurd h (by decide)) ?_
  refine D.one 12 (by kernel_rfl) ?_
  refine Up.eff rfl (e_storeIJ ss61 0 rfl rfl rfl rfl (by first | omega | (simp; done) | (simp [-List.getD_eq_getElem?_getD]; omega)) rfl) (Wt.plain rfl) ?_
  rintro _ _ ⟨rfl, rfl⟩
  refine ⟨fun h => absurd h (by decide), ?_⟩
  change (_ : List Blk → Prop) [_]
  change (_ : List Blk → Prop) [⟨some k, ints .u32 (add1 (xrot (add2 v a b x) d a 16) c d) ++ js, ty, (0, 0)⟩]
  refine D.done (by kernel_rfl) ?_
  refine Ex.next ?_
  refine W.slots (L' := [(0, _), (1, _), (2, _), (3, _), (4, _), (6, _)]) ⟨rfl, rfl, rfl, rfl, rfl, rfl, trivial⟩ ?_
  refine W.seq ?_
  refine W.draw 12 (by kernel_rfl) ?_
  refine D.take 0 rfl (by kernel_rfl) (fun _ h => h) (q_move rfl rfl) (Wt.plain rfl) rfl rfl ?_
  refine D.take 1 rfl (by kernel_rfl) (fun _ h => h) (q_move rfl rfl) (Wt.plain rfl) rfl rfl ?_
  refine D.take 2 rfl (by kernel_rfl) (fun _ h => h) (q_move rfl rfl) (Wt.plain rfl) rfl rfl ?_
  refine D.take 3 rfl (by kernel_rfl) (fun _ h => h) (q_move rfl rfl) (Wt.plain rfl) rfl rfl ?_
  refine D.take 4 rfl (by kernel_rfl) (fun _ h => h) (q_ixS0 sc67 b rfl rfl rfl (by omega) (by omega)) (Wt.plain rfl) rfl rfl ?_
  refine D.take 5 rfl (by kernel_rfl) (fun _ h => h) (q_loadIJ ss61 0 rfl rfl rfl (by first | omega | (simp; done) | (simp [-List.getD_eq_getElem?_getD]; omega))) (Wt.plain rfl) rfl rfl ?_
  refine D.take 6 rfl (by kernel_rfl) (fun _ h => h) (q_move rfl rfl) (Wt.plain rfl) rfl rfl ?_
  refine D.take 7 rfl (by kernel_rfl) (fun _ h => h) (q_move rfl rfl) (Wt.plain rfl) rfl rfl ?_
  refine D.take 8 rfl (by kernel_rfl) (fun _ h => h) (q_ixS0 sc67 c rfl rfl rfl (by omega) (by omega)) (Wt.plain rfl) rfl rfl ?_
  refine D.take 9 rfl (by kernel_rfl) (fun _ h => h) (q_loadIJ ss61 0 rfl rfl rfl (by first | omega | (simp; done) | (simp [-List.getD_eq_getElem?_getD]; omega))) (Wt.plain rfl) rfl rfl ?_
  refine D.take 10 rfl (by kernel_rfl) (fun _ h => h) (q_xor rfl rfl rfl) (Wt.plain rfl) rfl rfl ?_
  refine D.one 11 (by kernel_rfl) ?_
  refine Up.eff rfl (e_call enters61 rfl rfl (fun w hm => ror_spec _ 12 (by decide) (by decide) w) rfl rfl) (Wt.plain rfl) ?_
  rintro _ _ ⟨_, _, ⟨rfl, rfl⟩, rfl, rfl⟩
  refine ⟨fun _ => (fun _ h => h), ?_⟩
  change (_ : List Blk → Prop) [_]
  refine D.one 12 (by kernel_rfl) ?_
  refine Up.q rfl (q_ixS0 sc67 b rfl rfl rfl (by omega) (by omega)) (Wt.plain rfl) rfl rfl (fun h => absurd h (by decide)) ?_
  refine D.one 13 (by kernel_rfl) ?_
  refine Up.eff rfl (e_storeIJ ss61 0 rfl rfl rfl rfl (by first | omega | (simp; done) | (simp [-List.getD_eq_getElem?_getD]; omega)) rfl) (Wt.plain rfl) ?_
  rintro _ _ ⟨rfl, rfl⟩
  refine ⟨fun h => absurd h (by decide), ?_⟩
  change (_ : List Blk → Prop) [_]
  change (_ : List Blk → Prop) [⟨some k, ints .u32 (xrot (add1 (xrot (add2 v a b x) d a 16) c d) b c 20) ++ js, ty, (0, 0)⟩]
  refine D.done (by kernel_rfl) ?_
  refine Ex.next ?_
  refine W.slots (L' := [(0, _), (1, _), (2, _), (3, _), (4, _), (6, _)]) ⟨rfl, rfl, rfl, rfl, rfl, rfl, trivial⟩ ?_
  refine W.seq ?_
  refine W.draw 13 (by kernel_rfl) ?_
  refine D.take 0 rfl (by kernel_rfl) (fun _ h => h) (q_move rfl rfl) (Wt.plain rfl) rfl rfl ?_
  refine D.take 1 rfl (by kernel_rfl) (fun _ h => h) (q_move rfl rfl) (Wt.plain rfl) rfl rfl ?_
  refine D.take 2 rfl (by kernel_rfl) (fun _ h => h) (q_move rfl rfl) (Wt.plain rfl) rfl rfl ?_
  refine D.take 3 rfl (by kernel_rfl) (fun _ h => h) (q_move rfl rfl) (Wt.plain rfl) rfl rfl ?_
  refine D.take 4 rfl (by kernel_rfl) (fun _ h => h) (q_ixS0 sc67 a rfl rfl rfl (by omega) (by omega)) (Wt.plain rfl) rfl rfl ?_
  refine D.take 5 rfl (by kernel_rfl) (fun _ h => h) (q_loadIJ ss61 0 rfl rfl rfl (by first | omega | (simp; done) | (simp [-List.getD_eq_getElem?_getD]; omega))) (Wt.plain rfl) rfl rfl ?_
  refine D.take 6 rfl (by kernel_rfl) (fun _ h => h) (q_move rfl rfl) (Wt.plain rfl) rfl rfl ?_
  refine D.take 7 rfl (by kernel_rfl) (fun _ h => h) (q_move rfl rfl) (Wt.plain rfl) rfl rfl ?_
  refine D.take 8 rfl (by kernel_rfl) (fun _ h => h) (q_ixS0 sc67 b rfl rfl rfl (by omega) (by omega)) (Wt.plain rfl) rfl rfl ?_
  refine D.take 9 rfl (by kernel_rfl) (fun _ h => h) (q_loadIJ ss61 0 rfl rfl rfl (by first | omega | (simp; done) | (simp [-List.getD_eq_getElem?_getD]; omega))) (Wt.plain rfl) rfl rfl ?_
  refine D.take 10 rfl (by kernel_rfl) (fun _ h => h) (q_add rfl rfl rfl) (Wt.plain rfl) rfl rfl ?_
  refine D.take 11 rfl (by kernel_rfl) (fun _ h => h) (q_move rfl rfl) (Wt.plain rfl) rfl rfl ?_
  refine D.take 12 rfl (by kernel_rfl) (fun _ h => h) (q_int (b := _) (q_add rfl rfl rfl) (add3 _ _ _)) (Wt.plain rfl) rfl rfl ?_
  refine D.one 13 (by kernel_rfl) ?_
  refine Up.q rfl (q_ixS0 sc67 a rfl rfl rfl (by omega) (by omega)) (Wt.plain rfl) rfl rfl (fun h => absurd h (by decide)) ?_
  refine D.one 14 (by kernel_rfl) ?_
  refine Up.eff rfl (e_storeIJ ss61 0 rfl rfl rfl rfl (by first | omega | (simp; done) | (simp [-List.getD_eq_getElem?_getD]; omega)) rfl) (Wt.plain rfl) ?_
  rintro _ _ ⟨rfl, rfl⟩
  refine ⟨fun h => absurd h (by decide), ?_⟩
  change (_ : List Blk → Prop) [_]
  change (_ : List Blk → Prop) [⟨some k, ints .u32 (add2 (xrot (add1 (xrot (add2 v a b x) d a 16) c d) b c 20) a b y) ++ js, ty, (0, 0)⟩]
  refine D.done (by kernel_rfl) ?_
  refine Ex.next ?_
  refine W.slots (L' := [(0, _), (1, _), (2, _), (3, _), (4, _)]) ⟨rfl, rfl, rfl, rfl, rfl, trivial⟩ ?_
  refine W.seq ?_
  refine W.draw 12 (by kernel_rfl) ?_
  refine D.take 0 rfl (by kernel_rfl) (fun _ h => h) (q_move rfl rfl) (Wt.plain rfl) rfl rfl ?_
  refine D.take 1 rfl (by kernel_rfl) (fun _ h => h) (q_move rfl rfl) (Wt.plain rfl) rfl rfl ?_
  refine D.take 2 rfl (by kernel_rfl) (fun _ h => h) (q_move rfl rfl) (Wt.plain rfl) rfl rfl ?_
  refine D.take 3 rfl (by kernel_rfl) (fun _ h => h) (q_move rfl rfl) (Wt.plain rfl) rfl rfl ?_
  refine D.take 4 rfl (by kernel_rfl) (fun _ h => h) (q_ixS0 sc67 d rfl rfl rfl (by omega) (by omega)) (Wt.plain rfl) rfl rfl ?_
  refine D.take 5 rfl (by kernel_rfl) (fun _ h => h) (q_loadIJ ss61 0 rfl rfl rfl (by first | omega | (simp; done) | (simp [-List.getD_eq_getElem?_getD]; omega))) (Wt.plain rfl) rfl rfl ?_
  refine D.take 6 rfl (by kernel_rfl) (fun _ h => h) (q_move rfl rfl) (Wt.plain rfl) rfl rfl ?_
  refine D.take 7 rfl (by kernel_rfl) (fun _ h => h) (q_move rfl rfl) (Wt.plain rfl) rfl rfl ?_
  refine D.take 8 rfl (by kernel_rfl) (fun _ h => h) (q_ixS0 sc67 a rfl rfl rfl (by omega) (by omega)) (Wt.plain rfl) rfl rfl ?_
  refine D.take 9 rfl (by kernel_rfl) (fun _ h => h) (q_loadIJ ss61 0 rfl rfl rfl (by first | omega | (simp; done) | (simp [-List.getD_eq_getElem?_getD]; omega))) (Wt.plain rfl) rfl rfl ?_
  refine D.take 10 rfl (by kernel_rfl) (fun _ h => h) (q_xor rfl rfl rfl) (Wt.plain rfl) rfl rfl ?_
  refine D.one 11 (by kernel_rfl) ?_
  refine Up.eff rfl (e_call enters61 rfl rfl (fun w hm => ror_spec _ 8 (by decide) (by decide) w) rfl rfl) (Wt.plain rfl) ?_
  rintro _ _ ⟨_, _, ⟨rfl, rfl⟩, rfl, rfl⟩
  refine ⟨fun _ => (fun _ h => h), ?_⟩
  change (_ : List Blk → Prop) [_]
  refine D.one 12 (by kernel_rfl) ?_
  refine Up.q rfl (q_ixS0 sc67 d rfl rfl rfl (by omega) (by omega)) (Wt.plain rfl) rfl rfl (fun h => absurd h (by decide)) ?_
  refine D.one 13 (by kernel_rfl) ?_
  refine Up.eff rfl (e_storeIJ ss61 0 rfl rfl rfl rfl (by first | omega | (simp; done) | (simp [-List.getD_eq_getElem?_getD]; omega)) rfl) (Wt.plain rfl) ?_
  rintro _ _ ⟨rfl, rfl⟩
  refine ⟨fun h => absurd h (by decide), ?_⟩
  change (_ : List Blk → Prop) [_]
  change (_ : List Blk → Prop) [⟨some k, ints .u32 (xrot (add2 (xrot (add1 (xrot (add2 v a b x) d a 16) c d) b c 20) a b y) d a 24) ++ js, ty, (0, 0)⟩]
  refine D.done (by kernel_rfl) ?_
  refine Ex.next ?_
  refine W.slots (L' := [(0, _), (2, _), (3, _), (4, _)]) ⟨rfl, rfl, rfl, rfl, trivial⟩ ?_
  refine W.seq ?_
  refine W.draw 11 (by kernel_rfl) ?_
  refine D.take 0 rfl (by kernel_rfl) (fun _ h => h) (q_move rfl rfl) (Wt.plain rfl) rfl rfl ?_
  refine D.take 1 rfl (by kernel_rfl) (fun _ h => h) (q_move rfl rfl) (Wt.plain rfl) rfl rfl ?_
  refine D.take 2 rfl (by kernel_rfl) (fun _ h => h) (q_move rfl rfl) (Wt.plain rfl) rfl rfl ?_
  refine D.take 3 rfl (by kernel_rfl) (fun _ h => h) (q_move rfl rfl) (Wt.plain rfl) rfl rfl ?_
  refine D.take 4 rfl (by kernel_rfl) (fun _ h => h) (q_ixS0 sc67 c rfl rfl rfl (by omega) (by omega)) (Wt.plain rfl) rfl rfl ?_
  refine D.take 5 rfl (by kernel_rfl) (fun _ h => h) (q_loadIJ ss61 0 rfl rfl rfl (by first | omega | (simp; done) | (simp [-List.getD_eq_getElem?_getD]; omega))) (Wt.plain rfl) rfl rfl ?_
  refine D.take 6 rfl (by kernel_rfl) (fun _ h => h) (q_move rfl rfl) (Wt.plain rfl) rfl rfl ?_
  refine D.take 7 rfl (by kernel_rfl) (fun _ h => h) (q_move rfl rfl) (Wt.plain rfl) rfl rfl ?_
  refine D.take 8 rfl (by kernel_rfl) (fun _ h => h) (q_ixS0 sc67 d rfl rfl rfl (by omega) (by omega)) (Wt.plain rfl) rfl rfl ?_
  refine D.take 9 rfl (by kernel_rfl) (fun _ h => h) (q_loadIJ ss61 0 rfl rfl rfl (by first | omega | (simp; done) | (simp [-List.getD_eq_getElem?_getD]; omega))) (Wt.plain rfl) rfl rfl ?_
  refine D.take 10 rfl (by kernel_rfl) (fun _ h => h) (q_add rfl rfl rfl) (Wt.plain rfl) rfl rfl ?_
  refine D.one 11 (by kernel_rfl) ?_
  refine Up.q rfl (q_ixS0 sc67 c rfl rfl rfl (by omega) (by omega)) (Wt.plain rfl) rfl rfl (fun h => absurd h (by decide)) ?_
  refine D.one 12 (by kernel_rfl) ?_
  refine Up.eff rfl (e_storeIJ ss61 0 rfl rfl rfl rfl (by first | omega | (simp; done) | (simp [-List.getD_eq_getElem?_getD]; omega)) rfl) (Wt.plain rfl) ?_
  rintro _ _ ⟨rfl, rfl⟩
  refine ⟨fun h => absurd h (by decide), ?_⟩
  change (_ : List Blk → Prop) [_]
  change (_ : List Blk → Prop) [⟨some k, ints .u32 (add1 (xrot (add2 (xrot (add1 (xrot (add2 v a b x) d a 16) c d) b c 20) a b y) d a 24) c d) ++ js, ty, (0, 0)⟩]
  refine D.done (by kernel_rfl) ?_
  refine Ex.next ?_
  refine W.slots (L' := [(0, _), (2, _), (3, _)]) ⟨rfl, rfl, rfl, trivial⟩ ?_
  refine W.draw 12 (by kernel_rfl) ?_
  refine D.take 0 rfl (by kernel_rfl) (fun _ h => h) (q_move rfl rfl) (Wt.plain rfl) rfl rfl ?_
  refine D.take 1 rfl (by kernel_rfl) (fun _ h => h) (q_move rfl rfl) (Wt.plain rfl) rfl rfl ?_
  refine D.take 2 rfl (by kernel_rfl) (fun _ h => h) (q_move rfl rfl) (Wt.plain rfl) rfl rfl ?_
  refine D.take 3 rfl (by kernel_rfl) (fun _ h => h) (q_move rfl rfl) (Wt.plain rfl) rfl rfl ?_
  refine D.take 4 rfl (by kernel_rfl) (fun _ h => h) (q_ixS0 sc67 b rfl rfl rfl (by omega) (by omega)) (Wt.plain rfl) rfl rfl ?_
  refine D.take 5 rfl (by kernel_rfl) (fun _ h => h) (q_loadIJ ss61 0 rfl rfl rfl (by first | omega | (simp; done) | (simp [-List.getD_eq_getElem?_getD]; omega))) (Wt.plain rfl) rfl rfl ?_
  refine D.take 6 rfl (by kernel_rfl) (fun _ h => h) (q_move rfl rfl) (Wt.plain rfl) rfl rfl ?_
  refine D.take 7 rfl (by kernel_rfl) (fun _ h => h) (q_move rfl rfl) (Wt.plain rfl) rfl rfl ?_
  refine D.take 8 rfl (by kernel_rfl) (fun _ h => h) (q_ixS0 sc67 c rfl rfl rfl (by omega) (by omega)) (Wt.plain rfl) rfl rfl ?_
  refine D.take 9 rfl (by kernel_rfl) (fun _ h => h) (q_loadIJ ss61 0 rfl rfl rfl (by first | omega | (simp; done) | (simp [-List.getD_eq_getElem?_getD]; omega))) (Wt.plain rfl) rfl rfl ?_
  refine D.take 10 rfl (by kernel_rfl) (fun _ h => h) (q_xor rfl rfl rfl) (Wt.plain rfl) rfl rfl ?_
  refine D.one 11 (by kernel_rfl) ?_
  refine Up.eff rfl (e_call enters61 rfl rfl (fun w hm => ror_spec _ 7 (by decide) (by decide) w) rfl rfl) (Wt.plain rfl) ?_
  rintro _ _ ⟨_, _, ⟨rfl, rfl⟩, rfl, rfl⟩
  refine ⟨fun _ => (fun _ h => h), ?_⟩
  change (_ : List Blk → Prop) [_]
  refine D.one 12 (by kernel_rfl) ?_
  refine Up.q rfl (q_ixS0 sc67 b rfl rfl rfl (by omega) (by omega)) (Wt.plain rfl) rfl rfl (fun h => absurd h (by decide)) ?_
  refine D.one 13 (by kernel_rfl) ?_
  refine Up.eff rfl (e_storeIJ ss61 0 rfl rfl rfl rfl (by first | omega | (simp; done) | (simp [-List.getD_eq_getElem?_getD]; omega)) rfl) (Wt.plain rfl) ?_
  rintro _ _ ⟨rfl, rfl⟩
  refine ⟨fun h => absurd h (by decide), ?_⟩
  change (_ : List Blk → Prop) [_]
  change (_ : List Blk → Prop) [⟨some k, ints .u32 (xrot (add1 (xrot (add2 (xrot (add1 (xrot (add2 v a b x) d a 16) c d) b c 20) a b y) d a 24) c d) b c 25) ++ js, ty, (0, 0)⟩]
  refine D.done (by kernel_rfl) ?_
  refine Ex.end0 [true] rfl ?_
  exact ⟨_, _, ⟨rfl, rfl, rfl⟩, rfl⟩

end Go.Proofs.YtkoomaoelekpaaaDoor
