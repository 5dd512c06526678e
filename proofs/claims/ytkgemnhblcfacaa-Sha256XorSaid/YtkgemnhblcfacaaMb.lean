/-
  The executor: order of operations, calls, code, compilation.
-/
import Derived.Test.YtkgemnhblcfacaaMa
import Derived.Deep.LoopGhost
import Derived.Sort.LoopGhostIn
import Derived.OrdersIn
import Derived.RangeFuncLeaves
import Derived.RangeFuncRecord
import Derived.Laws.Externs
import Derived.Lib.BytesEntry
import Derived.ProofKit
import Derived.Below
import Derived.ChangeSame
import Derived.OpenShut
import Derived.Lib.Repeat

/-
  What an operation reads, and when two operations may change places.
-/
namespace Qk
open Go Go.RowKit

def opd : Operand → List Nat
  | .tmp t => [t]
  | _ => []
def opdO : Option Operand → List Nat
  | some x => opd x
  | none => []

/-- The slots that an operation reads. -/
def Ins.reads : Ins → List Nat
  | .mov x => opd x
  | .pick c a b => opd c ++ opd a ++ opd b
  | .alloc _ => []
  | .box x => opd x
  | .build _ _ ps => ps.flatMap fun p => opd p.2.2
  | .bslice _ _ _ ps => ps.flatMap fun p => opd p.2.2
  | .load1 x => opd x
  | .loadN _ x => opd x
  | .stor1 a x => opd a ++ opd x
  | .storN _ a x => opd a ++ opd x
  | .nilck x => opd x
  | .bin _ x y => opd x ++ opd y
  | .beq _ x y => opd x ++ opd y
  | .aeq _ _ x y => opd x ++ opd y
  | .neg x => opd x
  | .cpl x => opd x
  | .not x => opd x
  | .conv _ x => opd x
  | .s2b x => opd x
  | .b2s x => opd x
  | .lenS x => opd x
  | .lenL x => opd x
  | .lenA _ => []
  | .idxA _ _ x i => opd x ++ opd i
  | .idxL _ x i => opd x ++ opd i
  | .fldA _ x => opd x
  | .idxV _ _ _ x i => opd x ++ opd i
  | .idxS x i => opd x ++ opd i
  | .fldV _ _ _ x => opd x
  | .slS x lo hi => opd x ++ opdO lo ++ opdO hi
  | .slA _ _ x lo hi => opd x ++ opdO lo ++ opdO hi
  | .slL _ x lo hi => opd x ++ opdO lo ++ opdO hi
  | .app _ _ x y => opd x ++ opd y
  | .mksl _ _ _ l c => opd l ++ opd c
  | .extr x _ => opd x
  | .mkclo _ caps => caps.flatMap opd
  | .pcall _ args => args.flatMap opd
  | .vcall _ x args => opd x ++ args.flatMap opd
  | .panic => []

/-- 0: looks at no memory; 1: looks at it; 2: changes it. -/
def Ins.cls : Ins → Nat
  | .mov _ => 0
  | .pick .. => 0
  | .build .. => 0
  | .nilck _ => 0
  | .bin .. => 0
  | .beq .. => 0
  | .aeq .. => 0
  | .neg _ => 0
  | .cpl _ => 0
  | .not _ => 0
  | .conv .. => 0
  | .lenS _ => 0
  | .lenL _ => 0
  | .lenA _ => 0
  | .idxA .. => 0
  | .fldA .. => 0
  | .idxV .. => 0
  | .idxS .. => 0
  | .fldV .. => 0
  | .slS .. => 0
  | .slA .. => 0
  | .extr .. => 0
  | .mkclo .. => 0
  | .panic => 0
  | .load1 _ => 1
  | .loadN .. => 1
  | .b2s _ => 1
  | .idxL .. => 1
  | .slL .. => 1
  | .pcall .. => 1
  | .vcall .. => 1
  | _ => 2

def AgreeOn (l : List Nat) (S S2 : St) : Prop := ∀ k ∈ l, S2.env k = S.env k

theorem AgreeOn.ev {S S2 : St} {x : Operand} (h : AgreeOn (opd x) S S2) : S2.ev x = S.ev x := by
  cases x <;> simp only [St.ev]
  exact h _ (by simp [opd])
theorem AgreeOn.left {l m : List Nat} {S S2 : St} (h : AgreeOn (l ++ m) S S2) : AgreeOn l S S2 := fun k hk => h k (List.mem_append_left _ hk)
theorem AgreeOn.right {l m : List Nat} {S S2 : St} (h : AgreeOn (l ++ m) S S2) : AgreeOn m S S2 := fun k hk => h k (List.mem_append_right _ hk)
theorem AgreeOn.evs {S S2 : St} : ∀ {xs : List Operand}, AgreeOn (xs.flatMap opd) S S2 → S2.evs xs = S.evs xs
  | [], _ => rfl
  | x :: xs, h => by
    have h' : AgreeOn (opd x ++ xs.flatMap opd) S S2 := by simpa using h
    simp only [St.evs]
    rw [h'.left.ev, AgreeOn.evs h'.right]
theorem AgreeOn.bnd {S S2 : St} {x : Option Operand} (h : AgreeOn (opdO x) S S2) (d : Int) (K : Int → Prop) : bnd S2 x d K = bnd S x d K := by
  cases x with
  | none => rfl
  | some x => simp only [Qk.bnd]; rw [AgreeOn.ev (x := x) h]
theorem AgreeOn.fill {S S2 : St} : ∀ {ps : List (Nat × Nat × Operand)} {zs : List AV}, AgreeOn (ps.flatMap fun p => opd p.2.2) S S2 → fillA S2 zs ps = fillA S zs ps
  | [], _, _ => rfl
  | (off, sz, x) :: ps, zs, h => by
    have h' : AgreeOn (opd x ++ ps.flatMap fun p => opd p.2.2) S S2 := by simpa using h
    simp only [fillA]
    rw [h'.left.ev]
    cases S.ev x with
    | none => rfl
    | some v =>
      simp only
      split <;> (congr 1; exact AgreeOn.fill h'.right)

def Det0 (o : Ins) : Prop := ∀ S K, ex1 o S K → ∃ r, K r S ∧ ∀ S2 K2, AgreeOn o.reads S S2 → K2 r S2 → ex1 o S2 K2
def Det1 (o : Ins) : Prop := ∀ S K, ex1 o S K → ∃ r, K r S ∧ ∀ S2 K2, S2.heap = S.heap → AgreeOn o.reads S S2 → K2 r S2 → ex1 o S2 K2
def Det2 (o : Ins) : Prop := ∀ S K, ex1 o S K → ∃ r H n, K r { S with heap := H, next := n } ∧ ∀ S2 K2, S2.heap = S.heap → S2.next = S.next → AgreeOn o.reads S S2 → K2 r { S2 with heap := H, next := n } → ex1 o S2 K2

theorem Det0.one {o : Ins} (h : Det0 o) : Det1 o := fun S K e => let ⟨r, h1, h2⟩ := h S K e; ⟨r, h1, fun S2 K2 _ => h2 S2 K2⟩
theorem Det1.two {o : Ins} (h : Det1 o) : Det2 o := fun S K e => let ⟨r, h1, h2⟩ := h S K e; ⟨r, S.heap, S.next, h1, fun S2 K2 e1 e2 ha hk => h2 S2 K2 e1 ha (by cases S2; simp only at e1 e2; subst e1; subst e2; exact hk)⟩

theorem bnd_det {S : St} {x : Option Operand} {d : Int} {K : Int → Prop} (h : bnd S x d K) : ∃ i, K i ∧ ∀ K2, K2 i → bnd S x d K2 := by
  unfold bnd at *
  split at h
  · exact ⟨d, h, fun _ h => h⟩
  · split at h
    · rename_i i hi; exact ⟨i, h, fun K2 h2 => h2⟩
    · exact h.elim

theorem sgn_det {k : IntKind} {x : Int} {K : AV → Prop} (h : sgn k x K) : ∃ r, K r ∧ ∀ K2, K2 r → sgn k x K2 := by
  cases k <;> simp only [sgn] at h ⊢
  case i8 => exact ⟨_, h.2, fun K2 h2 => ⟨h.1, h2⟩⟩
  case i16 => exact ⟨_, h.2, fun K2 h2 => ⟨h.1, h2⟩⟩
  case i32 => exact ⟨_, h.2, fun K2 h2 => ⟨h.1, h2⟩⟩
  case i64 => exact ⟨_, h.2, fun K2 h2 => ⟨h.1, h2⟩⟩
  all_goals exact ⟨_, h, fun K2 h2 => h2⟩

theorem arith_det {op : BinOp} {k : IntKind} {a b : Int} {K : AV → Prop} (h : arith op k a b K) : ∃ r, K r ∧ ∀ K2, K2 r → arith op k a b K2 := by
  cases op <;> simp only [arith] at h ⊢
  case add => exact sgn_det h
  case sub => exact sgn_det h
  case mul => exact sgn_det h
  case quo => obtain ⟨r, h1, h2⟩ := sgn_det h.2; exact ⟨r, h1, fun K2 h3 => ⟨h.1, h2 K2 h3⟩⟩
  case rem => exact ⟨_, h.2, fun K2 h2 => ⟨h.1, h2⟩⟩
  case shl => exact ⟨_, h.2, fun K2 h2 => ⟨h.1, h2⟩⟩
  case shr => exact ⟨_, h.2, fun K2 h2 => ⟨h.1, h2⟩⟩
  all_goals exact ⟨_, h, fun K2 h2 => h2⟩

theorem strOp_det {op : BinOp} {a b : List UInt8} {K : AV → Prop} (h : strOp op a b K) : ∃ r, K r ∧ ∀ K2, K2 r → strOp op a b K2 := by
  cases op <;> simp only [strOp] at h ⊢
  case add => exact ⟨_, h.2, fun K2 h2 => ⟨h.1, h2⟩⟩
  case eql => exact ⟨_, h, fun K2 h2 => h2⟩
  case neq => exact ⟨_, h, fun K2 h2 => h2⟩
  case lss => exact ⟨_, h, fun K2 h2 => h2⟩
  all_goals exact h.elim

theorem det0 : ∀ (o : Ins), o.cls = 0 → Det0 o := by
  intro o hc S K h
  cases o <;> simp only [Ins.cls] at hc <;> first | omega | skip
  case mov x =>
    simp only [ex1] at h
    split at h
    · rename_i v hv
      exact ⟨v, h, fun S2 K2 ha hk => by simp only [ex1]; rw [AgreeOn.ev (x := x) ha, hv]; exact hk⟩
    · exact h.elim
  case panic => exact h.elim
  case lenA n => exact ⟨_, h, fun S2 K2 _ hk => hk⟩
  case pick c a b =>
    simp only [ex1] at h
    split at h
    case h_2 => exact h.elim
    rename_i q hq
    have back : ∀ S2 : St, AgreeOn (Ins.pick c a b).reads S S2 → S2.ev c = some (.bool q) ∧ S2.ev a = S.ev a ∧ S2.ev b = S.ev b := fun S2 ha =>
      ⟨by rw [AgreeOn.ev (x := c) (AgreeOn.left (AgreeOn.left ha)), hq], AgreeOn.ev (AgreeOn.right (AgreeOn.left ha)), AgreeOn.ev (AgreeOn.right ha)⟩
    split at h
    · rename_i x y hx hy
      refine ⟨_, h, fun S2 K2 ha hk => ?_⟩
      obtain ⟨b1, b2, b3⟩ := back S2 ha
      simp only [ex1, b1, b2, b3, hx, hy]
      exact hk
    · rename_i hno
      cases q
      · simp only [cond_false] at h
        split at h
        · rename_i v hv
          refine ⟨v, h, fun S2 K2 ha hk => ?_⟩
          obtain ⟨b1, b2, b3⟩ := back S2 ha
          simp only [ex1, b1, b2, b3, hv, cond_false]
          split
          · rename_i x y h5 h6; exact absurd (by rw [hv]; exact h6) (hno x y h5)
          · exact hk
        · exact h.elim
      · simp only [cond_true] at h
        split at h
        · rename_i v hv
          refine ⟨v, h, fun S2 K2 ha hk => ?_⟩
          obtain ⟨b1, b2, b3⟩ := back S2 ha
          simp only [ex1, b1, b2, b3, hv, cond_true]
          split
          · rename_i x y h5 h6; exact absurd h6 (hno x y (by rw [hv]; exact h5))
          · exact hk
        · exact h.elim
  case build sz zs ps =>
    simp only [ex1] at h
    split at h
    case h_2 => exact h.elim
    rename_i cs hcs
    refine ⟨_, h.2, fun S2 K2 ha hk => ?_⟩
    simp only [ex1, AgreeOn.fill (zs := zs) ha, hcs]
    exact ⟨h.1, hk⟩
  case nilck x =>
    simp only [ex1] at h
    split at h
    case h_4 => exact h.elim
    all_goals
      rename_i hx
      refine ⟨_, h, fun S2 K2 ha hk => ?_⟩
      simp only [ex1, AgreeOn.ev (x := x) ha, hx]
      exact hk
  case bin op x y =>
    simp only [ex1] at h
    split at h
    case h_3 => exact h.elim
    case h_1 =>
      rename_i k p j q hx hy
      split at h
      case h_2 => exact h.elim
      rename_i hk
      obtain ⟨r, h1, h2⟩ := arith_det h
      refine ⟨r, h1, fun S2 K2 ha hk2 => ?_⟩
      simp only [ex1, ha.left.ev, ha.right.ev, hx, hy, hk]
      exact h2 _ hk2
    case h_2 =>
      rename_i p q hx hy
      obtain ⟨r, h1, h2⟩ := strOp_det h
      refine ⟨r, h1, fun S2 K2 ha hk2 => ?_⟩
      simp only [ex1, ha.left.ev, ha.right.ev, hx, hy]
      exact h2 _ hk2
  case beq neg x y =>
    simp only [ex1] at h
    split at h
    case h_2 => exact h.elim
    rename_i p q hx hy
    refine ⟨_, h, fun S2 K2 ha hk => ?_⟩
    simp only [ex1, ha.left.ev, ha.right.ev, hx, hy]
    exact hk
  case aeq neg ks x y =>
    simp only [ex1] at h
    split at h
    case h_2 => exact h.elim
    rename_i p q hx hy
    obtain ⟨r, h1, h2⟩ := h
    refine ⟨_, h2, fun S2 K2 ha hk => ?_⟩
    simp only [ex1, ha.left.ev, ha.right.ev, hx, hy]
    exact ⟨r, h1, hk⟩
  case neg x =>
    simp only [ex1] at h
    split at h
    case h_2 => exact h.elim
    rename_i k p hx
    obtain ⟨r, h1, h2⟩ := sgn_det h
    refine ⟨r, h1, fun S2 K2 ha hk => ?_⟩
    simp only [ex1, AgreeOn.ev (x := x) ha, hx]
    exact h2 _ hk
  case cpl x =>
    simp only [ex1] at h
    split at h
    case h_2 => exact h.elim
    rename_i k p hx
    refine ⟨_, h, fun S2 K2 ha hk => ?_⟩
    simp only [ex1, AgreeOn.ev (x := x) ha, hx]
    exact hk
  case not x =>
    simp only [ex1] at h
    split at h
    case h_2 => exact h.elim
    rename_i p hx
    refine ⟨_, h, fun S2 K2 ha hk => ?_⟩
    simp only [ex1, AgreeOn.ev (x := x) ha, hx]
    exact hk
  case conv k x =>
    simp only [ex1] at h
    split at h
    case h_2 => exact h.elim
    rename_i j p hx
    obtain ⟨r, h1, h2⟩ := sgn_det h
    refine ⟨r, h1, fun S2 K2 ha hk => ?_⟩
    simp only [ex1, AgreeOn.ev (x := x) ha, hx]
    exact h2 _ hk
  case lenS x =>
    simp only [ex1] at h
    split at h
    case h_2 => exact h.elim
    rename_i l hx
    refine ⟨_, h, fun S2 K2 ha hk => ?_⟩
    simp only [ex1, AgreeOn.ev (x := x) ha, hx]
    exact hk
  case lenL x =>
    simp only [ex1] at h
    split at h
    case h_5 => exact h.elim
    all_goals
      rename_i hx
      refine ⟨_, h, fun S2 K2 ha hk => ?_⟩
      simp only [ex1, AgreeOn.ev (x := x) ha, hx]
      exact hk
  case idxA esz n x i =>
    simp only [ex1] at h
    split at h
    case h_3 => exact h.elim
    all_goals
      rename_i hx hy
      refine ⟨_, h.2, fun S2 K2 ha hk => ?_⟩
      simp only [ex1, ha.left.ev, ha.right.ev, hx, hy]
      exact ⟨h.1, hk⟩
  case fldA off x =>
    simp only [ex1] at h
    split at h
    case h_3 => exact h.elim
    all_goals
      rename_i hx
      refine ⟨_, h, fun S2 K2 ha hk => ?_⟩
      simp only [ex1, AgreeOn.ev (x := x) ha, hx]
      exact hk
  case idxV n esz agg x i =>
    simp only [ex1] at h
    split at h
    case h_2 => exact h.elim
    rename_i cs k j hx hy
    obtain ⟨h0, h⟩ := h
    cases agg
    · obtain ⟨v, hv, h⟩ := h
      refine ⟨_, h, fun S2 K2 ha hk => ?_⟩
      simp only [ex1, ha.left.ev, ha.right.ev, hx, hy]
      exact ⟨h0, v, hv, hk⟩
    · obtain ⟨v, hv, h⟩ := h
      refine ⟨_, h, fun S2 K2 ha hk => ?_⟩
      simp only [ex1, ha.left.ev, ha.right.ev, hx, hy]
      exact ⟨h0, v, hv, hk⟩
  case idxS x i =>
    simp only [ex1] at h
    split at h
    case h_2 => exact h.elim
    rename_i l k j hx hy
    refine ⟨_, h.2, fun S2 K2 ha hk => ?_⟩
    simp only [ex1, ha.left.ev, ha.right.ev, hx, hy]
    exact ⟨h.1, hk⟩
  case fldV off sz agg x =>
    simp only [ex1] at h
    split at h
    case h_2 => exact h.elim
    rename_i cs hx
    cases agg
    · obtain ⟨v, hv, h⟩ := h
      refine ⟨_, h, fun S2 K2 ha hk => ?_⟩
      simp only [ex1, AgreeOn.ev (x := x) ha, hx]
      exact ⟨v, hv, hk⟩
    · obtain ⟨v, hv, h⟩ := h
      refine ⟨_, h, fun S2 K2 ha hk => ?_⟩
      simp only [ex1, AgreeOn.ev (x := x) ha, hx]
      exact ⟨v, hv, hk⟩
  case slS x lo hi =>
    simp only [ex1] at h
    split at h
    case h_2 => exact h.elim
    rename_i l hx
    obtain ⟨i, h, hb1⟩ := bnd_det h
    obtain ⟨j, ⟨h0, h⟩, hb2⟩ := bnd_det h
    refine ⟨_, h, fun S2 K2 ha hk => ?_⟩
    simp only [ex1, ha.left.left.ev, hx, ha.left.right.bnd, ha.right.bnd]
    exact hb1 _ (hb2 _ ⟨h0, hk⟩)
  case slA esz n x lo hi =>
    simp only [ex1] at h
    split at h
    case h_2 => exact h.elim
    rename_i m off hx
    obtain ⟨i, h, hb1⟩ := bnd_det h
    obtain ⟨j, ⟨h0, h⟩, hb2⟩ := bnd_det h
    refine ⟨_, h, fun S2 K2 ha hk => ?_⟩
    simp only [ex1, ha.left.left.ev, hx, ha.left.right.bnd, ha.right.bnd]
    exact hb1 _ (hb2 _ ⟨h0, hk⟩)
  case extr x i =>
    simp only [ex1] at h
    split at h
    case h_2 => exact h.elim
    rename_i cs hx
    obtain ⟨v, hv, h⟩ := h
    refine ⟨_, h, fun S2 K2 ha hk => ?_⟩
    simp only [ex1, AgreeOn.ev (x := x) ha, hx]
    exact ⟨v, hv, hk⟩
  case mkclo t caps =>
    simp only [ex1] at h
    split at h
    case h_2 => exact h.elim
    rename_i vs hx
    refine ⟨_, h, fun S2 K2 ha hk => ?_⟩
    simp only [ex1, AgreeOn.evs (xs := caps) ha, hx]
    exact hk

theorem lend_det {H : Nat → Option AO} : ∀ {vs : List AV} {K : Bool → List AV → Prop}, lend H vs K → ∃ b us, K b us ∧ ∀ K2, K2 b us → lend H vs K2
  | [], K, h => ⟨false, [], h, fun K2 h2 => h2⟩
  | v :: r, K, h => by
    simp only [lend] at h
    split at h
    case h_1 =>
      split at h
      · rename_i hH
        obtain ⟨h0, h⟩ := h
        obtain ⟨b, us, h1, h2⟩ := lend_det h
        exact ⟨_, _, h1, fun K2 h3 => by simp only [lend, hH]; exact ⟨h0, h2 _ h3⟩⟩
      · exact h.elim
    case h_2 =>
      split at h
      · rename_i hH
        obtain ⟨h0, h00, h⟩ := h
        obtain ⟨b, us, h1, h2⟩ := lend_det h
        exact ⟨_, _, h1, fun K2 h3 => by simp only [lend, hH]; exact ⟨h0, h00, h2 _ h3⟩⟩
      · exact h.elim
    case h_3 =>
      split at h
      · rename_i hH
        obtain ⟨h0, h00, h⟩ := h
        obtain ⟨b, us, h1, h2⟩ := lend_det h
        exact ⟨_, _, h1, fun K2 h3 => by simp only [lend, hH]; exact ⟨h0, h00, h2 _ h3⟩⟩
      · exact h.elim
    case h_11 =>
      obtain ⟨h0, h⟩ := h
      obtain ⟨b, us, h1, h2⟩ := lend_det h
      refine ⟨_, _, h1, fun K2 h3 => ?_⟩
      simp only [lend]
      exact ⟨h0, h2 _ h3⟩
    all_goals
      obtain ⟨b, us, h1, h2⟩ := lend_det h
      exact ⟨_, _, h1, fun K2 h3 => by simp only [lend]; exact h2 _ h3⟩

theorem pcall_det {C : PC} {vs : List AV} {S : St} {K : AV → St → Prop} (h : pcall C vs S K) : ∃ r, K r S ∧ ∀ S2 K2, S2.heap = S.heap → K2 r S2 → pcall C vs S2 K2 := by
  unfold pcall at h
  obtain ⟨b, us, ⟨x, h0, h1, h2⟩, h3⟩ := lend_det h
  cases b with
  | false => exact ⟨_, h2, fun S2 K2 he hk => by unfold pcall; rw [he]; exact h3 _ ⟨x, h0, h1, hk⟩⟩
  | true => exact ⟨_, h2.2, fun S2 K2 he hk => by unfold pcall; rw [he]; exact h3 _ ⟨x, h0, h1, h2.1, hk⟩⟩

theorem det1 : ∀ (o : Ins), o.cls = 1 → Det1 o := by
  intro o hc S K h
  cases o <;> simp only [Ins.cls] at hc <;> first | omega | skip
  case load1 x =>
    simp only [ex1] at h
    split at h
    case h_3 => exact h.elim
    case h_2 =>
      rename_i hx
      obtain ⟨v, hv, h⟩ := h
      refine ⟨_, h, fun S2 K2 he ha hk => ?_⟩
      simp only [ex1, AgreeOn.ev (x := x) ha, hx]
      exact ⟨v, hv, hk⟩
    case h_1 =>
      rename_i hx
      split at h
      case h_3 => exact h.elim
      all_goals
        rename_i hH
        obtain ⟨v, hv, h⟩ := h
        refine ⟨_, h, fun S2 K2 he ha hk => ?_⟩
        simp only [ex1, AgreeOn.ev (x := x) ha, hx, he, hH]
        exact ⟨v, hv, hk⟩
  case loadN sz x =>
    simp only [ex1] at h
    split at h
    case h_3 => exact h.elim
    case h_2 =>
      rename_i hx
      obtain ⟨h0, v, hv, h⟩ := h
      refine ⟨_, h, fun S2 K2 he ha hk => ?_⟩
      simp only [ex1, AgreeOn.ev (x := x) ha, hx]
      exact ⟨h0, v, hv, hk⟩
    case h_1 =>
      rename_i hx
      split at h
      case h_3 => exact h.elim
      all_goals
        rename_i hH
        obtain ⟨v, hv, h⟩ := h
        refine ⟨_, h, fun S2 K2 he ha hk => ?_⟩
        simp only [ex1, AgreeOn.ev (x := x) ha, hx, he, hH]
        exact ⟨v, hv, hk⟩
  case b2s x =>
    simp only [ex1] at h
    split at h
    case h_1 =>
      rename_i hx
      split at h
      case h_2 => exact h.elim
      rename_i hH
      obtain ⟨h0, v, hv, h⟩ := h
      refine ⟨_, h, fun S2 K2 he ha hk => ?_⟩
      simp only [ex1, AgreeOn.ev (x := x) ha, hx, he, hH]
      exact ⟨h0, v, hv, hk⟩
    case h_2 =>
      rename_i hx
      split at h
      case h_2 => exact h.elim
      rename_i hH
      obtain ⟨h0, v, hv, h⟩ := h
      refine ⟨_, h, fun S2 K2 he ha hk => ?_⟩
      simp only [ex1, AgreeOn.ev (x := x) ha, hx, he, hH]
      exact ⟨h0, v, hv, hk⟩
    case h_3 =>
      rename_i hx
      obtain ⟨h0, v, hv, h⟩ := h
      refine ⟨_, h, fun S2 K2 he ha hk => ?_⟩
      simp only [ex1, AgreeOn.ev (x := x) ha, hx]
      exact ⟨h0, v, hv, hk⟩
    case h_4 =>
      rename_i hx
      refine ⟨_, h, fun S2 K2 he ha hk => ?_⟩
      simp only [ex1, AgreeOn.ev (x := x) ha, hx]
      exact hk
    case h_5 => exact h.elim
  case idxL esz x i =>
    simp only [ex1] at h
    split at h
    case h_4 => exact h.elim
    case h_1 =>
      rename_i hx hy
      split at h
      case h_2 => exact h.elim
      rename_i hH
      refine ⟨_, h.2, fun S2 K2 he ha hk => ?_⟩
      simp only [ex1, ha.left.ev, ha.right.ev, hx, hy, he, hH]
      exact ⟨h.1, hk⟩
    all_goals
      rename_i hx hy
      refine ⟨_, h.2, fun S2 K2 he ha hk => ?_⟩
      simp only [ex1, ha.left.ev, ha.right.ev, hx, hy]
      exact ⟨h.1, hk⟩
  case slL esz x lo hi =>
    simp only [ex1] at h
    split at h
    case h_3 => exact h.elim
    case h_1 =>
      rename_i hx
      split at h
      case h_2 => exact h.elim
      rename_i hH
      obtain ⟨i, h, hb1⟩ := bnd_det h
      obtain ⟨j, ⟨h0, h⟩, hb2⟩ := bnd_det h
      refine ⟨_, h, fun S2 K2 he ha hk => ?_⟩
      simp only [ex1, ha.left.left.ev, hx, he, hH, ha.left.right.bnd, ha.right.bnd]
      exact hb1 _ (hb2 _ ⟨h0, hk⟩)
    case h_2 =>
      rename_i hx
      obtain ⟨i, h, hb1⟩ := bnd_det h
      obtain ⟨j, ⟨h0, h⟩, hb2⟩ := bnd_det h
      refine ⟨_, h, fun S2 K2 he ha hk => ?_⟩
      simp only [ex1, ha.left.left.ev, hx, ha.left.right.bnd, ha.right.bnd]
      exact hb1 _ (hb2 _ ⟨h0, hk⟩)
  case pcall C args =>
    simp only [ex1] at h
    split at h
    case h_2 => exact h.elim
    rename_i vs hx
    obtain ⟨r, h1, h2⟩ := pcall_det h
    refine ⟨r, h1, fun S2 K2 he ha hk => ?_⟩
    simp only [ex1, AgreeOn.evs (xs := args) ha, hx]
    exact h2 _ _ he hk
  case vcall Γ x args =>
    simp only [ex1] at h
    split at h
    case h_3 => exact h.elim
    case h_1 =>
      rename_i t caps vs hx hv
      split at h
      case h_2 => exact h.elim
      rename_i C hC
      obtain ⟨r, h1, h2⟩ := pcall_det h
      refine ⟨r, h1, fun S2 K2 he ha hk => ?_⟩
      simp only [ex1, ha.left.ev, AgreeOn.evs (xs := args) ha.right, hx, hv, hC]
      exact h2 _ _ he hk
    case h_2 =>
      rename_i R vs hx hv
      obtain ⟨C, hR, h⟩ := h
      obtain ⟨r, h1, h2⟩ := pcall_det h
      refine ⟨r, h1, fun S2 K2 he ha hk => ?_⟩
      simp only [ex1, ha.left.ev, AgreeOn.evs (xs := args) ha.right, hx, hv]
      exact ⟨C, hR, h2 _ _ he hk⟩

theorem det2 : ∀ (o : Ins), Det2 o := by
  intro o
  by_cases h0 : o.cls = 0
  · exact (det0 o h0).one.two
  by_cases h1 : o.cls = 1
  · exact (det1 o h1).two
  intro S K h
  cases o <;> first | (exact absurd rfl h0) | (exact absurd rfl h1) | skip
  case alloc zs => exact ⟨_, _, _, h, fun S2 K2 e1 e2 _ hk => by simp only [ex1, e1, e2]; exact hk⟩
  case box x =>
    simp only [ex1] at h
    split at h
    case h_3 => exact h.elim
    case h_1 =>
      rename_i hx
      refine ⟨_, _, _, h, fun S2 K2 e1 e2 ha hk => ?_⟩
      simp only [ex1, e1, e2, AgreeOn.ev (x := x) ha, hx]
      exact hk
    case h_2 =>
      rename_i v hna hx
      split at h
      case h_2 => exact h.elim
      rename_i hv
      refine ⟨_, _, _, h, fun S2 K2 e1 e2 ha hk => ?_⟩
      simp only [ex1, e1, e2, AgreeOn.ev (x := x) ha, hx, hv]
      exact hk
  case bslice esz zs n ps =>
    simp only [ex1] at h
    split at h
    case h_2 => exact h.elim
    rename_i cs hcs
    refine ⟨_, _, _, h, fun S2 K2 e1 e2 ha hk => ?_⟩
    simp only [ex1, AgreeOn.fill (zs := repl n zs) ha, hcs, e1, e2]
    exact hk
  case stor1 p x =>
    simp only [ex1] at h
    split at h
    case h_2 => exact h.elim
    rename_i hp hx
    split at h
    case h_2 => exact h.elim
    rename_i hv
    split at h
    case h_3 => exact h.elim
    all_goals
      rename_i hH
      refine ⟨_, _, S.next, h.2, fun S2 K2 e1 e2 ha hk => ?_⟩
      simp only [ex1, ha.left.ev, ha.right.ev, hp, hx, hv, e1, hH]
      rw [← e2] at hk
      exact ⟨h.1, hk⟩
  case storN sz p x =>
    simp only [ex1] at h
    split at h
    case h_2 => exact h.elim
    rename_i hp hx
    obtain ⟨h0, h⟩ := h
    split at h
    case h_3 => exact h.elim
    all_goals
      rename_i hH
      obtain ⟨h00, l, hl, h⟩ := h
      refine ⟨_, _, S.next, h, fun S2 K2 e1 e2 ha hk => ?_⟩
      simp only [ex1, ha.left.ev, ha.right.ev, hp, hx, e1, hH]
      rw [← e2] at hk
      exact ⟨h0, h00, l, hl, hk⟩
  case s2b x =>
    simp only [ex1] at h
    split at h
    case h_2 => exact h.elim
    rename_i hx
    refine ⟨_, _, _, h, fun S2 K2 e1 e2 ha hk => ?_⟩
    simp only [ex1, e1, e2, AgreeOn.ev (x := x) ha, hx]
    exact hk
  case app esz bytes x y =>
    simp only [ex1] at h
    split at h
    case h_5 => exact h.elim
    case h_1 =>
      rename_i hx hy
      split at h
      case h_2 => exact h.elim
      rename_i hH hM
      obtain ⟨h0, l, hl, h⟩ := h
      refine ⟨_, _, _, h, fun S2 K2 e1 e2 ha hk => ?_⟩
      simp only [ex1, e1, e2, ha.left.ev, ha.right.ev, hx, hy, hH, hM]
      exact ⟨h0, l, hl, hk⟩
    case h_2 =>
      rename_i hx hy
      split at h
      case h_2 => exact h.elim
      rename_i hH hM
      obtain ⟨h0, l, hl, h⟩ := h
      refine ⟨_, _, _, h, fun S2 K2 e1 e2 ha hk => ?_⟩
      simp only [ex1, e1, e2, ha.left.ev, ha.right.ev, hx, hy, hH, hM]
      exact ⟨h0, l, hl, hk⟩
    all_goals
      rename_i hx hy
      split at h
      case h_2 => exact h.elim
      rename_i hH
      obtain ⟨h0, l, hl, h⟩ := h
      refine ⟨_, _, _, h, fun S2 K2 e1 e2 ha hk => ?_⟩
      simp only [ex1, e1, e2, ha.left.ev, ha.right.ev, hx, hy, hH]
      exact ⟨h0, l, hl, hk⟩
  case mksl esz bytes zs l c =>
    simp only [ex1] at h
    split at h
    case h_2 => exact h.elim
    rename_i hx hy
    obtain ⟨h0, l, hl, h⟩ := h
    refine ⟨_, _, _, h, fun S2 K2 e1 e2 ha hk => ?_⟩
    simp only [ex1, e1, e2, ha.left.ev, ha.right.ev, hx, hy]
    exact ⟨h0, l, hl, hk⟩

/-- The slots that an operation reads, its guard's among them. -/
def IOp.reads (o : IOp) : List Nat := o.io.reads ++ (match o.guard with | some (g, _) => [g] | none => [])

/-- Two operations that may change places. -/
def IOp.free (a b : IOp) : Bool :=
  (match a.dst with
   | some d => !b.reads.contains d && b.dst != some d
   | none => true) &&
  (match b.dst with
   | some d => !a.reads.contains d
   | none => true) &&
  (a.io.cls == 0 || b.io.cls == 0 || (a.io.cls == 1 && b.io.cls == 1))

/-- What an operation did: its result, and the memory behind it. -/
theorem exO_det (o : IOp) (S : St) (K : St → Prop) (h : exO o S K) : ∃ r H n, K (({ S with heap := H, next := n } : St).set o.dst r) ∧
    (o.io.cls ≠ 2 → H = S.heap ∧ n = S.next) ∧
    ∀ (S2 : St) (K2 : St → Prop), (o.io.cls ≠ 0 → S2.heap = S.heap) → (o.io.cls = 2 → S2.next = S.next) → AgreeOn o.reads S S2 →
      K2 (({ S2 with heap := if o.io.cls = 2 then H else S2.heap, next := if o.io.cls = 2 then n else S2.next } : St).set o.dst r) → exO o S2 K2 := by
  have run : ∀ K : St → Prop, ex1 o.io S (fun r S' => K (S'.set o.dst r)) → ∃ r H n, K (({ S with heap := H, next := n } : St).set o.dst r) ∧ (o.io.cls ≠ 2 → H = S.heap ∧ n = S.next) ∧
      ∀ (S2 : St) (K2 : St → Prop), (o.io.cls ≠ 0 → S2.heap = S.heap) → (o.io.cls = 2 → S2.next = S.next) → AgreeOn o.io.reads S S2 →
        K2 (({ S2 with heap := if o.io.cls = 2 then H else S2.heap, next := if o.io.cls = 2 then n else S2.next } : St).set o.dst r) → ex1 o.io S2 (fun r S' => K2 (S'.set o.dst r)) := by
    intro K h
    by_cases h0 : o.io.cls = 0
    · obtain ⟨r, h1, h2⟩ := det0 o.io h0 S _ h
      refine ⟨r, S.heap, S.next, h1, fun _ => ⟨rfl, rfl⟩, fun S2 K2 _ _ ha hk => h2 S2 _ ha ?_⟩
      simpa [h0] using hk
    · by_cases h1 : o.io.cls = 1
      · obtain ⟨r, h3, h2⟩ := det1 o.io h1 S _ h
        refine ⟨r, S.heap, S.next, h3, fun _ => ⟨rfl, rfl⟩, fun S2 K2 he _ ha hk => h2 S2 _ (he h0) ha ?_⟩
        simpa [h1] using hk
      · have hc2 : o.io.cls = 2 := by
          have : o.io.cls ≤ 2 := by cases o.io <;> simp [Ins.cls]
          omega
        obtain ⟨r, H, n, h3, h2⟩ := det2 o.io S _ h
        refine ⟨r, H, n, h3, fun hn => absurd hc2 hn, fun S2 K2 he hn ha hk => h2 S2 _ (he h0) (hn hc2) ha ?_⟩
        simpa [hc2] using hk
  have skip : ∀ K : St → Prop, K (S.set o.dst (.raw undef)) → ∃ r H n, K (({ S with heap := H, next := n } : St).set o.dst r) ∧ (o.io.cls ≠ 2 → H = S.heap ∧ n = S.next) ∧ H = S.heap ∧ n = S.next ∧ r = .raw undef := by
    intro K h
    exact ⟨_, S.heap, S.next, h, fun _ => ⟨rfl, rfl⟩, rfl, rfl, rfl⟩
  have skipped : ∀ (S2 : St) (K2 : St → Prop), (o.io.cls ≠ 0 → S2.heap = S.heap) → (o.io.cls = 2 → S2.next = S.next) →
      K2 (({ S2 with heap := if o.io.cls = 2 then S.heap else S2.heap, next := if o.io.cls = 2 then S.next else S2.next } : St).set o.dst (.raw undef)) → K2 (S2.set o.dst (.raw undef)) := by
    intro S2 K2 e1 e2 hk
    by_cases hc : o.io.cls = 2
    · simp only [hc, if_true] at hk
      rw [← e1 (by omega), ← e2 hc] at hk
      exact hk
    · simp only [hc, if_false] at hk
      exact hk
  unfold exO at h
  split at h
  · rename_i hg
    obtain ⟨r, H, n, h1, h2, h3⟩ := run K h
    refine ⟨r, H, n, h1, h2, fun S2 K2 e1 e2 ha hk => ?_⟩
    unfold exO
    rw [hg]
    exact h3 S2 K2 e1 e2 ha.left hk
  · rename_i g want hg
    have hgr : ∀ S2, AgreeOn o.reads S S2 → S2.env g = S.env g ∧ AgreeOn o.io.reads S S2 := fun S2 ha => ⟨ha g (by simp [IOp.reads, hg]), ha.left⟩
    split at h
    · rename_i b hb
      cases want <;> cases b <;> simp only [cond_true, cond_false] at h
      · obtain ⟨r, H, n, h1, h2, h3⟩ := run K h
        refine ⟨r, H, n, h1, h2, fun S2 K2 e1 e2 ha hk => ?_⟩
        obtain ⟨g1, g2⟩ := hgr S2 ha
        unfold exO
        rw [hg]
        simp only [g1, hb, cond_false]
        exact h3 S2 K2 e1 e2 g2 hk
      · obtain ⟨r, H, n, h1, h2, rfl, rfl, rfl⟩ := skip K h
        refine ⟨_, _, _, h1, h2, fun S2 K2 e1 e2 ha hk => ?_⟩
        obtain ⟨g1, g2⟩ := hgr S2 ha
        unfold exO
        rw [hg]
        simp only [g1, hb, cond_true]
        exact skipped S2 K2 e1 e2 hk
      · obtain ⟨r, H, n, h1, h2, rfl, rfl, rfl⟩ := skip K h
        refine ⟨_, _, _, h1, h2, fun S2 K2 e1 e2 ha hk => ?_⟩
        obtain ⟨g1, g2⟩ := hgr S2 ha
        unfold exO
        rw [hg]
        simp only [g1, hb, cond_false]
        exact skipped S2 K2 e1 e2 hk
      · obtain ⟨r, H, n, h1, h2, h3⟩ := run K h
        refine ⟨r, H, n, h1, h2, fun S2 K2 e1 e2 ha hk => ?_⟩
        obtain ⟨g1, g2⟩ := hgr S2 ha
        unfold exO
        rw [hg]
        simp only [g1, hb, cond_true]
        exact h3 S2 K2 e1 e2 g2 hk
    · rename_i hb
      obtain ⟨r, H, n, h1, h2, rfl, rfl, rfl⟩ := skip K h
      refine ⟨_, _, _, h1, h2, fun S2 K2 e1 e2 ha hk => ?_⟩
      obtain ⟨g1, g2⟩ := hgr S2 ha
      unfold exO
      rw [hg]
      simp only [g1, hb]
      exact skipped S2 K2 e1 e2 hk
    · exact h.elim

theorem agree_set {l : List Nat} {S : St} {d : Option Nat} {v : AV} {H : Nat → Option AO} {n : Nat} (h : ∀ k, d = some k → k ∉ l) : AgreeOn l S (({ S with heap := H, next := n } : St).set d v) := by
  intro k hk
  cases d with
  | none => rfl
  | some d =>
    simp only [St.set]
    exact upd_ne _ _ (fun e => h d rfl (e ▸ hk))

theorem upd_comm {α : Type} (f : Nat → Option α) {j k : Nat} (u v : Option α) (h : j ≠ k) : upd (upd f j u) k v = upd (upd f k v) j u := by
  funext n
  by_cases h1 : n = j
  · subst h1; rw [upd_ne _ _ h, upd_same, upd_same]
  · by_cases h2 : n = k
    · subst h2; rw [upd_same, upd_ne _ _ h1, upd_same]
    · rw [upd_ne _ _ h2, upd_ne _ _ h1, upd_ne _ _ h1, upd_ne _ _ h2]

theorem St.ext {A B : St} (h1 : A.env = B.env) (h2 : A.heap = B.heap) (h3 : A.next = B.next) : A = B := by
  cases A; cases B; simp only at h1 h2 h3; subst h1; subst h2; subst h3; rfl

/-- Two free operations change places. -/
theorem exO_swap {a b : IOp} (hf : a.free b = true) {S : St} {K : St → Prop} (h : exO a S (fun S' => exO b S' K)) : exO b S (fun S' => exO a S' K) := by
  simp only [IOp.free, Bool.and_eq_true] at hf
  obtain ⟨⟨f1, f2⟩, f3⟩ := hf
  have d1 : ∀ d, a.dst = some d → d ∉ b.reads ∧ b.dst ≠ some d := by
    intro d hd
    rw [hd] at f1
    simp at f1
    exact f1
  have d2 : ∀ d, b.dst = some d → d ∉ a.reads := by
    intro d hd
    rw [hd] at f2
    simpa using f2
  obtain ⟨ra, Ha, na, h1, qa, ha⟩ := exO_det a S _ h
  obtain ⟨rb, Hb, nb, h2, qb, hb⟩ := exO_det b _ _ h1
  have hcl : a.io.cls = 0 ∨ b.io.cls = 0 ∨ (a.io.cls = 1 ∧ b.io.cls = 1) := by
    simp only [Bool.or_eq_true, beq_iff_eq, Bool.and_eq_true] at f3
    omega
  have ca : a.io.cls ≤ 2 := by cases a.io <;> simp [Ins.cls]
  have cb : b.io.cls ≤ 2 := by cases b.io <;> simp [Ins.cls]
  have agb : AgreeOn b.reads (({ S with heap := Ha, next := na } : St).set a.dst ra) S := by
    intro k hk
    exact (agree_set (S := S) (d := a.dst) (v := ra) (H := Ha) (n := na) (fun k hk => (d1 k hk).1) k hk).symm
  have hset : ∀ (S : St) (d : Option Nat) (v : AV), (S.set d v).heap = S.heap ∧ (S.set d v).next = S.next := by intro S d v; cases d <;> exact ⟨rfl, rfl⟩
  -- b first
  refine hb S _ ?_ ?_ agb ?_
  · intro hn
    rw [(hset _ _ _).1]
    by_cases h2' : a.io.cls = 2
    · omega
    · exact (qa h2').1.symm
  · intro hn
    rw [(hset _ _ _).2]
    by_cases h2' : a.io.cls = 2
    · omega
    · exact (qa h2').2.symm
  -- then a
  · refine ha _ _ ?_ ?_ (agree_set (fun k hk => d2 k hk)) ?_
    · intro hn
      rw [(hset _ _ _).1]
      by_cases h2' : b.io.cls = 2
      · omega
      · simp [h2']
    · intro hn
      rw [(hset _ _ _).2]
      by_cases h2' : b.io.cls = 2
      · omega
      · simp [h2']
    · -- the two ends are one
      have qb' : b.io.cls ≠ 2 → Hb = Ha ∧ nb = na := by
        intro hn
        have := qb hn
        rw [(hset _ _ _).1, (hset _ _ _).2] at this
        exact this
      have e : (({ (({ S with heap := Ha, next := na } : St).set a.dst ra) with heap := Hb, next := nb } : St)).set b.dst rb =
          ({ (({ S with heap := if b.io.cls = 2 then Hb else S.heap, next := if b.io.cls = 2 then nb else S.next } : St).set b.dst rb) with
              heap := if a.io.cls = 2 then Ha else (({ S with heap := if b.io.cls = 2 then Hb else S.heap, next := if b.io.cls = 2 then nb else S.next } : St).set b.dst rb).heap,
              next := if a.io.cls = 2 then na else (({ S with heap := if b.io.cls = 2 then Hb else S.heap, next := if b.io.cls = 2 then nb else S.next } : St).set b.dst rb).next } : St).set a.dst ra := by
        apply St.ext
        · cases hda : a.dst with
          | none => cases hdb : b.dst <;> rfl
          | some da =>
            cases hdb : b.dst with
            | none => rfl
            | some db =>
              simp only [St.set]
              rw [upd_comm]
              intro e
              exact (d1 da hda).2 (by rw [hdb, e])
        · rw [(hset _ _ _).1, (hset _ _ _).1, (hset _ _ _).1]
          by_cases ha2 : a.io.cls = 2
          · simp only [ha2, if_true]
            exact (qb' (by omega)).1
          · simp only [ha2, if_false]
            by_cases hb2 : b.io.cls = 2
            · simp only [hb2, if_true]
            · simp only [hb2, if_false]
              rw [(qb' hb2).1, (qa ha2).1]
        · rw [(hset _ _ _).2, (hset _ _ _).2, (hset _ _ _).2]
          by_cases ha2 : a.io.cls = 2
          · simp only [ha2, if_true]
            exact (qb' (by omega)).2
          · simp only [ha2, if_false]
            by_cases hb2 : b.io.cls = 2
            · simp only [hb2, if_true]
            · simp only [hb2, if_false]
              rw [(qb' hb2).2, (qa ha2).2]
      rw [← e]
      exact h2

end Qk

/-
  Calls; regions, in whatever order their operations are drawn.
-/
namespace Qk
open Go Go.RowKit

/-- The fence of an activation: the whole program; a round of the loop whose record is R. -/
def FR (R : Option Nat) : Fence := { Fence.wide with round := R }

/-- The mark that a range over a function leaves among the deferred calls. -/
def mark (b : Nat) : Deferred := { target := .collected b, args := #[] }

/-- Names that keep their meaning: those of the callers. -/
structure Fl where
  m : Nat
  nm : Nm
  lt : ∀ n x, nm n = some x → n < m
def Fl.free : Fl := ⟨0, fun _ => none, fun _ _ h => by cases h⟩

/-- A later base: what the earlier one protects lies as it lay. -/
structure Ext (B : Nat) (X : Nat → Prop) (w0 : World) (B1 : Nat) (X1 : Nat → Prop) (w1 : World) : Prop where
  le : B ≤ B1
  fr : ∀ k, k < B → ¬ X k → ¬ X1 k ∧ w1.heap[k]? = w0.heap[k]?
  x : ∀ k, X1 k → k < B → X k
  os : w1.os = w0.os
  tape : w1.tape = w0.tape
  output : w1.output = w0.output
  size : w0.heap.size ≤ w1.heap.size

theorem Ext.refl (B : Nat) (X : Nat → Prop) (w0 : World) : Ext B X w0 B X w0 := ⟨Nat.le_refl _, fun _ _ h => ⟨h, rfl⟩, fun _ h _ => h, rfl, rfl, rfl, Nat.le_refl _⟩
theorem Ext.trans {B : Nat} {X : Nat → Prop} {w0 : World} {B1 : Nat} {X1 : Nat → Prop} {w1 : World} {B2 : Nat} {X2 : Nat → Prop} {w2 : World}
    (h : Ext B X w0 B1 X1 w1) (k : Ext B1 X1 w1 B2 X2 w2) : Ext B X w0 B2 X2 w2 where
  le := Nat.le_trans h.le k.le
  fr := fun i hi hx => by
    obtain ⟨a, b⟩ := h.fr i hi hx
    obtain ⟨c, d⟩ := k.fr i (Nat.lt_of_lt_of_le hi h.le) a
    exact ⟨c, d.trans b⟩
  x := fun i hi hb => h.x i (k.x i hi (Nat.lt_of_lt_of_le hb h.le)) hb
  os := k.os.trans h.os
  tape := k.tape.trans h.tape
  output := k.output.trans h.output
  size := Nat.le_trans h.size k.size

/-- Behind the base: it protects no less than the one before. -/
theorem Wf.back {G : Gl} {B : Nat} {X : Nat → Prop} {w0 : World} {B1 : Nat} {X1 : Nat → Prop} {w1 : World} {ρ : Nm} {Φ : Phi} {H : Nat → Option AO} {nx : Nat} {w : World}
    (h : Wf G B1 X1 w1 ρ Φ H nx w) (e : Ext B X w0 B1 X1 w1) : Wf G B X w0 ρ Φ H nx w where
  os := h.os.trans e.os
  tape := h.tape.trans e.tape
  output := h.output.trans e.output
  size := Nat.le_trans e.size h.size
  base := Nat.le_trans e.le h.base
  frame := fun k hk hx => (h.frame k (Nat.lt_of_lt_of_le hk e.le) (e.fr k hk hx).1).trans (e.fr k hk hx).2
  phi := h.phi
  dom := h.dom
  objs := fun n o eq => by
    obtain ⟨hd, h1, h2, h3⟩ := h.objs n o eq
    refine ⟨hd, h1, h2, fun b hb => ?_⟩
    obtain ⟨a1, a2, a3⟩ := h3 b hb
    refine ⟨?_, a2, a3⟩
    by_cases hB : B ≤ b
    · exact .inl hB
    · rcases a1 with a1 | a1
      · exact .inl (Nat.le_trans e.le a1)
      · exact .inr (e.x b a1 (by omega))
  disj := h.disj

structure Sd (B : Nat) (X : Nat → Prop) (w0 : World) (D : Fl) (B1 : Nat) (X1 : Nat → Prop) (w1 : World) (ρ : Nm) (Φ : Phi) (ds : List Deferred) : Prop where
  ext : Ext B X w0 B1 X1 w1
  bs : B1 ≤ w1.heap.size
  nm : NmLe D.nm ρ
  marks : ∃ ms : List Nat, ds = ms.map mark ∧ ms.Nodup ∧ ∀ b ∈ ms, B ≤ b ∧ b < B1 ∧ ¬ X1 b ∧ w1.heap[b]? = some (.deferred (some [])) ∧ Φ b = none

theorem Sd.le {B : Nat} {X : Nat → Prop} {w0 : World} {D : Fl} {B1 : Nat} {X1 : Nat → Prop} {w1 : World} {ρ ρ' : Nm} {Φ Φ' : Phi} {ds : List Deferred} (h : Sd B X w0 D B1 X1 w1 ρ Φ ds) (k : NmLe ρ ρ') (hn : ∀ b o, Φ' b = some o → Φ b = some o ∨ B1 ≤ b) : Sd B X w0 D B1 X1 w1 ρ' Φ' ds := by
  refine ⟨h.ext, h.bs, h.nm.trans k, ?_⟩
  obtain ⟨ms, h1, h2, h3⟩ := h.marks
  refine ⟨ms, h1, h2, fun b hb => ?_⟩
  obtain ⟨q1, q2, q3, q4, q5⟩ := h3 b hb
  refine ⟨q1, q2, q3, q4, ?_⟩
  cases e : Φ' b with
  | none => rfl
  | some o =>
    rcases hn b o e with h4 | h4
    · rw [q5] at h4; cases h4
    · omega

/-- The frame and the world stand to the abstract state. -/
def At (G : Gl) (B : Nat) (X : Nat → Prop) (Φ0 : Phi) (w0 : World) (N : Nat) (D : Fl) (S : St) (a : Act) (w : World) : Prop :=
  ∃ B1 X1 w1 ρ Φ, a.tmps.size = N ∧ Sd B X w0 D B1 X1 w1 ρ Φ a.defers ∧ PhiLe Φ0 Φ ∧ (∀ b o, Φ b = some o → Φ0 b = some o ∨ B ≤ b) ∧ EnvRel G Φ ρ S.env a ∧ Wf G B1 X1 w1 ρ Φ S.heap S.next w

/-- Where no deferred call can be written. -/
theorem wpIn_of_wp {R : Option Nat} {n : Nat} {P : Program} {o : Oper} {a : Act} {w : World} {next : Act → World → Prop} {Q : Exit → Act → World → Prop} (hnd : ∀ c, o.op ≠ .defer c) (h : o.wp P a w next Q) :
    o.wpIn (FR R) n P a w next Q := by
  refine ⟨fun _ _ => trivial, ?_⟩
  rw [Oper.semAt_eq _ _ _ hnd]
  unfold Oper.wp at h
  generalize (execOp a.eval o).run P w = r at *
  have hnone : (FR R).depth.isSome = true → 1 ≤ n := fun e => by cases e
  unfold Oper.upon at h
  split at h
  · exact h
  · exact h
  · exact h
  · exact ⟨hnone, callsIn_wide.2 h⟩
  · refine ⟨hnone, fun c cs _ => ?_⟩
    obtain ⟨v, w', r1, s1⟩ := h c cs
    exact ⟨v, w', r1, stepsIn_wide.2 s1⟩
  · exact h
  · exact h.elim

section calls
variable {G : Gl} {B : Nat} {X : Nat → Prop} {w0 : World} {ρ : Nm} {Φ : Phi} {H : Nat → Option AO} {nx : Nat} {w : World}

/-- Behind a call that turned nothing that was there. -/
theorem Wf.below (h : Wf G B X w0 ρ Φ H nx w) {w' : World} {Φ' : Phi} (hb : Below w.heap.size w w') (hle : PhiLe Φ Φ') (hphi : ∀ b o, Φ' b = some o → w'.heap[b]? = some o)
    (hnew : ∀ b o, Φ' b = some o → Φ b = some o ∨ w.heap.size ≤ b) : Wf G B X w0 ρ Φ' H nx w' where
  os := hb.os.trans h.os
  tape := hb.tape.trans h.tape
  output := hb.output.trans h.output
  size := Nat.le_trans h.size hb.size
  base := Nat.le_trans h.base hb.size
  frame := fun k hk hx => by
    have := h.base
    rw [hb.block k (by omega)]; exact h.frame k hk hx
  phi := hphi
  dom := h.dom
  objs := fun n o e => by
    obtain ⟨hd, h1, h2, h3⟩ := h.objs n o e
    refine ⟨hd, h1, ORep.mono hle (NmLe.refl _) hphi (fun b hbf => hb.block b (h3 b hbf).2.2) h2, fun b hbf => ?_⟩
    obtain ⟨a1, a2, a3⟩ := h3 b hbf
    refine ⟨a1, ?_, Nat.lt_of_lt_of_le a3 hb.size⟩
    cases e2 : Φ' b with
    | none => rfl
    | some o' =>
      rcases hnew b o' e2 with h4 | h4
      · rw [a2] at h4; cases h4
      · omega
  disj := h.disj

/-- All that is in memory. -/
def memPhi (w : World) : Phi := fun b => w.heap[b]?

theorem Wf.memLe (h : Wf G B X w0 ρ Φ H nx w) : PhiLe Φ (memPhi w) := fun b o e => h.phi b o e

theorem lend_ok (hw : Wf G B X w0 ρ Φ H nx w) : ∀ {vs : List AV} {K : Bool → List AV → Prop} {A : Array Value} {i : Nat}, lend H vs K → RepAt G Φ vs ρ A i →
    ∃ b us, K b us ∧ us.length = vs.length ∧ (b = false → RepAt G Φ us (fun _ => none) A i) ∧ RepAt G (memPhi w) us (fun _ => none) A i := by
  intro vs
  induction vs with
  | nil => intro K A i h _; exact ⟨false, [], h, rfl, fun _ => by simp [RepAt], by simp [RepAt]⟩
  | cons v r ih =>
    intro K A i h hr
    simp only [RepAt] at hr
    obtain ⟨⟨x, hx, hv⟩, hr⟩ := hr
    -- a value that is passed as it stands
    have plain : ∀ (v' : AV), (∀ b us, K b (v' :: us) → K b (v' :: us)) → Rep G Φ v' (fun _ => none) x → lend H r (fun b vs => K b (v' :: vs)) →
        ∃ b us, K b us ∧ us.length = (v :: r).length ∧ (b = false → RepAt G Φ us (fun _ => none) A i) ∧ RepAt G (memPhi w) us (fun _ => none) A i := by
      intro v' _ hv' hl
      obtain ⟨b, us, h1, h2, h3, h4⟩ := ih hl hr
      refine ⟨b, v' :: us, h1, by simp [h2], fun hb => ?_, ?_⟩
      · simp only [RepAt]; exact ⟨⟨x, hx, hv'⟩, h3 hb⟩
      · simp only [RepAt]; exact ⟨⟨x, hx, Rep.mono hw.memLe v' (NmLe.refl _) hv'⟩, h4⟩
    -- a value that is lent
    have lent : ∀ (v' : AV), Rep G (memPhi w) v' (fun _ => none) x → lend H r (fun _ vs => K true (v' :: vs)) →
        ∃ b us, K b us ∧ us.length = (v :: r).length ∧ (b = false → RepAt G Φ us (fun _ => none) A i) ∧ RepAt G (memPhi w) us (fun _ => none) A i := by
      intro v' hv' hl
      obtain ⟨b, us, h1, h2, _, h4⟩ := ih hl hr
      refine ⟨true, v' :: us, h1, by simp [h2], (fun hb => by cases hb), ?_⟩
      simp only [RepAt]; exact ⟨⟨x, hx, hv'⟩, h4⟩
    simp only [lend] at h
    split at h
    case h_1 n off =>
      split at h
      case h_2 => exact h.elim
      rename_i cs hH
      obtain ⟨hnn, h⟩ := h
      simp only [Rep] at hv
      obtain ⟨hd, hρ, rfl⟩ := hv
      obtain ⟨_, C, ty, fr, h2, h3, h4, h5⟩ := hw.cellsAt hH hρ
      refine lent _ ?_ h
      simp only [Rep]
      exact ⟨hd.b, 0, C, ty, fr, by simp, h2, hnn _ _ _ _ _ _ (RepAt.mono hw.memLe _ (NmLe.refl _) h5)⟩
    case h_2 n off len =>
      split at h
      case h_2 => exact h.elim
      rename_i esz cs hH
      obtain ⟨hfit, hnn, h⟩ := h
      simp only [Rep] at hv
      obtain ⟨hd, hρ, hv⟩ := hv
      obtain ⟨h5, h6⟩ := hw.lstAt hH hρ
      have hl : ((cs.drop (off * esz)).take (len * esz)).length = len * esz := by rw [Nat.add_mul] at hfit; simp; omega
      refine lent _ ?_ h
      simp only [Rep]
      refine ⟨hl, ?_⟩
      rcases hv with ⟨y1, y2, y3, y4⟩ | ⟨y1, y2, y3⟩
      · subst y3; exact ⟨none, 0, Nat.le_refl _, y4, .inl (by simp)⟩
      · rcases h6 with h6 | ⟨_, _, C, ty, fr, h6, h7, h8, h9, h10⟩
        · rw [y1] at h6; cases h6.1
        · rcases y3 with y3 | ⟨y5, y6, ad, c, y7⟩
          · refine ⟨_, _, by omega, y3, .inr ⟨hd.b, off * esz, C, ty, fr, by rw [h5], h6, ?_⟩⟩
            have := RepAt.sub (hnn _ _ _ _ _ _ (RepAt.mono hw.memLe _ (NmLe.refl _) h10)) (ρ := fun _ => none) (off * esz) (len * esz)
            simpa using this
          · subst y6; exact ⟨some ad, c, Nat.zero_le _, y7, .inl (by simp)⟩
    case h_3 n off len esz =>
      split at h
      case h_2 => exact h.elim
      rename_i cs hH
      obtain ⟨hfit, hnn, h⟩ := h
      simp only [Rep] at hv
      obtain ⟨hd, ad, c, hρ, hc, rfl, had⟩ := hv
      obtain ⟨_, C, ty, fr, h2, h3, h4, h5⟩ := hw.cellsAt hH hρ
      have hl : ((cs.drop off).take (len * esz)).length = len * esz := by simp; omega
      refine lent _ ?_ h
      simp only [Rep]
      refine ⟨hl, _, _, hc, rfl, ?_⟩
      rcases had with had | had
      · left; rw [had]; simp
      · right
        refine ⟨hd.b, off, C, ty, fr, by rw [had], h2, ?_⟩
        have := RepAt.sub (hnn _ _ _ _ _ _ (RepAt.mono hw.memLe _ (NmLe.refl _) h5)) (ρ := fun _ => none) off (len * esz)
        simpa using this
    case h_4 => exact plain _ (fun _ _ h => h) (by simpa [Rep] using hv) h
    case h_5 => exact plain _ (fun _ _ h => h) (by simpa [Rep] using hv) h
    case h_6 => exact plain _ (fun _ _ h => h) (by simpa [Rep] using hv) h
    case h_7 => exact plain _ (fun _ _ h => h) (by simpa [Rep] using hv) h
    case h_8 => exact plain _ (fun _ _ h => h) (by simpa [Rep] using hv) h
    case h_9 => exact plain _ (fun _ _ h => h) (by simpa [Rep] using hv) h
    case h_10 => exact plain _ (fun _ _ h => h) (by simpa [Rep] using hv) h
    case h_11 => exact plain _ (fun _ _ h => h) (h.1 _ _ _ _ _ hv) h.2

theorem run_callFunc {P : Program} {f : FuncId} {fn : Func} {args : Array Value} (f1 : P.funcs[f]? = some fn) (f2 : fn.body.isNone = false) (f3 : (fn.name == "runtime.NumGoroutine") = false) (w : World) :
    (callFunc f args).run P w = .ok (.enter f args) w := by
  unfold callFunc
  simp only [Sem.run_bind, run_program, Result.andThen_ok, f1, f3, f2, Bool.false_eq_true, if_false]
  rfl

theorem callX_ok {o : Oper} {a : Act} {Q : Exit → Act → World → Prop} {next : Act → World → Prop} {f : FuncId} {args : Array Value} {P : Program} {w : World} {Post : Ending → World → Prop}
    (hrun : (execOp a.eval o).run P w = (callFunc f args).run P w) (h : CallX P f args w Post) (hpost : ∀ e w', Post e w' → ∃ v, e = .returned v ∧ next (a.put o.dst v) w') : o.wp P a w next Q := by
  unfold Oper.wp
  rcases h with ⟨⟨fn, f1, f2, f3⟩, h⟩ | ⟨v, w', h1, h2⟩
  · rw [hrun, run_callFunc f1 f2 f3, Oper.upon_enter]
    refine Calls.mono h ?_
    intro e w' hp
    obtain ⟨v, rfl, hn⟩ := hpost e w' hp
    exact hn
  · rw [hrun, h1, Oper.upon_value]
    obtain ⟨v', e, hn⟩ := hpost _ _ h2
    cases e
    exact hn

theorem pcall_ok {o : Oper} {S : St} {K : AV → St → Prop} {a : Act} {Q : Exit → Act → World → Prop} {next : Act → World → Prop} {C : PC} {Φ₀ : Phi} {f : FuncId} {A vs : Array Value} {vs0 : List AV}
    (hrun : (execOp a.eval o).run G.P w = (callFunc f (vs ++ A)).run G.P w) (hkeep : KeepsC G C Φ₀ f A) (hle : PhiLe Φ₀ Φ) (hs : vs.size = vs0.length) (hrep : RepAt G Φ vs0 ρ vs 0)
    (hw : Wf G B X w0 ρ Φ S.heap S.next w) (hT : pcall C vs0 S K)
    (hK : ∀ r x w' Φ', K r S → PhiLe Φ Φ' → (∀ b o, Φ' b = some o → Φ b = some o ∨ w.heap.size ≤ b) → Wf G B X w0 ρ Φ' S.heap S.next w' → Rep G Φ' r ρ x → next (a.put o.dst x) w') :
    o.wp G.P a w next Q := by
  obtain ⟨b, us, ⟨x0, hx0, hpre, hT⟩, h2, h3, h4⟩ := lend_ok hw hT hrep
  cases b with
  | false =>
    refine callX_ok hrun (hkeep us w Φ vs hle hw.phi (by omega) (h3 rfl) x0 hx0 hpre) ?_
    rintro e w' ⟨r, v, Φ', rfl, rfl, q1, q2, q3, q4, q5⟩
    exact ⟨v, rfl, hK _ v w' Φ' hT q1 q3 (hw.below q5 q1 q2 q3) (Rep.mono (PhiLe.refl _) _ (fun n h e => by cases e) q4)⟩
  | true =>
    refine callX_ok hrun (hkeep us w (memPhi w) vs (hle.trans hw.memLe) (fun b o e => e) (by omega) h4 x0 hx0 hpre) ?_
    rintro e w' ⟨r, v, Φ', rfl, rfl, q1, q2, q3, q4, q5⟩
    refine ⟨v, rfl, ?_⟩
    refine hK _ v w' Φ hT.2 (PhiLe.refl _) (fun b o e => .inl e) (hw.below q5 (PhiLe.refl _) ?_ (fun b o e => .inl e)) (hT.1 _ _ _ _ _ _ q4)
    intro b o e
    have := hw.phi b o e
    rw [q5.block b (Array.getElem?_eq_some_iff.1 this).1]; exact this

end calls

section ops
variable {G : Gl} {o : Oper}

theorem ok_pcall {C : PC} {f : FuncId} {args : List Operand} {ts : Array TypeId} (ho : o.op = .call { callee := .value (.func f), args := args.toArray, argTypes := ts }) (hC : KeepsC G C (fun _ => none) f #[]) :
    OpOk G o (ex1 (.pcall C args)) := by
  intro B X w0 S K a w ρ Φ Q next he hw hT hK
  simp only [ex1] at hT
  split at hT
  case h_2 => exact hT.elim
  rename_i vs hvs
  obtain ⟨h1, h2⟩ := evsRel he hvs
  have run : (execOp a.eval o).run G.P w = (callFunc f ((args.toArray.map a.eval) ++ #[])).run G.P w := by
    simp [execOp, ho, resolve, Act.eval, Deferred.ofValue, invoke]
  exact pcall_ok run hC (fun _ _ e => by cases e) (by simp [h1]) h2 hw hT fun r x w' Φ' k1 k2 k3 k4 k5 =>
    hK r S x w' ρ Φ' k1 rfl (NmLe.refl _) ⟨k2, fun b o e => (k3 b o e).imp id (fun e => Nat.le_trans hw.base e)⟩ k4 k5

theorem RepAt.cat {Φ : Phi} {ρ : Nm} {us vs : List AV} {A C : Array Value} (h : RepAt G Φ us ρ A 0) (h2 : RepAt G Φ vs ρ C 0) (hA : A.size = us.length) : RepAt G Φ (us ++ vs) ρ (A ++ C) 0 := by
  refine RepAt.mk fun j c hj => ?_
  rw [List.getElem?_append] at hj
  split at hj
  · rename_i hlt
    obtain ⟨x, hx, hr⟩ := RepAt.get h hj
    exact ⟨x, by rw [Nat.zero_add] at hx ⊢; rw [Array.getElem?_append_left (by omega)]; exact hx, hr⟩
  · rename_i hge
    obtain ⟨x, hx, hr⟩ := RepAt.get h2 hj
    exact ⟨x, by rw [Nat.zero_add] at hx ⊢; rw [Array.getElem?_append_right (by omega), hA]; exact hx, hr⟩

theorem ok_vcall {Γ : Nat → Option PC} {x : Operand} {args : List Operand} {ts : Array TypeId} (ho : o.op = .call { callee := .value x, args := args.toArray, argTypes := ts })
    (hΓ : ∀ t C, Γ t = some C → KeepsC G C (fun _ => none) (G.tag t) #[]) : OpOk G o (ex1 (.vcall Γ x args)) := by
  intro B X w0 S K a w ρ Φ Q next he hw hT hK
  simp only [ex1] at hT
  split at hT
  case h_3 => exact hT.elim
  case h_1 =>
    rename_i t caps vs hx hvs
    split at hT
    case h_2 => exact hT.elim
    rename_i C hC
    have hk := hΓ t C hC
    obtain ⟨h1, h2⟩ := evsRel he hvs
    have h3 := evRel he hx
    simp only [Rep] at h3
    obtain ⟨A, h3, h4, h5⟩ := h3
    have run : (execOp a.eval o).run G.P w = (callFunc (G.tag t) (((args.toArray.map a.eval) ++ A) ++ #[])).run G.P w := by
      simp [execOp, ho, resolve, h3, Deferred.ofValue, invoke]
    exact pcall_ok run hk (fun _ _ e => by cases e) (by simp [h1, h4]) (RepAt.cat h2 h5 (by simp [h1])) hw hT fun r x w' Φ' k1 k2 k3 k4 k5 =>
      hK r S x w' ρ Φ' k1 rfl (NmLe.refl _) ⟨k2, fun b o e => (k3 b o e).imp id (fun e => Nat.le_trans hw.base e)⟩ k4 k5
  case h_2 =>
    rename_i R vs hx hvs
    obtain ⟨C, rfl, hT⟩ := hT
    obtain ⟨h1, h2⟩ := evsRel he hvs
    have h3 := evRel he hx
    simp only [Rep] at h3
    obtain ⟨_, Φ₁, hle, f, A, h4, hk⟩ := h3
    have run : (execOp a.eval o).run G.P w = (callFunc f ((args.toArray.map a.eval) ++ A)).run G.P w := by
      simp [execOp, ho, resolve, h4, Deferred.ofValue, invoke]
    exact pcall_ok run hk hle (by simp [h1]) h2 hw hT fun r x w' Φ' k1 k2 k3 k4 k5 =>
      hK r S x w' ρ Φ' k1 rfl (NmLe.refl _) ⟨k2, fun b o e => (k3 b o e).imp id (fun e => Nat.le_trans hw.base e)⟩ k4 k5

theorem ok_panic : OpOk G o (ex1 .panic) := fun _ _ _ _ _ _ _ _ _ _ _ _ _ hT _ => hT.elim

end ops

/-- An operation of the executor stands for one of the model. -/
structure OpRel (G : Gl) (ops : Array Oper) (N : Nat) (o : Oper) (io : IOp) : Prop where
  dst : io.dst = o.dst
  lt : ∀ d, o.dst = some d → d < N
  grd : (o.guard = none ∧ io.guard = none) ∨ ∃ j want g, o.guard = some (j, want) ∧ (ops[j]?).bind (·.dst) = some g ∧ io.guard = some (g, want)
  ok : OpOk G o (ex1 io.io)
  nd : (∀ c, o.op ≠ .defer c) ∨ ∀ S K, ¬ ex1 io.io S K

section region
variable {G : Gl} {B : Nat} {X : Nat → Prop} {Φ0 : Phi} {w0 : World} {N : Nat} {D : Fl} {ops : Array Oper} {R : Option Nat} {n : Nat}

theorem at_put {S : St} {a : Act} {w : World} (h : At G B X Φ0 w0 N D S a w) {d : Option Nat} (hd : ∀ k, d = some k → k < N) {r : AV} {x : Value} (hr : ∀ ρ Φ, Rep G Φ r ρ x) :
    At G B X Φ0 w0 N D (S.set d r) (a.put d x) w := by
  obtain ⟨B1, X1, w1, ρ, Φ, h1, h2, h3, h4, h5, h6⟩ := h
  cases d with
  | none => exact ⟨B1, X1, w1, ρ, Φ, h1, h2, h3, h4, h5, h6⟩
  | some k => exact ⟨B1, X1, w1, ρ, Φ, by simpa [Act.put] using h1, h2, h3, h4, h5.put (by rw [h1]; exact hd k rfl) (hr ρ Φ), h6⟩

theorem wpOp_ok {i : Nat} {o : Oper} {io : IOp} (hi : ops[i]? = some o) (hr : OpRel G ops N o io) {S : St} {K : St → Prop} {a : Act} {w : World} {Q : Exit → Act → World → Prop} {next : Act → World → Prop}
    (hat : At G B X Φ0 w0 N D S a w) (hT : exO io S K) (hn : ∀ S' a' w', K S' → At G B X Φ0 w0 N D S' a' w' → next a' w') : wpOpIn (FR R) n G.P ops Q i next a w := by
  obtain ⟨B1, X1, w1, ρ, Φ, h1, h2, h3, h4, h5, h6⟩ := hat
  have run : ex1 io.io S (fun r S' => K (S'.set io.dst r)) → o.wpIn (FR R) n G.P a w next Q := by
    intro hT
    refine wpIn_of_wp (hr.nd.resolve_right fun hh => hh _ _ hT) ?_
    refine hr.ok B1 X1 w1 S _ a w ρ Φ Q next h5 h6 hT ?_
    intro r S' x w' ρ' Φ' k1 k2 k3 k4 k5 k6
    refine hn _ _ _ k1 ?_
    have hle := h3.trans k4.1
    have hnew : ∀ b o, Φ' b = some o → Φ0 b = some o ∨ B ≤ b := fun b o e => (k4.2 b o e).elim (h4 b o) (fun e => .inr (Nat.le_trans h2.ext.le e))
    have henv : EnvRel G Φ' ρ' S'.env a := by rw [k2]; exact h5.mono k4.1 k3
    rw [hr.dst]
    cases hd : o.dst with
    | none => exact ⟨B1, X1, w1, ρ', Φ', h1, h2.le k3 k4.2, hle, hnew, henv, k5⟩
    | some d => exact ⟨B1, X1, w1, ρ', Φ', by simpa [Act.put] using h1, h2.le k3 k4.2, hle, hnew, henv.put (by rw [h1]; exact hr.lt d hd) k6, k5⟩
  have skip : K (S.set io.dst (.raw undef)) → next (a.put o.dst undef) w := by
    intro hT
    refine hn _ _ _ hT ?_
    rw [hr.dst]
    exact at_put ⟨B1, X1, w1, ρ, Φ, h1, h2, h3, h4, h5, h6⟩ hr.lt (fun ρ Φ => by simp [Rep])
  unfold wpOpIn
  simp only [hi]
  unfold exO at hT
  rcases hr.grd with ⟨g1, g2⟩ | ⟨j, want, g, g1, g2, g3⟩
  · rw [g2] at hT
    have hw1 : Region.wanted o (yielded ops a.tmps) = true := by simp [Region.wanted, g1]
    rw [if_pos hw1]
    exact run hT
  · rw [g3] at hT
    simp only at hT
    have hy : ∀ v x, S.env g = some v → a.tmps[g]? = some x → yielded ops a.tmps j = (match x with | .bool b => some b | _ => none) := by
      intro v x _ hx
      unfold yielded
      rw [g2]
      simp only [Option.bind_some, hx]
      cases x <;> rfl
    split at hT
    · rename_i b hb
      obtain ⟨x, hx, hrep⟩ := h5 g _ hb
      simp only [Rep] at hrep
      subst hrep
      have hyb := hy _ _ hb hx
      simp only at hyb
      have hwant : Region.wanted o (yielded ops a.tmps) = (b == want) := by
        simp only [Region.wanted, g1, hyb]
        cases b <;> cases want <;> rfl
      rw [hwant]
      cases want <;> cases b <;> simp only [cond_true, cond_false] at hT
      · rw [if_pos (by rfl)]; exact run hT
      · rw [if_neg (by decide)]; exact ⟨fun _ _ => trivial, skip hT⟩
      · rw [if_neg (by decide)]; exact ⟨fun _ _ => trivial, skip hT⟩
      · rw [if_pos (by rfl)]; exact run hT
    · rename_i tv hb
      obtain ⟨x, hx, hrep⟩ := h5 g _ hb
      simp only [Rep] at hrep
      subst hrep
      have hyb := hy _ _ hb hx
      simp only at hyb
      have hwant : Region.wanted o (yielded ops a.tmps) = false := by
        simp only [Region.wanted, g1, hyb]
        cases want <;> rfl
      rw [hwant, if_neg (by decide)]
      exact ⟨fun _ _ => trivial, skip hT⟩
    · exact hT.elim

theorem exO_mono {o : IOp} {S : St} {K K' : St → Prop} (hk : ∀ S', K S' → K' S') (h : exO o S K) : exO o S K' := by
  obtain ⟨r, H, n, h1, h2, h3⟩ := exO_det o S K h
  refine h3 S K' (fun _ => rfl) (fun _ => rfl) (fun _ _ => rfl) ?_
  by_cases hc : o.io.cls = 2
  · simp only [hc, if_true]; exact hk _ h1
  · simp only [hc, if_false]
    obtain ⟨e1, e2⟩ := h2 hc
    rw [← e1, ← e2]
    exact hk _ h1

/-- The operations in the order of a list of places. -/
def exIdx (ios : List IOp) : List Nat → St → (St → Prop) → Prop
  | [], S, K => K S
  | i :: r, S, K => match ios[i]? with
    | some o => exO o S (fun S' => exIdx ios r S' K)
    | none => False

theorem exIdx_of (ios : List IOp) : ∀ (l : List IOp) (k : Nat) (S : St) (K : St → Prop), (∀ j, l[j]? = ios[k + j]?) → exOs l S K → exIdx ios (List.range' k l.length) S K
  | [], k, S, K, _, h => h
  | o :: l, k, S, K, hl, h => by
    have h0 : ios[k]? = some o := by have := hl 0; simpa using this.symm
    simp only [List.length_cons, List.range'_succ, exIdx, h0]
    exact exO_mono (fun S' h' => exIdx_of ios l (k + 1) S' K (fun j => by have := hl (j + 1); simp at this; rw [this]; congr 1; omega) h') h

theorem exIdx_front (ios : List IOp) {i : Nat} {o : IOp} (hi : ios[i]? = some o) : ∀ (l1 l2 : List Nat) (S : St) (K : St → Prop), (∀ j ∈ l1, ∃ p, ios[j]? = some p ∧ p.free o = true) →
    exIdx ios (l1 ++ i :: l2) S K → exO o S (fun S' => exIdx ios (l1 ++ l2) S' K)
  | [], l2, S, K, _, h => by simpa [exIdx, hi] using h
  | j :: l1, l2, S, K, hf, h => by
    obtain ⟨p, hp, hfree⟩ := hf j (by simp)
    simp only [List.cons_append, exIdx, hp] at h ⊢
    exact exO_swap hfree (exO_mono (fun S' h' => exIdx_front ios hi l1 l2 S' K (fun j hj => hf j (by simp [hj])) h') h)

/-- In the order of the text. -/
theorem wpOps_ok {ios : List IOp} (hrel : ∀ (i : Nat) (o : Oper), ops[i]? = some o → ∃ io, ios[i]? = some io ∧ OpRel G ops N o io) {Q : Exit → Act → World → Prop} :
    ∀ (l : List Nat) (S : St) (K : St → Prop) (a : Act) (w : World), (∀ i ∈ l, i < ops.size) → At G B X Φ0 w0 N D S a w → exIdx ios l S K → (∀ S' a' w', K S' → At G B X Φ0 w0 N D S' a' w' → Q .normal a' w') → wpOpsIn (FR R) n G.P ops Q l a w
  | [], S, K, a, w, _, hat, h, hq => hq _ _ _ h hat
  | i :: l, S, K, a, w, hl, hat, h, hq => by
    have hlt : i < ops.size := hl i (by simp)
    have hi : ops[i]? = some ops[i] := Array.getElem?_eq_getElem hlt
    obtain ⟨io, hio, hr⟩ := hrel i _ hi
    simp only [exIdx, hio] at h
    rw [wpOpsIn_cons]
    exact wpOp_ok hi hr hat h fun S' a' w' hk hat' => wpOps_ok hrel l S' K a' w' (fun i hi => hl i (by simp [hi])) hat' hk hq

/-- For each operation, the bits of those that must come before it. -/
def msks : List Oper → List Nat → List Nat
  | [], acc => acc
  | o :: r, acc => msks r (acc ++ [o.after.toList.foldl (fun s e => if Region.binds .any e then s ||| 2 ^ e.on ||| acc.getD e.on 0 else s) 0])

def pairsOk (ms : List Nat) (ios : List IOp) : Bool :=
  (List.range ios.length).all fun i => (List.range i).all fun j => (ms.getD i 0).testBit j || (match ios[j]?, ios[i]? with | some p, some o => p.free o | _, _ => false)

def backOk (ops : List Oper) : Bool := (ops.zipIdx).all fun x => x.1.after.toList.all fun e => !Region.binds .any e || decide (e.on < x.2)

theorem fold_bit (acc : List Nat) (j : Nat) : ∀ (es : List Edge) (s : Nat), (es.foldl (fun s e => if Region.binds .any e then s ||| 2 ^ e.on ||| acc.getD e.on 0 else s) s).testBit j = true →
    s.testBit j = true ∨ ∃ e ∈ es, Region.binds .any e = true ∧ (e.on = j ∨ (acc.getD e.on 0).testBit j = true)
  | [], s, h => .inl h
  | e :: es, s, h => by
    rw [List.foldl_cons] at h
    rcases fold_bit acc j es _ h with h1 | ⟨e', he', h2⟩
    · split at h1
      · rename_i hb
        simp only [Nat.testBit_or, Bool.or_eq_true] at h1
        rcases h1 with (h1 | h1) | h1
        · exact .inl h1
        · rw [Nat.testBit_two_pow] at h1
          exact .inr ⟨e, by simp, hb, .inl (by simpa using h1)⟩
        · exact .inr ⟨e, by simp, hb, .inr h1⟩
      · exact .inl h1
    · exact .inr ⟨e', by simp [he'], h2⟩

theorem msks_spec (all : List Oper) : ∀ (l : List Oper) (acc : List Nat), (∃ pre, all = pre ++ l ∧ acc.length = pre.length) →
    (∀ i j, i < acc.length → (acc.getD i 0).testBit j = true → ∃ o, all[i]? = some o ∧ ∃ e ∈ o.after.toList, Region.binds .any e = true ∧ (e.on = j ∨ ((e.on < acc.length) ∧ (acc.getD e.on 0).testBit j = true))) →
    (msks l acc).length = all.length ∧
    ∀ i j, ((msks l acc).getD i 0).testBit j = true → ∃ o, all[i]? = some o ∧ ∃ e ∈ o.after.toList, Region.binds .any e = true ∧ (e.on = j ∨ ((msks l acc).getD e.on 0).testBit j = true)
  | [], acc, ⟨pre, h1, h2⟩, hacc => by
    refine ⟨by simp [msks, h1, h2], fun i j h => ?_⟩
    by_cases hi : i < acc.length
    · obtain ⟨o, ho, e, he, hb, h3⟩ := hacc i j hi h
      exact ⟨o, ho, e, he, hb, h3.imp id (fun h => h.2)⟩
    · simp only [msks] at h
      rw [List.getD_eq_getElem?_getD, List.getElem?_eq_none (by omega)] at h
      simp at h
  | o :: l, acc, ⟨pre, h1, h2⟩, hacc => by
    simp only [msks]
    refine msks_spec all l _ ⟨pre ++ [o], by simp [h1], by simp [h2]⟩ ?_
    intro i j hi h
    have hget : ∀ k, k < acc.length → ∀ x, (acc ++ [x]).getD k 0 = acc.getD k 0 := by
      intro k hk x
      simp [List.getD_eq_getElem?_getD, List.getElem?_append_left hk]
    by_cases hia : i < acc.length
    · rw [hget i hia] at h
      obtain ⟨o', ho, e, he, hb, h3⟩ := hacc i j hia h
      refine ⟨o', ho, e, he, hb, h3.imp id (fun ⟨h4, h5⟩ => ⟨by simp; omega, by rw [hget _ h4]; exact h5⟩)⟩
    · have hia' : i = acc.length := by simp at hi; omega
      subst hia'
      have hx : ∀ x, (acc ++ [x]).getD acc.length 0 = x := by intro x; simp [List.getD_eq_getElem?_getD]
      rw [hx] at h
      rcases fold_bit acc j _ _ h with h3 | ⟨e, he, hb, h3⟩
      · simp at h3
      · refine ⟨o, by rw [h1, h2]; simp, e, he, hb, h3.imp id fun h4 => ?_⟩
        have hlt : e.on < acc.length := by
          by_cases hc : e.on < acc.length
          · exact hc
          · rw [List.getD_eq_getElem?_getD, List.getElem?_eq_none (by omega)] at h4; simp at h4
        exact ⟨by simp; omega, by rw [hget _ hlt]; exact h4⟩

theorem any_ok {ios : List IOp} (hrel : ∀ (i : Nat) (o : Oper), ops[i]? = some o → ∃ io, ios[i]? = some io ∧ OpRel G ops N o io) (hlen : ios.length = ops.size)
    (hpairs : pairsOk (msks ops.toList []) ios = true) (hback : backOk ops.toList = true) {Q : Exit → Act → World → Prop} {K : St → Prop} (hq : ∀ S' a' w', K S' → At G B X Φ0 w0 N D S' a' w' → Q .normal a' w') :
    ∀ (fuel : Nat) (listed : Array Bool) (S : St) (a : Act) (w : World), listed.size = ops.size →
      (∀ (i : Nat) (o : Oper), ops[i]? = some o → listed.getD i false = true → ∀ e ∈ o.after, Region.binds .any e = true → listed.getD e.on false = true) →
      ((List.range ops.size).filter fun i => !listed.getD i true).length ≤ fuel →
      At G B X Φ0 w0 N D S a w → exIdx ios ((List.range ops.size).filter fun i => !listed.getD i true) S K → wpAnyIn (FR R) n G.P .any ops Q fuel listed a w := by
  have hback' : ∀ (i : Nat) (o : Oper), ops[i]? = some o → ∀ e ∈ o.after, Region.binds .any e = true → e.on < i := by
    intro i o hi e he hb
    unfold backOk at hback
    rw [List.all_eq_true] at hback
    have := hback (o, i) (by rw [List.mem_zipIdx_iff_getElem?]; simpa using hi)
    rw [List.all_eq_true] at this
    have := this e (by simpa using he)
    simpa [hb] using this
  obtain ⟨hml, hms⟩ := msks_spec ops.toList ops.toList [] ⟨[], by simp, rfl⟩ (fun i j hi => by simp at hi)
  intro fuel
  induction fuel with
  | zero =>
    intro listed S a w hs hd hl hat h
    have hR : ((List.range ops.size).filter fun i => !listed.getD i true) = [] := List.length_eq_zero_iff.1 (by omega)
    rw [hR] at h
    refine ⟨?_, hq _ _ _ h hat⟩
    rw [List.eq_nil_iff_forall_not_mem]
    intro i hi
    have h1 := mem_ready.1 hi
    obtain ⟨h1, o, ho, _⟩ := h1
    have : i ∈ ((List.range ops.size).filter fun i => !listed.getD i true) := by
      rw [List.mem_filter]
      exact ⟨List.mem_range.2 (Array.getElem?_eq_some_iff.1 ho).1, by simp [h1]⟩
    rw [hR] at this
    cases this
  | succ fuel ih =>
    intro listed S a w hs hd hl hat h
    have getD_eq : ∀ k, k < ops.size → listed.getD k true = listed.getD k false := by
      intro k hk
      simp [Array.getD, hs, hk]
    refine ⟨?_, ?_⟩
    · -- nothing is ready: all has run
      intro hnil
      cases hR : ((List.range ops.size).filter fun i => !listed.getD i true) with
      | nil => rw [hR] at h; exact hq _ _ _ h hat
      | cons i0 r0 =>
        exfalso
        -- the first that has not run is ready
        have hex : ∃ n, n < ops.size ∧ listed.getD n true = false := by
          have : i0 ∈ ((List.range ops.size).filter fun i => !listed.getD i true) := by rw [hR]; simp
          rw [List.mem_filter] at this
          exact ⟨i0, List.mem_range.1 this.1, by simpa using this.2⟩
        obtain ⟨n, ⟨hn1, hn2⟩, hmin⟩ := exists_least hex
        have hop : ops[n]? = some ops[n] := Array.getElem?_eq_getElem hn1
        have : n ∈ Region.ready .any ops listed := by
          rw [mem_ready]
          refine ⟨hn2, _, hop, fun e he hb => ?_⟩
          have hlt := hback' n _ hop e he hb
          cases hc : listed.getD e.on false with
          | true => rfl
          | false =>
            exfalso
            have := hmin e.on ⟨by omega, by rw [getD_eq _ (by omega)]; exact hc⟩
            omega
        rw [hnil] at this
        cases this
    · intro i hi
      obtain ⟨h1, o, ho, h2⟩ := mem_ready.1 hi
      have hisz : i < ops.size := (Array.getElem?_eq_some_iff.1 ho).1
      obtain ⟨io, hio, hr⟩ := hrel i o ho
      have hmem : i ∈ ((List.range ops.size).filter fun i => !listed.getD i true) := by
        rw [List.mem_filter]
        exact ⟨List.mem_range.2 hisz, by simp [h1]⟩
      obtain ⟨l1, l2, hR⟩ := List.append_of_mem hmem
      have hsorted : (((List.range ops.size).filter fun i => !listed.getD i true)).Pairwise (· < ·) := List.Pairwise.filter _ List.pairwise_lt_range
      rw [hR] at hsorted h
      have hl1 : ∀ j ∈ l1, j < i := by
        intro j hj
        rw [List.pairwise_append] at hsorted
        exact hsorted.2.2 j hj i (by simp)
      have hl1' : ∀ j ∈ l1, j < ops.size ∧ listed.getD j true = false := by
        intro j hj
        have : j ∈ ((List.range ops.size).filter fun i => !listed.getD i true) := by rw [hR]; simp [hj]
        rw [List.mem_filter] at this
        exact ⟨List.mem_range.1 this.1, by simpa using this.2⟩
      -- what must come before has run
      have before : ∀ n, ∀ k, k ≤ n → (∀ o', ops[k]? = some o' → ∀ e ∈ o'.after, Region.binds .any e = true → listed.getD e.on false = true) → ∀ j, ((msks ops.toList []).getD k 0).testBit j = true → listed.getD j false = true := by
        intro n
        induction n with
        | zero =>
          intro k hk hp j hj
          obtain ⟨o', ho', e, he, hb, h3⟩ := hms k j hj
          have ho'' : ops[k]? = some o' := by simpa using ho'
          have := hback' k o' ho'' e (by simpa using he) hb
          omega
        | succ n ihn =>
          intro k hk hp j hj
          obtain ⟨o', ho', e, he, hb, h3⟩ := hms k j hj
          have ho'' : ops[k]? = some o' := by simpa using ho'
          have hlt := hback' k o' ho'' e (by simpa using he) hb
          have hon := hp o' ho'' e (by simpa using he) hb
          rcases h3 with h3 | h3
          · rw [← h3]; exact hon
          · exact ihn e.on (by omega) (fun o2 ho2 e2 he2 hb2 => hd e.on o2 ho2 hon e2 he2 hb2) j h3
      have hfree : ∀ j ∈ l1, ∃ p, ios[j]? = some p ∧ p.free io = true := by
        intro j hj
        obtain ⟨hj1, hj2⟩ := hl1' j hj
        have hji := hl1 j hj
        unfold pairsOk at hpairs
        rw [List.all_eq_true] at hpairs
        have := hpairs i (List.mem_range.2 (by omega))
        rw [List.all_eq_true] at this
        have := this j (List.mem_range.2 hji)
        rw [Bool.or_eq_true] at this
        rcases this with h4 | h4
        · exfalso
          have h5 := before i i (Nat.le_refl _) (fun o2 ho2 => by rw [ho] at ho2; cases ho2; exact h2) j h4
          rw [getD_eq _ hj1, h5] at hj2
          cases hj2
        · rw [hio] at h4
          split at h4
          · rename_i p o2 hp ho2
            cases ho2
            exact ⟨p, hp, h4⟩
          · cases h4
      have hT := exIdx_front ios hio l1 l2 S K hfree h
      have hfilter : ((List.range ops.size).filter fun k => !(listed.setIfInBounds i true).getD k true) = l1 ++ l2 := by
        have hnd : i ∉ l1 ++ l2 := by
          intro hm
          have hnodup : (l1 ++ i :: l2).Nodup := hsorted.imp (fun h => Nat.ne_of_lt h)
          rw [List.nodup_append] at hnodup
          rcases List.mem_append.1 hm with hm | hm
          · exact hnodup.2.2 i hm i (by simp) rfl
          · exact (List.nodup_cons.1 hnodup.2.1).1 hm
        have hcomp : ((List.range ops.size).filter fun k => !(listed.setIfInBounds i true).getD k true) = ((List.range ops.size).filter fun k => !listed.getD k true).filter (fun k => k != i) := by
          rw [List.filter_filter]
          apply List.filter_congr
          intro k hk
          have hk' := List.mem_range.1 hk
          by_cases hki : k = i
          · subst hki; simp [Array.getD, hs, hk']
          · simp [Array.getD, hs, hk', hki, Ne.symm hki]
        rw [hcomp, hR, List.filter_append, List.filter_cons]
        have e1 : l1.filter (fun k => k != i) = l1 := List.filter_eq_self.2 fun k hk => by
          have : k ≠ i := fun e => hnd (List.mem_append_left _ (e ▸ hk))
          simpa using this
        have e2 : l2.filter (fun k => k != i) = l2 := List.filter_eq_self.2 fun k hk => by
          have : k ≠ i := fun e => hnd (List.mem_append_right _ (e ▸ hk))
          simpa using this
        simp [e1, e2]
      refine wpOp_ok ho hr hat hT fun S' a' w' hk hat' => ?_
      refine ih (listed.setIfInBounds i true) S' a' w' (by simpa using hs) ?_ ?_ hat' (by rw [hfilter]; exact hk)
      · intro k o2 ho2 hk2 e he hb
        have set_mono : ∀ m, listed.getD m false = true → (listed.setIfInBounds i true).getD m false = true := by
          intro m hm
          by_cases hmi : m = i
          · subst hmi; simp [Array.getD, hs, hisz]
          · simp only [Array.getD] at hm ⊢
            split at hm
            · rename_i hlt
              simp [hlt, Ne.symm hmi]
              simpa using hm
            · cases hm
        by_cases hki : k = i
        · subst hki
          rw [ho] at ho2; cases ho2
          exact set_mono _ (h2 e he hb)
        · have : listed.getD k false = true := by
            have hksz := (Array.getElem?_eq_some_iff.1 ho2).1
            simpa [Array.getD, hs, hksz, Array.getElem_setIfInBounds, Ne.symm hki] using hk2
          exact set_mono _ (hd k o2 ho2 this e he hb)
      · rw [hfilter]
        rw [hR] at hl
        simp at hl ⊢
        omega

end region
end Qk

/-
  Code, functions and their contracts.
-/
namespace Qk
open Go Go.RowKit

abbrev Heap := Nat → Option AO
/-- What a call does whose callee shares the caller's memory. -/
abbrev HTran := List AV → Heap → Nat → (AV → Heap → Nat → Prop) → Prop
/-- What a call of yield does: by the loop's record. -/
abbrev YT := Nat → List AV → Heap → Nat → (Heap → Nat → Prop) → Prop
/-- What an iterator does, by what its yield does. -/
abbrev ITran := (List AV → Heap → Nat → (Heap → Nat → Prop) → Prop) → List AV → Heap → Nat → (Heap → Nat → Prop) → Prop

abbrev Gd := Option (Nat × Bool)

/-- Operations in the order of the text: among them calls that share the memory, and calls of yield. -/
inductive SO where
  | op (o : IOp)
  | call (g : Gd) (d : Option Nat) (T : HTran) (args : List Operand)
  | dyn (o : IOp) (Γ : Nat → Option HTran) (x : Operand) (args : List Operand)

inductive IC where
  | skip
  | ops (l : List IOp)
  | sops (l : List SO)
  | seq (a b : IC)
  | cond (c : Operand) (t e : IC)
  | block (id : Nat) (b : IC)
  | loop (b : IC)
  | rfunc (its : Nat → Option ITran) (g : Operand) (ps : List Nat) (b : IC)
  | exit (id : Nat)
  | ret
  | jn (b : IC)

/-- What a code is walked in: the names below m keep their meaning; the yield at hand. -/
structure Cx where
  m : Nat
  Y : YT

def noY : YT := fun _ _ _ _ _ => False
def Cx.top : Cx := ⟨0, noY⟩

/-- Whatever frame and world stand to the one state stand to the other: it says less, or names things otherwise, those below m excepted. -/
def SubSt (m : Nat) (S S' : St) : Prop := ∀ G B X Φ0 w0 N D a w, D.m ≤ m → At G B X Φ0 w0 N D S a w → At G B X Φ0 w0 N D S' a w
theorem SubSt.refl {m : Nat} (S : St) : SubSt m S S := fun _ _ _ _ _ _ _ _ _ _ h => h
theorem SubSt.trans {m : Nat} {S T U : St} (h : SubSt m S T) (k : SubSt m T U) : SubSt m S U := fun _ _ _ _ _ _ _ _ _ hm e => k _ _ _ _ _ _ _ _ _ hm (h _ _ _ _ _ _ _ _ _ hm e)

def grd (g : Gd) (S : St) (run skip : Prop) : Prop :=
  match g with
  | none => run
  | some (g, want) => match S.env g with
    | some (.bool b) => match want with
      | true => cond b run skip
      | false => cond b skip run
    | some (.raw (.tuple _)) => skip
    | _ => False

def sos (Y : YT) : List SO → St → (St → Prop) → Prop
  | [], S, K => K S
  | .op o :: r, S, K => exO o S (fun S' => sos Y r S' K)
  | .call g d T args :: r, S, K => grd g S
      (match S.evs args with
      | some vs => T vs S.heap S.next (fun v H nx => sos Y r (St.set ⟨S.env, H, nx⟩ d v) K)
      | none => False) (sos Y r (S.set d (.raw undef)) K)
  | .dyn o Γ x args :: r, S, K => match S.ev x with
    | some (.raw (.func (.yield l) f _)) => grd o.guard S
      (match S.evs args with
      | some vs => f = #[] ∧ Y l vs S.heap S.next (fun H nx => sos Y r (St.set ⟨S.env, H, nx⟩ o.dst (.bool true)) K)
      | none => False) (sos Y r (S.set o.dst (.raw undef)) K)
    | some (.clo t caps) => match Γ t with
      | some T => grd o.guard S
        (match S.evs args with
        | some vs => T (vs ++ caps) S.heap S.next (fun v H nx => sos Y r (St.set ⟨S.env, H, nx⟩ o.dst v) K)
        | none => False) (sos Y r (S.set o.dst (.raw undef)) K)
      | none => exO o S (fun S' => sos Y r S' K)
    | _ => exO o S (fun S' => sos Y r S' K)

/-- The slots ks hold the values. -/
def updL (env : Nat → Option AV) : List Nat → List AV → Nat → Option AV
  | k :: ks, v :: vs => updL (upd env k (some v)) ks vs
  | _, _ => env

def awp (c : Cx) : IC → (Exit → St → Prop) → St → Prop
  | .skip, K, S => K .normal S
  | .ops l, K, S => exOs l S (K .normal)
  | .sops l, K, S => sos c.Y l S (K .normal)
  | .seq a b, K, S => awp c a (fun e S' => match e with | .normal => awp c b K S' | e => K e S') S
  | .cond x t e, K, S => match S.ev x with
    | some (.bool b) => cond b (awp c t K S) (awp c e K S)
    | _ => False
  | .block id b, K, S => awp c b (fun e S' => match e with | .exit j => cond (Nat.beq j id) (K .normal S') (K (.exit j) S') | e => K e S') S
  | .loop b, K, S => ∃ (X : Type) (ok : X → Prop) (I : X → St) (μ : X → Nat) (x0 : X), ok x0 ∧ SubSt c.m S (I x0) ∧
      ∀ x, ok x → awp c b (fun e S' => match e with | .normal => ∃ x', ok x' ∧ μ x' < μ x ∧ SubSt c.m S' (I x') | e => K e S') (I x)
  | .rfunc its g ps b, K, S => match S.ev g with
    | some (.clo t caps) => match its t with
      | some T => T (fun vs H nx J => vs.length = ps.length ∧ awp ⟨nx, c.Y⟩ b (fun e S' => match e with | .normal => J S'.heap S'.next | _ => False) ⟨updL S.env ps vs, H, nx⟩)
          caps S.heap S.next (fun H nx => K .normal ⟨S.env, H, nx⟩)
      | none => False
    | _ => False
  | .exit id, K, S => K (.exit id) S
  | .ret, K, S => K .ret S
  | .jn b, K, S => ∃ K' : Exit → St → Prop, (∀ e S', K' e S' → ∃ S'', SubSt c.m S' S'' ∧ K e S'') ∧ awp c b K' S

/-- Ways that meet again meet in the states I. -/
theorem jn_at {c : Cx} {b : IC} {K : Exit → St → Prop} {S : St} {X : Type} (I : X → St) (ok : X → Prop)
    (h : awp c b (fun e S' => match e with | .normal => ∃ x, ok x ∧ SubSt c.m S' (I x) | e => K e S') S) (hr : ∀ x, ok x → K .normal (I x)) : awp c (.jn b) K S := by
  refine ⟨_, ?_, h⟩
  intro e S' hk
  cases e with
  | normal => obtain ⟨x, h1, h2⟩ := hk; exact ⟨I x, h2, hr x h1⟩
  | exit id => exact ⟨S', SubSt.refl _, hk⟩
  | goto l => exact ⟨S', SubSt.refl _, hk⟩
  | ret => exact ⟨S', SubSt.refl _, hk⟩
  | panic ch => exact ⟨S', SubSt.refl _, hk⟩
  | outgrown => exact ⟨S', SubSt.refl _, hk⟩
theorem jn_plain {c : Cx} {b : IC} {K : Exit → St → Prop} {S : St} (h : awp c b K S) : awp c (.jn b) K S := ⟨K, fun _ S' hk => ⟨S', SubSt.refl _, hk⟩, h⟩

/-- Yield does what is said of it. -/
def YOk (G : Gl) (Y : YT) (B : Nat) (X : Nat → Prop) (w0 : World) (Φ0 : Phi) (nm0 : Nm) : Prop :=
  ∀ l us vs H nx K B1 X1 w1 ρ Φ w n, Ext B X w0 B1 X1 w1 → B1 ≤ w1.heap.size → NmLe nm0 ρ → PhiLe Φ0 Φ → (∀ b o, Φ b = some o → Φ0 b = some o ∨ B ≤ b) →
    Wf G B1 X1 w1 ρ Φ H nx w → vs.size = us.length → RepAt G Φ us ρ vs 0 → Y l us H nx K →
    ∃ fn tmps asg body, (Instr.yield l vs).run G.P w = .ok (.round l fn tmps asg body) w ∧ RoundIn Fence.wide n G.P l fn tmps asg body w (fun e w' => e = .returned (.bool true) ∧
      ∃ H' nx' ρ' Φ', K H' nx' ∧ NmLe ρ ρ' ∧ PhiLe Φ Φ' ∧ (∀ b o, Φ' b = some o → Φ b = some o ∨ B1 ≤ b) ∧ Wf G B1 X1 w1 ρ' Φ' H' nx' w')

theorem YOk.none {G : Gl} {B : Nat} {X : Nat → Prop} {w0 : World} {Φ0 : Phi} {nm0 : Nm} : YOk G noY B X w0 Φ0 nm0 := fun _ _ _ _ _ _ _ _ _ _ _ _ _ _ _ _ _ _ _ _ _ h => h.elim
theorem YOk.ext {G : Gl} {Y : YT} {B : Nat} {X : Nat → Prop} {w0 : World} {Φ0 : Phi} {nm0 : Nm} {B1 : Nat} {X1 : Nat → Prop} {w1 : World} {Φ1 : Phi} {nm1 : Nm} (h : YOk G Y B X w0 Φ0 nm0) (e : Ext B X w0 B1 X1 w1)
    (hm : NmLe nm0 nm1) (hle : PhiLe Φ0 Φ1) (hn : ∀ b o, Φ1 b = some o → Φ0 b = some o ∨ B ≤ b) : YOk G Y B1 X1 w1 Φ1 nm1 :=
  fun l us vs H nx K B2 X2 w2 ρ Φ w n e2 hb hm2 hle2 hn2 => h l us vs H nx K B2 X2 w2 ρ Φ w n (e.trans e2) hb (hm.trans hm2) (hle.trans hle2) (fun b o eq => (hn2 b o eq).elim (hn b o) (fun q => .inr (Nat.le_trans e.le q)))

/-- An iterator, whatever its yield does. -/
def KeepsI (G : Gl) (T : ITran) (f : FuncId) : Prop :=
  (∃ fn, G.P.funcs[f]? = some fn ∧ fn.body.isNone = false ∧ (fn.name == "runtime.NumGoroutine") = false) ∧
  ∀ l Y B X w0 ρ Φ H nx w us vs K, B ≤ w0.heap.size → YOk G (fun l' us H nx J => l' = l ∧ Y us H nx J) B X w0 Φ ρ → Wf G B X w0 ρ Φ H nx w → vs.size = us.length → RepAt G Φ us ρ vs 0 → T Y us H nx K →
    Calls G.P f (#[.func (.yield l) #[] #[]] ++ vs) w (fun e w' => ∃ v ρ' Φ' H' nx', e = .returned v ∧ K H' nx' ∧ NmLe ρ ρ' ∧ PhiLe Φ Φ' ∧ (∀ b o, Φ' b = some o → Φ b = some o ∨ B ≤ b) ∧
      Wf G B X w0 ρ' Φ' H' nx' w')

/-- A call of the function f shares the memory so. -/
def KeepsH (G : Gl) (T : HTran) (f : FuncId) : Prop :=
  (∃ fn, G.P.funcs[f]? = some fn ∧ fn.body.isNone = false ∧ (fn.name == "runtime.NumGoroutine") = false) ∧
  ∀ B X w0 ρ Φ H nx w us vs K, B ≤ w0.heap.size → Wf G B X w0 ρ Φ H nx w → vs.size = us.length → RepAt G Φ us ρ vs 0 → T us H nx K →
    Calls G.P f vs w (fun e w' => ∃ r v ρ' Φ' H' nx', e = .returned v ∧ K r H' nx' ∧ NmLe ρ ρ' ∧ PhiLe Φ Φ' ∧ (∀ b o, Φ' b = some o → Φ b = some o ∨ B ≤ b) ∧
      Wf G B X w0 ρ' Φ' H' nx' w' ∧ Rep G Φ' r ρ' v)

def CodeOk (G : Gl) (N : Nat) (rd : Bool) (c : Code) (ic : IC) : Prop :=
  ∀ (x : Cx) (R : Option Nat) (n : Nat) (B : Nat) (X : Nat → Prop) (Φ0 : Phi) (w0 : World) (D : Fl) (K : Exit → St → Prop) (S : St) (a : Act) (w : World) (Q : Exit → Act → World → Prop),
    (rd = false → R = none) → D.m ≤ x.m → YOk G x.Y B X w0 Φ0 D.nm →
    At G B X Φ0 w0 N D S a w → awp x ic K S → (∀ e S' a' w', K e S' → At G B X Φ0 w0 N D S' a' w' → Q e a' w') → c.wpIn (FR R) n G.P Q a w

section
variable {G : Gl} {N : Nat} {rd : Bool}

theorem CodeOk.skip : CodeOk G N rd .skip .skip := fun _ _ _ _ _ _ _ _ _ _ _ _ _ _ _ _ hat h hq => wpIn_skip (hq _ _ _ _ h hat)
theorem CodeOk.exit {id : Nat} : CodeOk G N rd (.exit id) (.exit id) := fun _ _ _ _ _ _ _ _ _ _ _ _ _ _ _ _ hat h hq => wpIn_exit (hq _ _ _ _ h hat)
theorem CodeOk.ret : CodeOk G N rd .ret .ret := fun _ _ _ _ _ _ _ _ _ _ _ _ _ _ _ _ hat h hq => wpIn_ret (hq _ _ _ _ h hat)
theorem CodeOk.label {l : Nat} : CodeOk G N rd (.label l) .skip := fun _ _ _ _ _ _ _ _ _ _ _ _ _ _ _ _ hat h hq => wpIn_label (hq _ _ _ _ h hat)

theorem CodeOk.seq {c d : Code} {ic id : IC} (h1 : CodeOk G N rd c ic) (h2 : CodeOk G N rd d id) : CodeOk G N rd (.seq c d) (.seq ic id) := by
  intro x R n B X Φ0 w0 D K S a w Q hR hm hY hat h hq
  refine wpIn_seq (h1 x R n B X Φ0 w0 D _ S a w _ hR hm hY hat h ?_)
  intro e S' a' w' hk hat'
  cases e with
  | normal => exact h2 x R n B X Φ0 w0 D K S' a' w' Q hR hm hY hat' hk hq
  | exit id => exact hq _ _ _ _ hk hat'
  | goto l => exact hq _ _ _ _ hk hat'
  | ret => exact hq _ _ _ _ hk hat'
  | panic ch => exact hq _ _ _ _ hk hat'
  | outgrown => exact hq _ _ _ _ hk hat'

theorem CodeOk.cond {x : Operand} {c d : Code} {ic jc : IC} (h1 : CodeOk G N rd c ic) (h2 : CodeOk G N rd d jc) : CodeOk G N rd (.cond x c d) (.cond x ic jc) := by
  intro cx R n B X Φ0 w0 D K S a w Q hR hm hY hat h hq
  simp only [awp] at h
  split at h
  case h_2 => exact h.elim
  rename_i b hb
  obtain ⟨B1, X1, w1, ρ, Φ, a1, a2, a3, a4, a5, a6⟩ := id hat
  have h0 := evRel a5 hb
  simp only [Rep] at h0
  refine wpIn_cond h0 ?_
  cases b
  · exact h2 cx R n B X Φ0 w0 D K S a w Q hR hm hY hat h hq
  · exact h1 cx R n B X Φ0 w0 D K S a w Q hR hm hY hat h hq

theorem CodeOk.block {id : Nat} {c : Code} {ic : IC} (h1 : CodeOk G N rd c ic) : CodeOk G N rd (.block id c) (.block id ic) := by
  intro x R n B X Φ0 w0 D K S a w Q hR hm hY hat h hq
  refine wpIn_block (h1 x R n B X Φ0 w0 D _ S a w _ hR hm hY hat h ?_)
  intro e S' a' w' hk hat'
  cases e with
  | exit j =>
    simp only [Exit.inBlock]
    simp only at hk
    by_cases hj : j = id
    · subst hj
      have : Nat.beq j j = true := by simp
      rw [this] at hk
      rw [if_pos rfl]
      exact hq _ _ _ _ hk hat'
    · have : Nat.beq j id = false := by
        cases hh : Nat.beq j id with
        | true => exact absurd (Nat.eq_of_beq_eq_true hh) hj
        | false => rfl
      rw [this] at hk
      rw [if_neg hj]
      exact hq _ _ _ _ hk hat'
  | normal => exact hq _ _ _ _ hk hat'
  | goto l => exact hq _ _ _ _ hk hat'
  | ret => exact hq _ _ _ _ hk hat'
  | panic ch => exact hq _ _ _ _ hk hat'
  | outgrown => exact hq _ _ _ _ hk hat'

theorem CodeOk.loop {c : Code} {ic : IC} (h1 : CodeOk G N rd c ic) : CodeOk G N rd (.loop c) (.loop ic) := by
  intro cx R n B X Φ0 w0 D K S a w Q hR hm hY hat h hq
  simp only [awp] at h
  obtain ⟨T, ok, I, μ, x0, hok, hsub, hround⟩ := h
  refine wpIn_loop_ghost (fun n a w => ∃ x, ok x ∧ μ x = n ∧ At G B X Φ0 w0 N D (I x) a w) (μ x0) ⟨x0, hok, rfl, hsub _ _ _ _ _ _ _ _ _ hm hat⟩ ?_
  rintro k a' w' ⟨x, hokx, rfl, hat'⟩
  refine h1 cx R n B X Φ0 w0 D _ (I x) a' w' _ hR hm hY hat' (hround x hokx) ?_
  intro e S'' a'' w'' hk hat''
  cases e with
  | normal =>
    obtain ⟨x', hok', hlt, hs⟩ := hk
    exact ⟨μ x', hlt, x', hok', rfl, hs _ _ _ _ _ _ _ _ _ hm hat''⟩
  | exit id => exact hq _ _ _ _ hk hat''
  | goto l => exact hq _ _ _ _ hk hat''
  | ret => exact hq _ _ _ _ hk hat''
  | panic ch => exact hq _ _ _ _ hk hat''
  | outgrown => exact hq _ _ _ _ hk hat''

theorem CodeOk.jn {c : Code} {ic : IC} (h1 : CodeOk G N rd c ic) : CodeOk G N rd c (.jn ic) := by
  intro x R n B X Φ0 w0 D K S a w Q hR hm hY hat h hq
  obtain ⟨K', h2, h3⟩ := h
  refine h1 x R n B X Φ0 w0 D K' S a w Q hR hm hY hat h3 ?_
  intro e S' a' w' hk hat'
  obtain ⟨S'', hs, hk'⟩ := h2 e S' hk
  exact hq _ _ _ _ hk' (hs _ _ _ _ _ _ _ _ _ hm hat')

theorem at_drew {B : Nat} {X : Nat → Prop} {Φ0 : Phi} {w0 : World} {D : Fl} {S : St} {a : Act} {w : World} (h : At G B X Φ0 w0 N D S a w) : At G B X Φ0 w0 N D S a { w with drawn := w.drawn + 1 } := by
  obtain ⟨B1, X1, w1, ρ, Φ, a1, a2, a3, a4, a5, a6⟩ := h
  exact ⟨B1, X1, w1, ρ, Φ, a1, a2, a3, a4, a5, a6.drew _⟩

theorem CodeOk.region {id : Nat} {ops : Array Oper} {ios : List IOp} (hrel : ∀ (i : Nat) (o : Oper), ops[i]? = some o → ∃ io, ios[i]? = some io ∧ OpRel G ops N o io) (hlen : ios.length = ops.size) :
    CodeOk G N rd (.region id ops false) (.ops ios) := by
  intro x R n B X Φ0 w0 D K S a w Q hR hm hY hat h hq
  refine wpIn_region ?_
  have h' := exIdx_of ios ios 0 S _ (fun j => by simp) h
  rw [hlen, ← List.range_eq_range'] at h'
  exact wpOps_ok hrel _ S _ a w (fun i hi => List.mem_range.1 hi) hat h' fun S' a' w' hk hat' => hq _ _ _ _ hk hat'

theorem CodeOk.regionDraw {id : Nat} {ops : Array Oper} {ios : List IOp} (hm : G.P.follows .mixedOrders = true) (hrel : ∀ (i : Nat) (o : Oper), ops[i]? = some o → ∃ io, ios[i]? = some io ∧ OpRel G ops N o io)
    (hlen : ios.length = ops.size) (hpairs : pairsOk (msks ops.toList []) ios = true) (hback : backOk ops.toList = true) : CodeOk G N rd (.region id ops true) (.ops ios) := by
  intro x R n B X Φ0 w0 D K S a w Q hR _ hY hat h hq
  refine wpIn_region_any hm ?_
  have h' := exIdx_of ios ios 0 S _ (fun j => by simp) h
  rw [hlen, ← List.range_eq_range'] at h'
  have hfil : ((List.range ops.size).filter fun i => !(Array.replicate ops.size false).getD i true) = List.range ops.size := by
    rw [List.filter_eq_self]
    intro k hk
    have := List.mem_range.1 hk
    simp [Array.getD, this]
  refine any_ok (K := K .normal) hrel hlen hpairs hback (fun S' a' w' hk hat' => hq _ _ _ _ hk hat') ops.size _ S a _ (by simp) ?_ ?_ (at_drew hat) (by rw [hfil]; exact h')
  · intro i o _ hl
    simp [Array.getD] at hl
  · rw [hfil]; simp

end

/-- Where a result lies. -/
inductive RR where
  | tmp (t : Nat)
  | cell (t : Nat) (agg : Bool) (sz : Nat)

def rv (S : St) : RR → (AV → Prop) → Prop
  | .tmp t, K => match S.env t with | some v => K v | none => False
  | .cell t agg sz, K => match S.env t with
    | some (.ref n off) => match S.heap n with
      | some (.cells cs) => match agg with
        | true => ∃ l, (l = (cs.drop off).take sz ∧ l.length = sz ∧ off ≤ cs.length) ∧ K (.agg l)
        | false => ∃ v, cs[off]? = some v ∧ K v
      | _ => False
    | _ => False

def rvs (S : St) : List RR → (List AV → Prop) → Prop
  | [], K => K []
  | x :: r, K => rv S x (fun v => rvs S r (fun vs => K (v :: vs)))

def resK (S : St) (rs : List RR) (K : AV → Prop) : Prop :=
  match rs with
  | [x] => rv S x K
  | rs => rvs S rs (fun vs => K (AV.tup vs))

def retH (m : Nat) (rs : List RR) (K : AV → Heap → Nat → Prop) : Exit → St → Prop := fun e S => match e with
  | .normal => ∃ S', SubSt m S S' ∧ resK S' rs (fun r => K r S'.heap S'.next)
  | .ret => ∃ S', SubSt m S S' ∧ resK S' rs (fun r => K r S'.heap S'.next)
  | _ => False

def retK (rs : List RR) (r : AV) : Exit → St → Prop := retH 0 rs (fun v _ _ => v = r)

/-- The state at a function's beginning. -/
def entry (us : List AV) : St := { env := fun k => us[k]?, heap := fun _ => none, next := 0 }

def RRel (P : Program) (x : ResultVar) (r : RR) : Prop :=
  match x, r with
  | .tmp t, .tmp t' => t = t'
  | .cell a t, .cell a' agg sz => a = a' ∧ ∃ d i, P.underlying t = some d ∧ P.info? t = some i ∧ aggOf d = agg ∧ i.size = sz
  | _, _ => False

def one (_P : Program) (tmps : Array Value) (x : ResultVar) : Sem Value :=
  match x with
  | .tmp t => pure (tmps.getD t undef)
  | .cell a t => do loadVar t (← asAddr (tmps.getD a undef))

theorem rv_ok {G : Gl} {B : Nat} {X : Nat → Prop} {Φ : Phi} {ρ : Nm} {w0 w : World} {S : St} {a : Act} (he : EnvRel G Φ ρ S.env a) (hw : Wf G B X w0 ρ Φ S.heap S.next w) {x : ResultVar} {r : RR} (hx : RRel G.P x r) {K : AV → Prop} (h : rv S r K) :
    ∃ v y, (one G.P a.tmps x).run G.P w = .ok y w ∧ Rep G Φ v ρ y ∧ K v := by
  cases r with
  | tmp t =>
    cases x with
    | cell => exact hx.elim
    | tmp t' =>
      simp only [RRel] at hx
      subst hx
      simp only [rv] at h
      split at h
      · rename_i v hv
        obtain ⟨y, hy, hr⟩ := he _ _ hv
        exact ⟨v, y, by simp [one, hy], hr, h⟩
      · exact h.elim
  | cell t agg sz =>
    cases x with
    | tmp => exact hx.elim
    | cell a' ty =>
      obtain ⟨rfl, d, i, hu, hi, hagg, hsz⟩ := hx
      simp only [rv] at h
      split at h
      case h_2 => exact h.elim
      rename_i n off hv
      obtain ⟨y, hy, hr⟩ := he _ _ hv
      simp only [Rep] at hr
      obtain ⟨hd, hρ, rfl⟩ := hr
      split at h
      case h_2 => exact h.elim
      rename_i cs hH
      obtain ⟨_, C, ty', fr, h2, h3, h4, h5⟩ := hw.cellsAt hH hρ
      have hy' : a.tmps.getD a' undef = .pointer (some ⟨hd.b, off, none⟩) := by simp [hy]
      cases agg
      · obtain ⟨v, hv1, h⟩ := h
        obtain ⟨z, hz, hrz⟩ := RepAt.get h5 hv1
        rw [Nat.zero_add] at hz
        refine ⟨v, z, ?_, hrz, h⟩
        simp [one, hy', asAddr, loadVar, run_isAgg hu, hagg, cell_of h2, hz]
      · obtain ⟨l, ⟨hl, hlen, hoff⟩, h⟩ := h
        have hfit : off + sz ≤ cs.length := by
          by_cases hz : sz = 0
          · omega
          · rw [hl] at hlen; simp at hlen; omega
        obtain ⟨e1, e2⟩ := RepAt.extract h5 (by omega) off sz hfit
        refine ⟨_, .agg (C.extract off (off + sz)), ?_, ?_, h⟩
        · have := load_row (P := G.P) h2 off sz (by omega)
          simp [one, hy', asAddr, loadVar, run_isAgg hu, hagg, Go.sizeOf, typeInfo, hi, hsz, this]
        · simp only [Rep]
          exact ⟨_, rfl, by rw [e1, hlen], by rw [hl]; exact e2⟩

theorem rvs_ok {G : Gl} {B : Nat} {X : Nat → Prop} {Φ : Phi} {ρ : Nm} {w0 w : World} {S : St} {a : Act} (he : EnvRel G Φ ρ S.env a) (hw : Wf G B X w0 ρ Φ S.heap S.next w) :
    ∀ {xs : List ResultVar} {rs : List RR} {K : List AV → Prop}, List.length xs = rs.length → (∀ (j : Nat) x r, xs[j]? = some x → rs[j]? = some r → RRel G.P x r) → rvs S rs K →
    ∃ vs ys, (xs.mapM (one G.P a.tmps)).run G.P w = .ok ys w ∧ ys.length = rs.length ∧ vs.length = rs.length ∧ RepAt G Φ vs ρ ys.toArray 0 ∧ K vs := by
  intro xs
  induction xs with
  | nil =>
    intro rs K hl _ h
    cases rs with
    | cons => simp at hl
    | nil => exact ⟨[], [], by simp, rfl, rfl, by simp [RepAt], h⟩
  | cons x xs ih =>
    intro rs K hl hrel h
    cases rs with
    | nil => simp at hl
    | cons r rs =>
      simp only [rvs] at h
      obtain ⟨v, y, h1, h2, h3⟩ := rv_ok he hw (hrel 0 x r rfl rfl) h
      obtain ⟨vs, ys, h4, h5, h6, h7, h8⟩ := ih (by simpa using hl) (fun j x r h1 h2 => hrel (j + 1) x r (by simpa using h1) (by simpa using h2)) h3
      refine ⟨v :: vs, y :: ys, ?_, by simp [h5], by simp [h6], ?_, h8⟩
      · simp only [List.mapM_cons, Sem.run_bind, h1, h4, Result.andThen_ok, Sem.run_pure]
      · refine RepAt.mk fun j c hj => ?_
        cases j with
        | zero => simp at hj; subst hj; exact ⟨y, by simp, h2⟩
        | succ j =>
          simp at hj
          obtain ⟨z, hz, hr⟩ := RepAt.get h7 hj
          exact ⟨z, by simpa using hz, hr⟩

theorem results_run {P : Program} {fn : Func} {tmps : Array Value} {w : World} {ys : List Value} (h : (fn.results.toList.mapM (one P tmps)).run P w = .ok ys w) :
    (results fn tmps).run P w = .ok (if h : ys.length = 1 then ys[0] else .tuple ys.toArray) w := by
  have e : (fn.results.mapM (one P tmps)).run P w = .ok ys.toArray w := by
    rw [Array.mapM_eq_mapM_toList]
    simp only [Sem.run_map, h, Result.andThen_ok]
  have e2 : results fn tmps = (do let vs ← fn.results.mapM (one P tmps); pure (if h : vs.size = 1 then vs[0] else .tuple vs)) := by
    unfold results
    congr 1
  rw [e2]
  simp only [Sem.run_bind, e, Result.andThen_ok, Sem.run_pure]
  rfl

/-- A block of the base that nothing names turns. -/
theorem Wf.putObj {G : Gl} {B : Nat} {X : Nat → Prop} {w0 : World} {ρ : Nm} {Φ : Phi} {H : Heap} {nx : Nat} {w : World} (h : Wf G B X w0 ρ Φ H nx w) {l : Nat} (hl : l < B) (hx : ¬ X l) (hphi : Φ l = none) (hw0 : B ≤ w0.heap.size) (o : Obj) :
    Wf G B X (w0.putObj l o) ρ Φ H nx (w.putObj l o) where
  os := h.os
  tape := h.tape
  output := h.output
  size := by simpa using h.size
  base := by simpa using h.base
  frame := fun k hk hxk => by
    by_cases e : k = l
    · subst e
      rw [World.putObj_heap_same (Nat.lt_of_lt_of_le hl h.base), World.putObj_heap_same (Nat.lt_of_lt_of_le hl hw0)]
    · rw [World.putObj_heap_other e, World.putObj_heap_other e]; exact h.frame k hk hxk
  phi := fun b o' e => by
    have hne : b ≠ l := by rintro rfl; rw [hphi] at e; cases e
    rw [World.putObj_heap_other hne]; exact h.phi b o' e
  dom := h.dom
  objs := fun n o' e => by
    obtain ⟨hd, h1, h2, h3⟩ := h.objs n o' e
    have hne : ∀ b ∈ hd.fp, b ≠ l := by
      rintro b hb rfl
      rcases (h3 b hb).1 with h4 | h4
      · omega
      · exact hx h4
    refine ⟨hd, h1, ORep.mono (PhiLe.refl _) (NmLe.refl _) ?_ (fun b hb => World.putObj_heap_other (hne b hb)) h2, fun b hb => ?_⟩
    · intro b o2 e2
      have hne : b ≠ l := by rintro rfl; rw [hphi] at e2; cases e2
      rw [World.putObj_heap_other hne]; exact h.phi b o2 e2
    · obtain ⟨a1, a2, a3⟩ := h3 b hb
      exact ⟨a1, a2, by simpa using a3⟩
  disj := h.disj

theorem Ext.putObj {B : Nat} {X : Nat → Prop} {w0 : World} {B1 : Nat} {X1 : Nat → Prop} {w1 : World} (h : Ext B X w0 B1 X1 w1) {l : Nat} (hl : B ≤ l) (o : Obj) : Ext B X w0 B1 X1 (w1.putObj l o) where
  le := h.le
  fr := fun k hk hx => ⟨(h.fr k hk hx).1, by rw [World.putObj_heap_other (by omega)]; exact (h.fr k hk hx).2⟩
  x := h.x
  os := h.os
  tape := h.tape
  output := h.output
  size := by simpa using h.size

theorem Ext.putObj2 {B : Nat} {X : Nat → Prop} {w0 : World} {B1 : Nat} {X1 : Nat → Prop} {w1 : World} (h : Ext B X w0 B1 X1 w1) {l : Nat} (h0 : B ≤ w0.heap.size) (h1 : B1 ≤ w1.heap.size) (o : Obj) : Ext B X (w0.putObj l o) B1 X1 (w1.putObj l o) where
  le := h.le
  fr := fun k hk hx => ⟨(h.fr k hk hx).1, by
    by_cases e : k = l
    · subst e
      rw [World.putObj_heap_same (Nat.lt_of_lt_of_le hk h0), World.putObj_heap_same (Nat.lt_of_lt_of_le hk (Nat.le_trans h.le h1))]
    · rw [World.putObj_heap_other e, World.putObj_heap_other e]; exact (h.fr k hk hx).2⟩
  x := h.x
  os := h.os
  tape := h.tape
  output := h.output
  size := by simpa using h.size

end Qk

/-
  Functions and their contracts; calls that share the memory; ranges over functions.
-/
namespace Qk
open Go Go.RowKit

/-- The marks are taken one by one. -/
theorem leaves_marks {G : Gl} {B : Nat} {X : Nat → Prop} {w0 : World} {B1 : Nat} {X1 : Nat → Prop} {ρ : Nm} {Φ : Phi} {H : Heap} {nx : Nat} {F : Fence} {n : Nat} {fn : Func} {tmps : Array Value} {R : Ending → World → Prop} :
    ∀ (ms : List Nat) (w w1 : World), Ext B X w0 B1 X1 w1 → B1 ≤ w1.heap.size → Wf G B1 X1 w1 ρ Φ H nx w → ms.Nodup →
      (∀ b ∈ ms, B ≤ b ∧ b < B1 ∧ ¬ X1 b ∧ w1.heap[b]? = some (.deferred (some [])) ∧ Φ b = none) →
      (∀ w', Wf G B X w0 ρ Φ H nx w' → ∃ v, (results fn tmps).run G.P w' = .ok v w' ∧ R (.returned v) w') →
      LeavesInM F n G.P fn tmps R (ms.map mark) .returning w
  | [], w, w1, he, hb, hw, _, _, hR => hR w (hw.back he)
  | b :: ms, w, w1, he, hb, hw, hnd, hms, hR => by
    obtain ⟨q1, q2, q3, q4, q5⟩ := hms b (by simp)
    have hwb : w.heap[b]? = some (.deferred (some [])) := by rw [hw.frame b q2 q3]; exact q4
    rw [List.nodup_cons] at hnd
    refine ⟨by simp, .inl ⟨b, _, rfl, run_takeDeferred hwb, ?_⟩⟩
    refine leaves_marks ms _ (w1.putObj b (.deferred none)) (he.putObj q1 _) (by simpa using hb) (hw.putObj q2 q3 q5 hb _) hnd.2 (fun b' hb' => ?_) hR
    obtain ⟨r1, r2, r3, r4, r5⟩ := hms b' (by simp [hb'])
    refine ⟨r1, r2, r3, ?_, r5⟩
    rw [World.putObj_heap_other (by rintro rfl; exact hnd.1 hb')]
    exact r4

theorem post_ok {G : Gl} {B : Nat} {X : Nat → Prop} {Φ0 : Phi} {w0 : World} {N : Nat} {D : Fl} {m : Nat} {fn : Func} {rs : List RR} {K : AV → Heap → Nat → Prop} {R : Ending → World → Prop} {F : Fence} {n : Nat}
    (hlen : fn.results.toList.length = rs.length) (hrel : ∀ (j : Nat) x q, fn.results.toList[j]? = some x → rs[j]? = some q → RRel G.P x q)
    {e : Exit} {S : St} {a : Act} {w : World} (hk : retH m rs K e S) (hm : D.m ≤ m) (hat : At G B X Φ0 w0 N D S a w)
    (hR : ∀ r v ρ Φ H nx w', K r H nx → NmLe D.nm ρ → PhiLe Φ0 Φ → (∀ b o, Φ b = some o → Φ0 b = some o ∨ B ≤ b) → Wf G B X w0 ρ Φ H nx w' → Rep G Φ r ρ v → R (.returned v) w') : bodyPostM F n G.P fn R e a w := by
  have fin : ∀ S', SubSt m S S' → resK S' rs (fun r => K r S'.heap S'.next) → LeavesInM F n G.P fn a.tmps R a.defers .returning w := by
    intro S' hs hres
    obtain ⟨B1, X1, w1, ρ, Φ, a1, a2, a3, a4, a5, a6⟩ := hs _ _ _ _ _ _ _ _ _ hm hat
    obtain ⟨ms, e1, e2, e3⟩ := a2.marks
    rw [e1]
    refine leaves_marks ms w w1 a2.ext a2.bs a6 e2 e3 fun w' hw' => ?_
    have two : ∀ K : List AV → Prop, rvs S' rs K → ∃ vs ys, (fn.results.toList.mapM (one G.P a.tmps)).run G.P w' = .ok ys w' ∧ ys.length = rs.length ∧ vs.length = rs.length ∧ RepAt G Φ vs ρ ys.toArray 0 ∧ K vs :=
      fun K h => rvs_ok a5 hw' hlen hrel h
    by_cases h1 : rs.length = 1
    · obtain ⟨x, rfl⟩ := List.length_eq_one_iff.1 h1
      simp only [resK] at hres
      obtain ⟨z, hz⟩ := List.length_eq_one_iff.1 (show fn.results.toList.length = 1 by simpa using hlen)
      obtain ⟨v, y, h2, h3, h4⟩ := rv_ok a5 hw' (hrel 0 z x (by rw [hz]; rfl) rfl) hres
      have hr := results_run (P := G.P) (fn := fn) (tmps := a.tmps) (w := w') (ys := [y]) (by rw [hz]; simp only [List.mapM_cons, List.mapM_nil, Sem.run_bind, h2, Result.andThen_ok, Sem.run_pure])
      exact ⟨_, hr, hR v _ ρ Φ _ _ w' h4 a2.nm a3 a4 hw' (by simpa using h3)⟩
    · have hres' : rvs S' rs (fun vs => K (AV.tup vs) S'.heap S'.next) := by
        unfold resK at hres
        split at hres
        · exact absurd rfl h1
        · exact hres
      obtain ⟨vs, ys, h2, h3, h4, h5, h6⟩ := two _ hres'
      have hr := results_run h2
      refine ⟨_, hr, ?_⟩
      rw [dif_neg (by omega)]
      refine hR _ _ ρ Φ _ _ w' h6 a2.nm a3 a4 hw' ?_
      simp only [Rep]
      exact ⟨_, rfl, by simp [h3, h4], h5⟩
  cases e with
  | normal => obtain ⟨S', hs, hres⟩ := hk; exact fin S' hs hres
  | ret => obtain ⟨S', hs, hres⟩ := hk; exact fin S' hs hres
  | exit id => exact hk.elim
  | goto l => exact hk.elim
  | panic ch => exact hk.elim
  | outgrown => exact hk.elim

/-- The slots of a call's frame. -/
theorem entry_env {G : Gl} {Φ : Phi} {ρ : Nm} {us : List AV} {vs : Array Value} (hr : RepAt G Φ us ρ vs 0) (k : Nat) : EnvRel G Φ ρ (fun k => us[k]?) { tmps := vs ++ Array.replicate k undef, defers := [] } := by
  intro j v hj
  obtain ⟨x, hx, hrep⟩ := RepAt.get hr hj
  rw [Nat.zero_add] at hx
  have hlt := (Array.getElem?_eq_some_iff.1 hx).1
  exact ⟨x, by rw [Array.getElem?_append_left hlt]; exact hx, hrep⟩

theorem at_entry {G : Gl} {B : Nat} {X : Nat → Prop} {w0 : World} {ρ : Nm} {Φ : Phi} {H : Heap} {nx : Nat} {w : World} {us : List AV} {vs : Array Value} {N : Nat} {D : Fl} (hw : Wf G B X w0 ρ Φ H nx w) (hB : B ≤ w0.heap.size)
    (hD : NmLe D.nm ρ) (hs : vs.size = us.length) (hr : RepAt G Φ us ρ vs 0) (hN : us.length ≤ N) :
    At G B X Φ w0 N D ⟨fun k => us[k]?, H, nx⟩ { tmps := vs ++ Array.replicate (N - vs.size) undef, defers := [] } w :=
  ⟨B, X, w0, ρ, Φ, by simp; omega, ⟨Ext.refl _ _ _, hB, hD, [], rfl, List.nodup_nil, fun b hb => by cases hb⟩, PhiLe.refl _, fun b o e => .inl e, entry_env hr _, hw⟩

/-- From a function's code in the executor's form to its contract. -/
theorem fn_ok {G : Gl} {f : FuncId} {fn : Func} {c : Code} {ic : IC} {C : PC} {rs : List RR} (hf : G.P.funcs[f]? = some fn) (hb : fn.body = some c) (hname : (fn.name == "runtime.NumGoroutine") = false)
    (hc : CodeOk G fn.ntmps false c ic) (hlen : fn.results.toList.length = rs.length) (hrel : ∀ (j : Nat) x q, fn.results.toList[j]? = some x → rs[j]? = some q → RRel G.P x q)
    (hN : ∀ x, (C.args x).length ≤ fn.ntmps) (hnn : ∀ x, C.ok x → NN (C.res x)) (hir : ∀ x, C.ok x → awp Cx.top ic (retK rs (C.res x)) (entry (C.args x))) : KeepsC G C (fun _ => none) f #[] := by
  rintro us w Φ vs _ hphi hs hr x rfl hok
  rw [Array.append_empty]
  refine .inl ⟨⟨fn, hf, by rw [hb]; rfl, hname⟩, ?_⟩
  refine (callsIn_wide (n := 0)).1 (callsIn_of_wp_marks hf hb trivial ?_)
  have hwf : Wf G w.heap.size (fun _ => False) w (fun _ => none) Φ (fun _ => none) 0 w :=
    ⟨rfl, rfl, rfl, Nat.le_refl _, Nat.le_refl _, fun _ _ _ => rfl, hphi, (fun n h e => by cases e), (fun n o e => by cases e), fun n m h g _ e => absurd rfl e⟩
  refine hc Cx.top none 0 w.heap.size (fun _ => False) Φ w Fl.free _ _ _ w _ (fun _ => rfl) (Nat.le_refl _) YOk.none (at_entry hwf (Nat.le_refl _) (fun _ _ h => by cases h) hs hr (hN x)) (hir x hok) ?_
  intro e S' a' w' hk hat
  refine post_ok hlen hrel hk (Nat.le_refl _) hat ?_
  rintro r v ρ Φ' H nx w'' rfl p0 p1 p2 p3 p4
  exact ⟨_, v, Φ', rfl, rfl, p1, p3.phi, p2, hnn x hok _ _ _ _ _ p4, ⟨p3.os, p3.tape, p3.output, p3.size, fun k hk => p3.frame k hk (fun h => h)⟩⟩

/-- What a call of a function does that shares the caller's memory: its code, on that memory. -/
def inl (n : Nat) (ic : IC) (rs : List RR) : HTran := fun us H nx K => us.length = n ∧ awp ⟨nx, noY⟩ ic (retH nx rs K) ⟨fun k => us[k]?, H, nx⟩

theorem inl_ok {G : Gl} {f : FuncId} {fn : Func} {c : Code} {ic : IC} {rs : List RR} {n : Nat} (hf : G.P.funcs[f]? = some fn) (hb : fn.body = some c) (hname : (fn.name == "runtime.NumGoroutine") = false)
    (hc : CodeOk G fn.ntmps false c ic) (hlen : fn.results.toList.length = rs.length) (hrel : ∀ (j : Nat) x q, fn.results.toList[j]? = some x → rs[j]? = some q → RRel G.P x q) (hn : n ≤ fn.ntmps) :
    KeepsH G (inl n ic rs) f := by
  refine ⟨⟨fn, hf, by rw [hb]; rfl, hname⟩, ?_⟩
  rintro B X w0 ρ Φ H nx w us vs K hB hw hs hr ⟨hl, h⟩
  refine (callsIn_wide (n := 0)).1 (callsIn_of_wp_marks hf hb trivial ?_)
  refine hc ⟨nx, noY⟩ none 0 B X Φ w0 ⟨nx, ρ, hw.dom⟩ _ _ _ w _ (fun _ => rfl) (Nat.le_refl _) YOk.none (at_entry hw hB (NmLe.refl _) hs hr (by omega)) h ?_
  intro e S' a' w' hk hat
  refine post_ok hlen hrel hk (Nat.le_refl _) hat ?_
  intro r v ρ' Φ' H' nx' w'' hk p0 p1 p2 p3 p4
  exact ⟨r, v, ρ', Φ', H', nx', rfl, hk, p0, p1, p2, p3, p4⟩

/-- What an iterator does: its code. -/
def itr (n : Nat) (ic : IC) (rs : List RR) : ITran := fun Y caps H nx K => caps.length + 1 = n ∧
  ∀ l, awp ⟨nx, fun l' us H nx J => l' = l ∧ Y us H nx J⟩ ic (retH nx rs (fun _ H nx => K H nx)) ⟨fun k => (AV.raw (.func (.yield l) #[] #[]) :: caps)[k]?, H, nx⟩

theorem itr_ok {G : Gl} {f : FuncId} {fn : Func} {c : Code} {ic : IC} {rs : List RR} {n : Nat} (hf : G.P.funcs[f]? = some fn) (hb : fn.body = some c) (hname : (fn.name == "runtime.NumGoroutine") = false)
    (hc : CodeOk G fn.ntmps false c ic) (hlen : fn.results.toList.length = rs.length) (hrel : ∀ (j : Nat) x q, fn.results.toList[j]? = some x → rs[j]? = some q → RRel G.P x q) (hn : n ≤ fn.ntmps) :
    KeepsI G (itr n ic rs) f := by
  refine ⟨⟨fn, hf, by rw [hb]; rfl, hname⟩, ?_⟩
  rintro l Y B X w0 ρ Φ H nx w us vs K hB hY hw hs hr ⟨hl, h⟩
  refine (callsIn_wide (n := 0)).1 (callsIn_of_wp_marks hf hb trivial ?_)
  have hr' : RepAt G Φ (AV.raw (.func (.yield l) #[] #[]) :: us) ρ (#[.func (.yield l) #[] #[]] ++ vs) 0 :=
    RepAt.cat (us := [AV.raw (.func (.yield l) #[] #[])]) (by simp [RepAt, Rep]) hr (by simp)
  refine hc ⟨nx, _⟩ none 0 B X Φ w0 ⟨nx, ρ, hw.dom⟩ _ _ _ w _ (fun _ => rfl) (Nat.le_refl _) hY (at_entry hw hB (NmLe.refl _) (by simp [hs]; omega) hr' (by simp; omega)) (h l) ?_
  intro e S' a' w' hk hat
  refine post_ok hlen hrel hk (Nat.le_refl _) hat ?_
  intro r v ρ' Φ' H' nx' w'' hk p0 p1 p2 p3 p4
  exact ⟨v, ρ', Φ', H', nx', rfl, hk, p0, p1, p2, p3⟩

end Qk

/-
  Operations in the text's order, with calls that share the memory and calls of yield; ranges over functions.
-/
namespace Qk
open Go Go.RowKit

structure SBase (ops : Array Oper) (N : Nat) (o : Oper) (g : Gd) (d : Option Nat) : Prop where
  dst : d = o.dst
  lt : ∀ d, o.dst = some d → d < N
  grd : (o.guard = none ∧ g = none) ∨ ∃ j want k, o.guard = some (j, want) ∧ (ops[j]?).bind (·.dst) = some k ∧ g = some (k, want)

def SORel (G : Gl) (ops : Array Oper) (N : Nat) (o : Oper) : SO → Prop
  | .op io => OpRel G ops N o io
  | .call g d T args => SBase ops N o g d ∧ ∃ f ts, o.op = .call { callee := .value (.func f), args := args.toArray, argTypes := ts } ∧ KeepsH G T f
  | .dyn io Γ x args => OpRel G ops N o io ∧ ∃ ts, o.op = .call { callee := .value x, args := args.toArray, argTypes := ts } ∧ ∀ t T, Γ t = some T → KeepsH G T (G.tag t)

theorem OpRel.base {G : Gl} {ops : Array Oper} {N : Nat} {o : Oper} {io : IOp} (h : OpRel G ops N o io) : SBase ops N o io.guard io.dst := ⟨h.dst, h.lt, h.grd⟩

section
variable {G : Gl} {B : Nat} {X : Nat → Prop} {Φ0 : Phi} {w0 : World} {N : Nat} {D : Fl} {ops : Array Oper} {R : Option Nat} {n : Nat}

theorem grd_ok {i : Nat} {o : Oper} {g : Gd} {d : Option Nat} (hi : ops[i]? = some o) (hb : SBase ops N o g d) {S : St} {a : Act} {w : World} {Q : Exit → Act → World → Prop} {next : Act → World → Prop} {run skip : Prop}
    (hat : At G B X Φ0 w0 N D S a w) (hT : grd g S run skip) (hrun : run → o.wpIn (FR R) n G.P a w next Q) (hskip : skip → next (a.put o.dst undef) w) : wpOpIn (FR R) n G.P ops Q i next a w := by
  obtain ⟨B1, X1, w1, ρ, Φ, h1, h2, h3, h4, h5, h6⟩ := hat
  unfold wpOpIn
  simp only [hi]
  unfold grd at hT
  rcases hb.grd with ⟨g1, g2⟩ | ⟨j, want, k, g1, g2, g3⟩
  · rw [g2] at hT
    have hw1 : Region.wanted o (yielded ops a.tmps) = true := by simp [Region.wanted, g1]
    rw [if_pos hw1]
    exact hrun hT
  · rw [g3] at hT
    simp only at hT
    have hy : ∀ v x, S.env k = some v → a.tmps[k]? = some x → yielded ops a.tmps j = (match x with | .bool b => some b | _ => none) := by
      intro v x _ hx
      unfold yielded
      rw [g2]
      simp only [Option.bind_some, hx]
      cases x <;> rfl
    split at hT
    · rename_i b hb
      obtain ⟨x, hx, hrep⟩ := h5 k _ hb
      simp only [Rep] at hrep
      subst hrep
      have hyb := hy _ _ hb hx
      simp only at hyb
      have hwant : Region.wanted o (yielded ops a.tmps) = (b == want) := by
        simp only [Region.wanted, g1, hyb]
        cases b <;> cases want <;> rfl
      rw [hwant]
      cases want <;> cases b <;> simp only [cond_true, cond_false] at hT
      · rw [if_pos (by rfl)]; exact hrun hT
      · rw [if_neg (by decide)]; exact ⟨fun _ _ => trivial, hskip hT⟩
      · rw [if_neg (by decide)]; exact ⟨fun _ _ => trivial, hskip hT⟩
      · rw [if_pos (by rfl)]; exact hrun hT
    · rename_i tv hb
      obtain ⟨x, hx, hrep⟩ := h5 k _ hb
      simp only [Rep] at hrep
      subst hrep
      have hyb := hy _ _ hb hx
      simp only at hyb
      have hwant : Region.wanted o (yielded ops a.tmps) = false := by
        simp only [Region.wanted, g1, hyb]
        cases want <;> rfl
      rw [hwant, if_neg (by decide)]
      exact ⟨fun _ _ => trivial, hskip hT⟩
    · exact hT.elim

theorem at_after {S : St} {a : Act} {w' : World} {B1 : Nat} {X1 : Nat → Prop} {w1 : World} {ρ ρ' : Nm} {Φ Φ' : Phi} {H' : Heap} {nx' : Nat} {d : Option Nat} {r : AV} {v : Value}
    (h1 : a.tmps.size = N) (h2 : Sd B X w0 D B1 X1 w1 ρ Φ a.defers) (h3 : PhiLe Φ0 Φ) (h4 : ∀ b o, Φ b = some o → Φ0 b = some o ∨ B ≤ b) (h5 : EnvRel G Φ ρ S.env a)
    (k1 : NmLe ρ ρ') (k2 : PhiLe Φ Φ') (k3 : ∀ b o, Φ' b = some o → Φ b = some o ∨ B1 ≤ b) (k4 : Wf G B1 X1 w1 ρ' Φ' H' nx' w') (k5 : Rep G Φ' r ρ' v) (hd : ∀ k, d = some k → k < N) :
    At G B X Φ0 w0 N D (St.set ⟨S.env, H', nx'⟩ d r) (a.put d v) w' := by
  have hnew : ∀ b o, Φ' b = some o → Φ0 b = some o ∨ B ≤ b := fun b o e => (k3 b o e).elim (h4 b o) (fun e => .inr (Nat.le_trans h2.ext.le e))
  have henv : EnvRel G Φ' ρ' S.env a := h5.mono k2 k1
  cases d with
  | none => exact ⟨B1, X1, w1, ρ', Φ', h1, h2.le k1 k3, h3.trans k2, hnew, henv, k4⟩
  | some k => exact ⟨B1, X1, w1, ρ', Φ', by simpa [Act.put] using h1, h2.le k1 k3, h3.trans k2, hnew, henv.put (by rw [h1]; exact hd k rfl) k5, k4⟩

theorem hcall_ok {a : Act} {w : World} {o : Oper} {f : FuncId} {vs : Array Value} {T : HTran} (hrun : (execOp a.eval o).run G.P w = .ok (.enter f vs) w) (hnd : ∀ c, o.op ≠ .defer c) (hk : KeepsH G T f)
    {S : St} {us : List AV} {K : AV → Heap → Nat → Prop} {B1 : Nat} {X1 : Nat → Prop} {w1 : World} {ρ : Nm} {Φ : Phi} (hB : B1 ≤ w1.heap.size) (hw : Wf G B1 X1 w1 ρ Φ S.heap S.next w)
    (hs : vs.size = us.length) (hr : RepAt G Φ us ρ vs 0) (hT : T us S.heap S.next K) {Q : Exit → Act → World → Prop} {next : Act → World → Prop}
    (hn : ∀ r v ρ' Φ' H' nx' w', K r H' nx' → NmLe ρ ρ' → PhiLe Φ Φ' → (∀ b o, Φ' b = some o → Φ b = some o ∨ B1 ≤ b) → Wf G B1 X1 w1 ρ' Φ' H' nx' w' → Rep G Φ' r ρ' v → next (a.put o.dst v) w') :
    o.wpIn (FR R) n G.P a w next Q := by
  refine wpIn_of_wp hnd ?_
  unfold Oper.wp
  rw [hrun, Oper.upon_enter]
  refine Calls.mono (hk.2 B1 X1 w1 ρ Φ S.heap S.next w us vs K hB hw hs hr hT) ?_
  rintro e w' ⟨r, v, ρ', Φ', H', nx', rfl, q1, q2, q3, q4, q5, q6⟩
  exact hn r v ρ' Φ' H' nx' w' q1 q2 q3 q4 q5 q6

theorem sops_ok {Y : YT} (hY : YOk G Y B X w0 Φ0 D.nm) {Q : Exit → Act → World → Prop} :
    ∀ (l : List SO) (k : Nat) (S : St) (K : St → Prop) (a : Act) (w : World), (∀ (j : Nat) so, l[j]? = some so → ∃ o, ops[k + j]? = some o ∧ SORel G ops N o so) → At G B X Φ0 w0 N D S a w → sos Y l S K →
      (∀ S' a' w', K S' → At G B X Φ0 w0 N D S' a' w' → Q .normal a' w') → wpOpsIn (FR R) n G.P ops Q (List.range' k l.length) a w
  | [], k, S, K, a, w, _, hat, h, hq => hq _ _ _ h hat
  | so :: l, k, S, K, a, w, hl, hat, h, hq => by
    obtain ⟨o, hi, hrel⟩ := hl 0 so rfl
    rw [Nat.add_zero] at hi
    have hl' : ∀ (j : Nat) so, l[j]? = some so → ∃ o, ops[k + 1 + j]? = some o ∧ SORel G ops N o so := fun j so hj => by
      have := hl (j + 1) so (by simpa using hj)
      rwa [show k + 1 + j = k + (j + 1) by omega]
    have ih := fun S' a' w' (hk : sos Y l S' K) hat' => sops_ok hY l (k + 1) S' K a' w' hl' hat' hk hq
    simp only [List.length_cons, List.range'_succ]
    rw [wpOpsIn_cons]
    cases so with
    | op io => exact wpOp_ok hi hrel hat h fun S' a' w' hk hat' => ih S' a' w' hk hat'
    | call g d T args =>
      obtain ⟨hb, f, ts, ho, hk⟩ := hrel
      simp only [sos] at h
      refine grd_ok hi hb hat h ?_ ?_
      · intro h
        obtain ⟨B1, X1, w1, ρ, Φ, h1, h2, h3, h4, h5, h6⟩ := hat
        split at h
        case h_2 => exact h.elim
        rename_i vs hvs
        obtain ⟨e1, e2⟩ := evsRel h5 hvs
        obtain ⟨fn, f1, f2, f3⟩ := hk.1
        refine hcall_ok (vs := args.toArray.map a.eval) ?_ (by rw [ho]; intro c hc; cases hc) hk h2.bs h6 (by simp [e1]) e2 h ?_
        · simp [execOp, ho, resolve, Act.eval, Deferred.ofValue, invoke, run_callFunc f1 f2 f3]
        · intro r v ρ' Φ' H' nx' w' q1 q2 q3 q4 q5 q6
          exact ih _ _ _ q1 (by rw [hb.dst]; exact at_after h1 h2 h3 h4 h5 q2 q3 q4 q5 q6 hb.lt)
      · intro h
        refine ih _ _ _ h ?_
        rw [hb.dst]
        exact at_put hat hb.lt (fun ρ Φ => by simp [Rep])
    | dyn io Γ x args =>
      obtain ⟨hio, ts, ho, hΓ⟩ := hrel
      have hb := hio.base
      simp only [sos] at h
      split at h
      case h_1 l f c hx =>
        refine grd_ok hi hb hat h ?_ ?_
        · intro h
          obtain ⟨B1, X1, w1, ρ, Φ, h1, h2, h3, h4, h5, h6⟩ := hat
          split at h
          case h_2 => exact h.elim
          rename_i vs hvs
          obtain ⟨e1, e2⟩ := evsRel h5 hvs
          have e3 := evRel h5 hx
          simp only [Rep] at e3
          obtain ⟨hf, hyy⟩ := h
          obtain ⟨fn, tmps, asg, body, y1, y2⟩ := hY l vs (args.toArray.map a.eval) S.heap S.next _ B1 X1 w1 ρ Φ w (n - 1) h2.ext h2.bs h2.nm h3 h4 h6 (by simp [e1]) e2 hyy
          rw [List.map_toArray] at y1
          have run : (execOp a.eval o).run G.P w = .ok (.round l fn tmps asg body) w := by
            simp [execOp, ho, resolve, e3, hf, Deferred.ofValue, invoke, y1]
          refine ⟨fun _ _ => trivial, ?_⟩
          rw [Oper.semAt_eq _ _ _ (by rw [ho]; intro c hc; cases hc), run, Oper.uponIn_round]
          refine ⟨fun e => (by cases e), ?_⟩
          refine RoundIn.mono (show RoundIn (FR R) (n - 1) G.P l fn tmps asg body w _ from y2) ?_
          rintro e w' ⟨rfl, H', nx', ρ', Φ', q1, q2, q3, q4, q5⟩
          exact ih _ _ _ q1 (by rw [hb.dst]; exact at_after h1 h2 h3 h4 h5 q2 q3 q4 q5 (by simp [Rep]) hb.lt)
        · intro h
          refine ih _ _ _ h ?_
          rw [hb.dst]
          exact at_put hat hb.lt (fun ρ Φ => by simp [Rep])
      case h_2 t caps hx =>
        split at h
        case h_2 => exact wpOp_ok hi hio hat h fun S' a' w' hk hat' => ih S' a' w' hk hat'
        rename_i T hT
        have hk := hΓ t T hT
        refine grd_ok hi hb hat h ?_ ?_
        · intro h
          obtain ⟨B1, X1, w1, ρ, Φ, h1, h2, h3, h4, h5, h6⟩ := hat
          split at h
          case h_2 => exact h.elim
          rename_i vs hvs
          obtain ⟨e1, e2⟩ := evsRel h5 hvs
          have e3 := evRel h5 hx
          simp only [Rep] at e3
          obtain ⟨A, e3, e4, e5⟩ := e3
          obtain ⟨fn, f1, f2, f3⟩ := hk.1
          refine hcall_ok (vs := (args.toArray.map a.eval) ++ A) ?_ (by rw [ho]; intro c hc; cases hc) hk h2.bs h6 (by simp [e1, e4]) (RepAt.cat e2 e5 (by simp [e1])) h ?_
          · simp [execOp, ho, resolve, e3, Deferred.ofValue, invoke, run_callFunc f1 f2 f3]
          · intro r v ρ' Φ' H' nx' w' q1 q2 q3 q4 q5 q6
            exact ih _ _ _ q1 (by rw [hb.dst]; exact at_after h1 h2 h3 h4 h5 q2 q3 q4 q5 q6 hb.lt)
        · intro h
          refine ih _ _ _ h ?_
          rw [hb.dst]
          exact at_put hat hb.lt (fun ρ Φ => by simp [Rep])
      case h_3 => exact wpOp_ok hi hio hat h fun S' a' w' hk hat' => ih S' a' w' hk hat'
end

end Qk

/-
  Ranges over functions.
-/
namespace Qk
open Go Go.RowKit

theorem putObj_putObj {w : World} {l : Nat} {o o' : Obj} (h : w.heap[l]? = some o) : (w.putObj l o').putObj l o = w := by
  unfold World.putObj
  simp only [Array.setIfInBounds_setIfInBounds]
  have : w.heap.setIfInBounds l o = w.heap := by
    apply Array.ext
    · simp
    · intro i h1 h2
      rw [Array.getElem_setIfInBounds]
      split
      · rename_i e
        subst e
        have := (Array.getElem?_eq_some_iff.1 h)
        exact this.2.symm
      · rfl
  rw [this]

theorem updL_env {G : Gl} {Φ : Phi} {ρ : Nm} : ∀ (ps : List Nat) (us : List AV) (vs : List Value) (env : Nat → Option AV) (tmps : Array Value) (N : Nat), tmps.size = N → (∀ p ∈ ps, p < N) → us.length = ps.length → vs.length = ps.length →
    (∀ (j : Nat) u, us[j]? = some u → ∃ x, vs[j]? = some x ∧ Rep G Φ u ρ x) → EnvRel G Φ ρ env { tmps := tmps, defers := [] } →
    EnvRel G Φ ρ (updL env ps us) { tmps := (ps.zip vs).foldl (fun tmps (t, a) => tmps.setIfInBounds t a) tmps, defers := [] } ∧ ((ps.zip vs).foldl (fun tmps (t, a) => tmps.setIfInBounds t a) tmps).size = N
  | [], us, vs, env, tmps, N, hN, _, _, _, _, he => by simpa [updL] using ⟨he, hN⟩
  | p :: ps, [], vs, env, tmps, N, _, _, hu, _, _, _ => by simp at hu
  | p :: ps, u :: us, [], env, tmps, N, _, _, _, hv, _, _ => by simp at hv
  | p :: ps, u :: us, v :: vs, env, tmps, N, hN, hp, hu, hv, hr, he => by
    obtain ⟨x, hx, h0⟩ := hr 0 u rfl
    simp at hx
    subst hx
    simp only [updL, List.zip_cons_cons, List.foldl_cons]
    refine updL_env ps us vs (upd env p (some u)) (tmps.setIfInBounds p v) N (by simpa using hN) (fun q hq => hp q (by simp [hq])) (by simpa using hu) (by simpa using hv) (fun j w hj => ?_) ?_
    · have := hr (j + 1) w (by simpa using hj)
      simpa using this
    · have := he.put (d := p) (v := u) (x := v) (by rw [show ({ tmps := tmps, defers := [] } : Act).tmps = tmps from rfl, hN]; exact hp p (by simp)) h0
      simpa [Act.put] using this

section
variable {G : Gl} {N : Nat}

theorem at_putObj {B : Nat} {X : Nat → Prop} {Φ0 : Phi} {w0 : World} {D : Fl} {S : St} {a : Act} {w : World} (h : At G B X Φ0 w0 N D S a w) {l : Nat} (hl : l < B) (hx : ¬ X l) (hphi : Φ0 l = none) (hB : B ≤ w0.heap.size) (o : Obj) :
    At G B X Φ0 (w0.putObj l o) N D S a (w.putObj l o) := by
  obtain ⟨B1, X1, w1, ρ, Φ, a1, a2, a3, a4, a5, a6⟩ := h
  have hphi' : Φ l = none := by
    cases e : Φ l with
    | none => rfl
    | some o' =>
      rcases a4 l o' e with h | h
      · rw [hphi] at h; cases h
      · omega
  refine ⟨B1, X1, w1.putObj l o, ρ, Φ, a1, ⟨a2.ext.putObj2 hB a2.bs o, by simpa using a2.bs, a2.nm, ?_⟩, a3, a4, a5, a6.putObj (Nat.lt_of_lt_of_le hl a2.ext.le) (a2.ext.fr l hl hx).1 hphi' a2.bs o⟩
  obtain ⟨ms, h1, h2, h3⟩ := a2.marks
  refine ⟨ms, h1, h2, fun b hb => ?_⟩
  obtain ⟨q1, q2, q3, q4, q5⟩ := h3 b hb
  exact ⟨q1, q2, q3, by rw [World.putObj_heap_other (by omega)]; exact q4, q5⟩

/-- What the base protects lies as it lay. -/
theorem at_base {B : Nat} {X : Nat → Prop} {Φ0 : Phi} {w0 : World} {D : Fl} {S : St} {a : Act} {w : World} (h : At G B X Φ0 w0 N D S a w) {l : Nat} (hl : l < B) (hx : ¬ X l) : w.heap[l]? = w0.heap[l]? := by
  obtain ⟨B1, X1, w1, ρ, Φ, a1, a2, a3, a4, a5, a6⟩ := h
  exact (a6.back a2.ext).frame l hl hx

theorem rfunc_ok {g : Operand} {ps : Array Tmp} {assign body : Code} {ia ib : IC} {its : Nat → Option ITran} (h1 : CodeOk G N true assign ia) (h2 : CodeOk G N true body ib) (hps : ∀ p ∈ ps.toList, p < N)
    (hits : ∀ t T, its t = some T → KeepsI G T (G.tag t)) : CodeOk G N false (.rangeFunc g ps assign body) (.rfunc its g ps.toList (.seq ia ib)) := by
  intro x R n B X Φ0 w0 D K S a w Q hR hm hY hat h hq
  obtain rfl := hR rfl
  simp only [awp] at h
  split at h
  case h_2 => exact h.elim
  rename_i t caps hg
  split at h
  case h_2 => exact h.elim
  rename_i T hT
  obtain ⟨B1, X1, w1, ρ, Φ, a1, a2, a3, a4, a5, a6⟩ := hat
  have hgr := evRel a5 hg
  simp only [Rep] at hgr
  obtain ⟨A, hA, hsz, hrep⟩ := hgr
  have hk := hits t T hT
  refine wpIn_rangeFunc (F := FR none) ?_
  intro fn _
  -- the two blocks
  obtain ⟨rec, hrec⟩ : ∃ rec : Loop, rec = { state := .ready, pending := none, fn, tmps := a.tmps, params := ps, assign, body, defers := w.heap.size } := ⟨_, rfl⟩
  obtain ⟨wl, hwl⟩ : ∃ wl : World, wl = (w.alloc (.deferred (some []))).alloc (.loop rec) := ⟨_, rfl⟩
  have hwsz : wl.heap.size = w.heap.size + 2 := by rw [hwl]; simp
  have hbelow : Below w.heap.size w wl := by
    rw [hwl]
    exact ((Below.refl _ w).alloc (Nat.le_refl _) _).alloc (by simp) _
  have hl0 : wl.heap[w.heap.size + 1]? = some (.loop rec) := by
    rw [hwl]
    have := World.alloc_heap_new (w.alloc (.deferred (some []))) (.loop rec)
    simpa using this
  have hd0 : wl.heap[w.heap.size]? = some (.deferred (some [])) := by
    have h3 := World.alloc_heap_new w (.deferred (some []))
    rw [hwl]
    exact (Below.heap_alloc (w.alloc (.deferred (some []))) (.loop rec) w.heap.size (by simp)).trans h3
  have hphiw : ∀ b o, Φ b = some o → b < w.heap.size := fun b o e => (Array.getElem?_eq_some_iff.1 (a6.phi b o e)).1
  have hwf1 : Wf G B1 X1 w1 ρ Φ S.heap S.next wl := a6.below hbelow (PhiLe.refl _) (fun b o e => by rw [hbelow.block b (hphiw b o e)]; exact a6.phi b o e) (fun b o e => .inl e)
  obtain ⟨X2, hX2⟩ : ∃ X2 : Nat → Prop, X2 = fun b => ∃ n hd, S.heap n ≠ none ∧ ρ n = some hd ∧ b ∈ hd.fp := ⟨_, rfl⟩
  have hX2' : ∀ b, X2 b → (B1 ≤ b ∨ X1 b) ∧ b < w.heap.size := by
    intro b hb
    rw [hX2] at hb
    obtain ⟨n, hd, h3, h4, h5⟩ := hb
    cases e : S.heap n with
    | none => exact absurd e h3
    | some o =>
      obtain ⟨hd', h6, _, h8⟩ := a6.objs n o e
      rw [h4] at h6; cases h6
      exact ⟨(h8 b h5).1, (h8 b h5).2.2⟩
  have hwf2 : Wf G wl.heap.size X2 wl ρ Φ S.heap S.next wl := by
    refine ⟨rfl, rfl, rfl, Nat.le_refl _, Nat.le_refl _, fun _ _ _ => rfl, hwf1.phi, hwf1.dom, ?_, hwf1.disj⟩
    intro n o e
    obtain ⟨hd, h3, h4, h5⟩ := hwf1.objs n o e
    refine ⟨hd, h3, h4, fun b hb => ⟨.inr ?_, (h5 b hb).2⟩⟩
    rw [hX2]
    exact ⟨n, hd, by rw [e]; simp, h3, hb⟩
  have hext : Ext B1 X1 w1 wl.heap.size X2 wl := by
    refine ⟨hwf1.base, fun k hk hx => ⟨fun h3 => ?_, hwf1.frame k hk hx⟩, fun k hk hlt => ?_, hwf1.os, hwf1.tape, hwf1.output, hwf1.size⟩
    · rcases (hX2' k h3).1 with h4 | h4
      · omega
      · exact hx h4
    · rcases (hX2' k hk).1 with h4 | h4
      · omega
      · exact h4
  have hl2 : w.heap.size + 1 < wl.heap.size := by omega
  have hnx2 : ¬ X2 (w.heap.size + 1) := fun h3 => by have := (hX2' _ h3).2; omega
  have hnx2' : ¬ X2 w.heap.size := fun h3 => by have := (hX2' _ h3).2; omega
  have hphil : Φ (w.heap.size + 1) = none := by
    cases e : Φ (w.heap.size + 1) with
    | none => rfl
    | some o => have := hphiw _ _ e; omega
  have hphid : Φ w.heap.size = none := by
    cases e : Φ w.heap.size with
    | none => rfl
    | some o => have := hphiw _ _ e; omega
  have hBw : B ≤ w.heap.size := Nat.le_trans a2.ext.le a6.base
  have henter : (Instr.enterLoop fn a.tmps ps assign body (FR none).round).run G.P w = .ok (w.heap.size + 1, [mark w.heap.size]) wl := by
    rw [hwl, hrec]
    exact run_enterLoop_outer fn a.tmps ps assign body
  obtain ⟨fn', f1, f2, f3⟩ := hk.1
  refine ⟨w.heap.size + 1, [mark w.heap.size], wl, { target := .fn (.func (G.tag t)) A, args := #[.func (.yield (w.heap.size + 1)) #[] #[]] }, wl, G.tag t, #[.func (.yield (w.heap.size + 1)) #[] #[]] ++ A, wl,
    henter, ?_, fun _ _ => trivial, ?_, fun e => (by cases e), ?_⟩
  · have e0 : a.eval (.const (.func (.yield (w.heap.size + 1)) #[] #[])) = .func (.yield (w.heap.size + 1)) #[] #[] := rfl
    simp [resolve, hA, e0, Deferred.ofValue]
  · simp [invoke, run_callFunc f1 f2 f3]
  refine (callsIn_wide (n := n - 1)).2 ?_
  refine Calls.mono (hk.2 (w.heap.size + 1) _ wl.heap.size X2 wl ρ Φ S.heap S.next wl caps A _ (Nat.le_refl _) ?_ hwf2 hsz hrep h) ?_
  · -- a call of yield
    rintro l' us vs H nx J B3 X3 w3 ρ3 Φ3 w4 n' he3 hb3 hnm3 hle3 hn3 hwf3 hs3 hr3 ⟨rfl, hlen, hb⟩
    obtain ⟨p1, p2⟩ := he3.fr _ hl2 hnx2
    have hl3 : w.heap.size + 1 < B3 := Nat.lt_of_lt_of_le hl2 he3.le
    have hrec3 : w3.heap[w.heap.size + 1]? = some (.loop rec) := p2.trans hl0
    have hrec4 : w4.heap[w.heap.size + 1]? = some (.loop rec) := (hwf3.frame _ hl3 p1).trans hrec3
    have hphi3 : Φ3 (w.heap.size + 1) = none := by
      cases e : Φ3 (w.heap.size + 1) with
      | none => rfl
      | some o =>
        rcases hn3 _ o e with h3 | h3
        · rw [hphil] at h3; cases h3
        · omega
    have hvs : vs.size = rec.params.size := by rw [hs3, hlen, hrec]; simp
    have hBB : B ≤ w.heap.size + 1 := by omega
    have hchain : Ext B X w0 B3 X3 w3 := (a2.ext.trans hext).trans he3
    have hnewn : ∀ b o, Φ3 b = some o → Φ0 b = some o ∨ B ≤ b := fun b o e => (hn3 b o e).elim (a4 b o) (fun q => .inr (by omega))
    refine ⟨rec.fn, _, rec.assign, rec.body, run_yield hrec4 hvs, ?_⟩
    refine roundIn_of_wpIn (F := Fence.wide) trivial ?_
    have henv := updL_env (G := G) (Φ := Φ3) (ρ := ρ3) ps.toList us vs.toList S.env a.tmps N a1 hps hlen (by simp [hs3, hlen]) (fun j u hj => by
      obtain ⟨y, hy, hrr⟩ := RepAt.get hr3 hj
      exact ⟨y, by rw [Nat.zero_add] at hy; simpa using hy, hrr⟩) (by
        have := a5.mono hle3 hnm3
        exact fun k v e => this k v e)
    have hfold : (rec.params.zip vs).foldl (fun tmps (t, a) => tmps.setIfInBounds t a) rec.tmps = (ps.toList.zip vs.toList).foldl (fun tmps (t, a) => tmps.setIfInBounds t a) a.tmps := by
      rw [hrec, ← Array.foldl_toList, Array.toList_zip]
    rw [hfold]
    have hasg : rec.assign = assign := by rw [hrec]
    have hbod : rec.body = body := by rw [hrec]
    rw [hasg, hbod]
    have hY3 : YOk G x.Y B3 X3 w3 Φ3 ρ3 := hY.ext hchain ((a2.nm).trans hnm3) (a3.trans hle3) hnewn
    refine h1 ⟨nx, x.Y⟩ (some (w.heap.size + 1)) n' B3 X3 Φ3 w3 ⟨nx, ρ3, hwf3.dom⟩ _ ⟨updL S.env ps.toList us, H, nx⟩ _ w4 _ (fun e => by cases e) (Nat.le_refl _) hY3
      ⟨B3, X3, w3, ρ3, Φ3, henv.2, ⟨Ext.refl _ _ _, hb3, NmLe.refl _, [], rfl, List.nodup_nil, fun b hb => by cases hb⟩, PhiLe.refl _, fun b o e => .inl e, henv.1, hwf3⟩ hb ?_
    intro e S' a' w' hk' hat'
    cases e with
    | normal =>
      have hrec' : w'.heap[w.heap.size + 1]? = some (.loop rec) := (at_base hat' hl3 p1).trans hrec3
      refine ⟨_, run_beginRound hrec' (by rw [hrec]), ?_⟩
      have hY4 : YOk G x.Y B3 X3 (w3.putObj (w.heap.size + 1) (.loop { rec with state := .busy })) Φ3 ρ3 := hY.ext (hchain.putObj hBB _) ((a2.nm).trans hnm3) (a3.trans hle3) hnewn
      refine h2 ⟨nx, x.Y⟩ (some (w.heap.size + 1)) n' B3 X3 Φ3 (w3.putObj (w.heap.size + 1) (.loop { rec with state := .busy })) ⟨nx, ρ3, hwf3.dom⟩ _ S' a' _ _ (fun e => by cases e) (Nat.le_refl _) hY4
        (at_putObj hat' hl3 p1 hphi3 hb3 _) hk' ?_
      intro e2 S2 a2' w2' hk2 hat2
      cases e2 with
      | normal =>
        have hrec2 : w2'.heap[w.heap.size + 1]? = some (.loop { rec with state := .busy }) := (at_base hat2 hl3 p1).trans (World.putObj_heap_same (Nat.lt_of_lt_of_le hl3 hb3))
        refine ⟨_, _, run_endRound none hrec2, rfl, ?_⟩
        obtain ⟨B5, X5, w5, ρ5, Φ5, c1, c2, c3, c4, c5, c6⟩ := hat2
        have hphi5 : Φ5 (w.heap.size + 1) = none := by
          cases e : Φ5 (w.heap.size + 1) with
          | none => rfl
          | some o =>
            rcases c4 _ o e with h3 | h3
            · rw [hphi3] at h3; cases h3
            · omega
        refine ⟨S2.heap, S2.next, ρ5, Φ5, hk2, c2.nm, c3, c4, ?_⟩
        have h7 := (c6.back c2.ext).putObj hl3 p1 hphi5 (by simpa using hb3) (.loop rec)
        rw [putObj_putObj hrec3] at h7
        have : ({ { rec with state := LoopState.busy } with state := if (none : Option Code).isNone = true then LoopState.ready else LoopState.done, pending := none } : Loop) = rec := by rw [hrec]; rfl
        rw [this]
        exact h7
      | exit id => exact hk2.elim
      | goto l => exact hk2.elim
      | ret => exact hk2.elim
      | panic ch => exact hk2.elim
      | outgrown => exact hk2.elim
    | exit id => exact hk'.elim
    | goto l => exact hk'.elim
    | ret => exact hk'.elim
    | panic ch => exact hk'.elim
    | outgrown => exact hk'.elim
  · -- behind the loop
    rintro e w3 ⟨v, ρ', Φ', H', nx', rfl, q1, q2, q3, q4, q5⟩
    have hrec3 : w3.heap[w.heap.size + 1]? = some (.loop rec) := (q5.frame _ hl2 hnx2).trans hl0
    have hphi' : Φ' (w.heap.size + 1) = none := by
      cases e : Φ' (w.heap.size + 1) with
      | none => rfl
      | some o =>
        rcases q4 _ o e with h3 | h3
        · rw [hphil] at h3; cases h3
        · omega
    have hphid' : ∀ b, b < wl.heap.size → Φ b = none → Φ' b = none := by
      intro b hb hb2
      cases e : Φ' b with
      | none => rfl
      | some o =>
        rcases q4 _ o e with h3 | h3
        · rw [hb2] at h3; cases h3
        · omega
    have hend := run_endLoop (P := G.P) hrec3 (by rw [hrec]; simp)
    have hpend : rec.pending = none := by rw [hrec]
    rw [hpend] at hend
    refine ⟨none, _, hend, ?_⟩
    refine hq .normal ⟨S.env, H', nx'⟩ _ _ q1 ⟨wl.heap.size, X2, wl.putObj (w.heap.size + 1) (.loop { rec with state := .exhausted, pending := none }), ρ', Φ', a1, ⟨(a2.ext.trans hext).putObj (by omega) _, by simp, a2.nm.trans q2, ?_⟩, a3.trans q3,
      fun b o e => (q4 b o e).elim (a4 b o) (fun e => .inr (by omega)), a5.mono q3 q2, q5.putObj hl2 hnx2 hphi' (Nat.le_refl _) _⟩
    obtain ⟨ms, m1, m2, m3⟩ := a2.marks
    refine ⟨w.heap.size :: ms, by simp [m1], ?_, ?_⟩
    · rw [List.nodup_cons]
      refine ⟨fun hm => ?_, m2⟩
      have := (m3 _ hm).2.1
      have := a6.base
      omega
    · intro b hb
      rcases List.mem_cons.1 hb with rfl | hb
      · exact ⟨hBw, by omega, hnx2', by rw [World.putObj_heap_other (by omega)]; exact hd0, hphid' _ (by omega) hphid⟩
      · obtain ⟨r1, r2, r3, r4, r5⟩ := m3 b hb
        have hbw : b < w.heap.size := Nat.lt_of_lt_of_le r2 a6.base
        refine ⟨r1, by omega, (hext.fr b r2 r3).1, ?_, hphid' _ (by omega) r5⟩
        rw [World.putObj_heap_other (by omega), (hext.fr b r2 r3).2]
        exact r4
end

end Qk

/-
  From the model's code to the executor's form, by a function.
-/
namespace Qk
open Go Go.RowKit

/-- What is known of the functions that are called. -/
structure Env where
  fn : FuncId → Option PC
  tag : FuncId → Option Nat
  clo : Nat → Option PC
  hfn : FuncId → Option HTran
  hclo : Nat → Option HTran
  it : Nat → Option ITran

def zs (z : Value) : List AV := z.cells.toList.map AV.ofConst

def cArr (P : Program) (t e : TypeId) (parts : Array (Nat × Operand)) : Ins :=
  match P.info? t with
  | some it => match it.zero with
    | some z => match P.info? e with
      | some i => bif P.cellsOf e == i.size then .build it.size (zs z) (parts.toList.map fun p => (p.1 * i.size, i.size, p.2)) else .panic
      | none => .panic
    | none => .panic
  | none => .panic

def szF (P : Program) (f : Field) : Option Nat := match P.info? f.type with | some i => some i.size | none => none

def cStr (P : Program) (t : TypeId) (fs : Array Field) (parts : Array (Nat × Operand)) : Ins :=
  match P.info? t with
  | some it => match it.zero with
    | some z => bif fs.toList.all (fun f => (P.info? f.type).isSome) && parts.toList.all (fun p => Nat.blt p.1 fs.size) then
        .build it.size (zs z) (parts.toList.map fun p => (((fs[p.1]?).map (·.offset)).getD 0, ((fs[p.1]?).bind (szF P)).getD 0, p.2)) else .panic
    | none => .panic
  | none => .panic

def cBuild (P : Program) (t : TypeId) (parts : Array (Nat × Operand)) : Ins :=
  match P.underlying t with
  | some (.array _ e) => cArr P t e parts
  | some (.struct fs) => cStr P t fs parts
  | _ => .panic

def cBsl (P : Program) (t : TypeId) (n : Nat) (parts : Array (Nat × Operand)) : Ins :=
  match P.underlying t with
  | some (.slice e) => match P.info? e with
    | some i => match i.zero with
      | some z => bif z.cells.size == i.size && Nat.blt 0 i.size && Nat.ble (n * i.size) 16777216 then .bslice i.size (zs z) n (parts.toList.map fun p => (p.1 * i.size, i.size, p.2)) else .panic
      | none => .panic
    | none => .panic
  | _ => .panic

def cAlloc (P : Program) (t : TypeId) : Ins :=
  match P.info? t with
  | some i => match i.zero with
    | some z => .alloc (zs z)
    | none => .panic
  | none => .panic

def cLoad (P : Program) (t : TypeId) (x : Operand) : Ins :=
  match P.underlying t with
  | some d => match P.info? t with
    | some i => bif aggOf d then .loadN i.size x else .load1 x
    | none => .panic
  | none => .panic

def cStore (P : Program) (t : TypeId) (a x : Operand) : Ins :=
  match P.underlying t with
  | some d => match P.info? t with
    | some i => bif aggOf d then (bif Nat.blt 0 i.size then .storN i.size a x else .panic) else (bif i.size == 1 then .stor1 a x else .panic)
    | none => .panic
  | none => .panic

def cEq (P : Program) (neg : Bool) (t : TypeId) (x y : Operand) : Ins :=
  match P.underlying t with
  | some .bool => .beq neg x y
  | some (.int _) => .bin (cond neg .neq .eql) x y
  | some .string => .bin (cond neg .neq .eql) x y
  | some d => match flatK P 100 t with
    | some ks => bif aggOf d && P.cellsOf t == ks.length && !P.eqGuardType P.depth t then .aeq neg ks x y else .panic
    | none => .panic
  | none => .panic

def cBin (P : Program) (op : BinOp) (t : TypeId) (x y : Operand) : Ins :=
  match op with
  | .eql => cEq P false t x y
  | .neq => cEq P true t x y
  | op => .bin op x y

def cUn (op : UnOp) (x : Operand) : Ins :=
  match op with
  | .neg => .neg x
  | .xor => .cpl x
  | .not => .not x
  | _ => .panic

def isU8 (P : Program) (e : TypeId) : Bool := match P.underlying e with | some (.int .u8) => true | _ => false

def cConv (P : Program) (src dst : TypeId) (x : Operand) : Ins :=
  match P.underlying src with
  | some .string => match P.underlying dst with
    | some (.slice e) => bif isU8 P e then .s2b x else .panic
    | some (.int k) => .conv k x
    | _ => .panic
  | some (.slice e) => match P.underlying dst with
    | some .string => bif isU8 P e then .b2s x else .panic
    | some (.int k) => .conv k x
    | _ => .panic
  | some _ => match P.underlying dst with
    | some (.int k) => .conv k x
    | _ => .panic
  | none => .panic

def cLen (P : Program) (t : TypeId) (x : Operand) : Ins :=
  match P.underlying t with
  | some .string => .lenS x
  | some (.slice _) => .lenL x
  | some (.array n _) => .lenA n
  | _ => .panic

def cApp (P : Program) (t u : TypeId) (x y : Operand) : Ins :=
  match P.underlying t with
  | some (.slice e) => match P.info? e with
    | some i => match i.zero with
      | some z => match P.underlying u with
        | some .string => bif Nat.blt 0 i.bytes && z.cells.size == i.size && Nat.blt 0 i.size then .app i.size i.bytes x y else .panic
        | some (.slice _) => bif Nat.blt 0 i.bytes && z.cells.size == i.size && Nat.blt 0 i.size then .app i.size i.bytes x y else .panic
        | _ => .panic
      | none => .panic
    | none => .panic
  | _ => .panic

def cCall (P : Program) (E : Env) (c : Call) : Ins :=
  match c.callee with
  | .builtin .len => match c.args.toList, c.argTypes.toList with
    | [x], [t] => cLen P t x
    | _, _ => .panic
  | .builtin .append => match c.args.toList, c.argTypes.toList with
    | [x, y], [t, u] => cApp P t u x y
    | _, _ => .panic
  | .builtin _ => .panic
  | .value (.func f) => match E.fn f with
    | some C => .pcall C c.args.toList
    | none => .panic
  | .value x => .vcall E.clo x c.args.toList
  | .invoke _ _ => .panic

def cIdxA (P : Program) (t : TypeId) (x i : Operand) : Ins :=
  match P.underlying t with
  | some (.array n e) => match P.info? e with
    | some inf => .idxA inf.size n x i
    | none => .panic
  | some (.slice e) => match P.info? e with
    | some inf => .idxL inf.size x i
    | none => .panic
  | _ => .panic

def cTy (P : Program) (t : TypeId) : Option (Bool × Nat) :=
  match P.underlying t with
  | some d => match P.info? t with
    | some i => bif aggOf d || i.size == 1 then some (aggOf d, i.size) else none
    | none => none
  | none => none

def cIdx (P : Program) (t : TypeId) (x i : Operand) : Ins :=
  match P.underlying t with
  | some (.array n e) => match cTy P e with
    | some (agg, sz) => .idxV n sz agg x i
    | none => .panic
  | some .string => .idxS x i
  | _ => .panic

def cFldA (P : Program) (t : TypeId) (x : Operand) (f : Nat) : Ins :=
  match P.underlying t with
  | some (.struct fs) => match fs[f]? with
    | some fd => match P.info? fd.type with
      | some i => bif i.size == 0 then .panic else .fldA fd.offset x
      | none => .panic
    | none => .panic
  | _ => .panic

def cFld (P : Program) (t : TypeId) (x : Operand) (f : Nat) : Ins :=
  match P.underlying t with
  | some (.struct fs) => match fs[f]? with
    | some fd => match cTy P fd.type with
      | some (agg, sz) => .fldV fd.offset sz agg x
      | none => .panic
    | none => .panic
  | _ => .panic

def cSl (P : Program) (t : TypeId) (x : Operand) (lo hi : Option Operand) : Ins :=
  match P.underlying t with
  | some .string => .slS x lo hi
  | some (.array n e) => match P.info? e with
    | some i => .slA i.size n x lo hi
    | none => .panic
  | some (.slice e) => match P.info? e with
    | some i => .slL i.size x lo hi
    | none => .panic
  | _ => .panic

def cMk (P : Program) (t : TypeId) (l c : Operand) : Ins :=
  match P.underlying t with
  | some (.slice e) => match P.info? e with
    | some i => match i.zero with
      | some z => bif z.cells.size == i.size && Nat.blt 0 i.size then .mksl i.size i.bytes (zs z) l c else .panic
      | none => .panic
    | none => .panic
  | _ => .panic

def cClo (E : Env) (fn : Fn) (first caps : Array Operand) : Ins :=
  match fn with
  | .func f => match first.toList with
    | [] => match E.tag f with
      | some t => .mkclo t caps.toList
      | none => .panic
    | _ => .panic
  | _ => .panic

def cSl' (P : Program) (t : TypeId) (x : Operand) (lo hi mx : Option Operand) : Ins :=
  match mx with
  | none => cSl P t x lo hi
  | some _ => .panic

def cop (P : Program) (E : Env) (o : Op) : Ins :=
  match o with
  | .move x => .mov x
  | .assign x => .mov x
  | .pick c a b => .pick c a b
  | .alloc t => cAlloc P t
  | .box _ x => .box x
  | .build t parts => cBuild P t parts
  | .buildSlice t n parts => cBsl P t n parts
  | .load t x => cLoad P t x
  | .store t a x => cStore P t a x
  | .nilCheck x => .nilck x
  | .binOp op t x y _ => cBin P op t x y
  | .unOp op _ x => cUn op x
  | .convert src dst x => cConv P src dst x
  | .call c => cCall P E c
  | .indexAddr t x i => cIdxA P t x i
  | .index t x i => cIdx P t x i
  | .fieldAddr t x f => cFldA P t x f
  | .field t x f => cFld P t x f
  | .slice t x lo hi mx => cSl' P t x lo hi mx
  | .makeSlice t l c => cMk P t l c
  | .makeFunc fn first caps => cClo E fn first caps
  | .extract x i => .extr x i
  | _ => .panic

/-- The environment tells the truth. -/
structure Env.Ok (G : Gl) (E : Env) : Prop where
  fn : ∀ f C, E.fn f = some C → KeepsC G C (fun _ => none) f #[]
  tag : ∀ f t, E.tag f = some t → G.tag t = f
  clo : ∀ t C, E.clo t = some C → KeepsC G C (fun _ => none) (G.tag t) #[]
  hfn : ∀ f T, E.hfn f = some T → KeepsH G T f
  hclo : ∀ t T, E.hclo t = some T → KeepsH G T (G.tag t)
  it : ∀ t T, E.it t = some T → KeepsI G T (G.tag t)

section
variable {G : Gl} {E : Env} {o : Oper}

theorem toList_toArray' {α : Type} (l : Array α) : l.toList.toArray = l := by simp

theorem cArr_ok {t e : TypeId} {n : Nat} {parts : Array (Nat × Operand)} (ho : o.op = .build t parts) (ht : G.P.underlying t = some (.array n e)) : OpOk G o (ex1 (cArr G.P t e parts)) := by
  unfold cArr
  split
  case h_2 => exact ok_panic
  rename_i it hit
  split
  case h_2 => exact ok_panic
  rename_i z hz
  split
  case h_2 => exact ok_panic
  rename_i i hi
  cases hc : (G.P.cellsOf e == i.size) with
  | false => exact ok_panic
  | true => exact ok_buildA (parts := parts.toList) (by rw [ho]) ht hi rfl hit hz

theorem cStr_ok {t : TypeId} {fs : Array Field} {parts : Array (Nat × Operand)} (ho : o.op = .build t parts) (ht : G.P.underlying t = some (.struct fs)) : OpOk G o (ex1 (cStr G.P t fs parts)) := by
  unfold cStr
  split
  case h_2 => exact ok_panic
  rename_i it hit
  split
  case h_2 => exact ok_panic
  rename_i z hz
  cases hc : (fs.toList.all (fun f => (G.P.info? f.type).isSome) && parts.toList.all (fun p => Nat.blt p.1 fs.size)) with
  | false => exact ok_panic
  | true =>
    simp only [Bool.and_eq_true, List.all_eq_true] at hc
    refine ok_buildS (parts := parts.toList) (by rw [ho]) ht ?_ hit hz ?_
    · intro f hf
      obtain ⟨i, hi⟩ := Option.isSome_iff_exists.1 (hc.1 f hf)
      exact ⟨i, hi, by simp [szF, hi]⟩
    · intro p hp
      have := hc.2 p hp
      simpa using this

theorem cBuild_ok {t : TypeId} {parts : Array (Nat × Operand)} (ho : o.op = .build t parts) : OpOk G o (ex1 (cBuild G.P t parts)) := by
  unfold cBuild
  split
  · rename_i h; exact cArr_ok ho h
  · rename_i h; exact cStr_ok ho h
  · exact ok_panic

theorem cBsl_ok {t : TypeId} {n : Nat} {parts : Array (Nat × Operand)} (ho : o.op = .buildSlice t n parts) : OpOk G o (ex1 (cBsl G.P t n parts)) := by
  unfold cBsl
  split
  case h_2 => exact ok_panic
  rename_i e ht
  split
  case h_2 => exact ok_panic
  rename_i i hi
  split
  case h_2 => exact ok_panic
  rename_i z hz
  cases hc : (z.cells.size == i.size && Nat.blt 0 i.size && Nat.ble (n * i.size) 16777216) with
  | false => exact ok_panic
  | true =>
    simp at hc
    exact ok_bslice (parts := parts.toList) (by rw [ho]) ht hi rfl hz hc.1.1 hc.1.2 hc.2

theorem cAlloc_ok {t : TypeId} (ho : o.op = .alloc t) : OpOk G o (ex1 (cAlloc G.P t)) := by
  unfold cAlloc
  split
  case h_2 => exact ok_panic
  rename_i i hi
  split
  case h_2 => exact ok_panic
  rename_i z hz
  exact ok_alloc ho hi hz

theorem cLoad_ok {t : TypeId} {x : Operand} (ho : o.op = .load t x) : OpOk G o (ex1 (cLoad G.P t x)) := by
  unfold cLoad
  split
  case h_2 => exact ok_panic
  rename_i d hd
  split
  case h_2 => exact ok_panic
  rename_i i hi
  cases ha : aggOf d with
  | true => exact ok_loadN ho ⟨d, i, hd, hi, rfl, ha, by simp⟩
  | false => exact ok_load1 ho ⟨d, hd, ha⟩

theorem cStore_ok {t : TypeId} {p x : Operand} (ho : o.op = .store t p x) : OpOk G o (ex1 (cStore G.P t p x)) := by
  unfold cStore
  split
  case h_2 => exact ok_panic
  rename_i d hd
  split
  case h_2 => exact ok_panic
  rename_i i hi
  cases ha : aggOf d with
  | true =>
    cases hs : Nat.blt 0 i.size with
    | false => exact ok_panic
    | true => exact ok_storN ho hi rfl (by simpa using hs)
  | false =>
    cases hs : (i.size == 1) with
    | false => exact ok_panic
    | true => exact ok_stor1 ho hi (by simpa using hs)

theorem cEq_ok {neg : Bool} {t ty : TypeId} {x y : Operand} (ho : o.op = .binOp (cond neg .neq .eql) t x y ty) : OpOk G o (ex1 (cEq G.P neg t x y)) := by
  unfold cEq
  split
  case h_1 h => exact ok_beq ho h
  case h_2 => exact ok_bin ho
  case h_3 => exact ok_bin ho
  case h_5 => exact ok_panic
  rename_i d _ _ _ hd
  split
  case h_2 => exact ok_panic
  rename_i ks hks
  cases hc : (aggOf d && G.P.cellsOf t == ks.length && !G.P.eqGuardType G.P.depth t) with
  | false => exact ok_panic
  | true =>
    simp at hc
    exact ok_aeq ho hks hc.1.2 hc.2 ⟨d, hd, hc.1.1⟩

theorem cBin_ok {op : BinOp} {t ty : TypeId} {x y : Operand} (ho : o.op = .binOp op t x y ty) : OpOk G o (ex1 (cBin G.P op t x y)) := by
  unfold cBin
  split
  · exact cEq_ok (neg := false) ho
  · exact cEq_ok (neg := true) ho
  · exact ok_bin ho

theorem cUn_ok {op : UnOp} {t : TypeId} {x : Operand} (ho : o.op = .unOp op t x) : OpOk G o (ex1 (cUn op x)) := by
  unfold cUn
  split
  · exact ok_neg ho
  · exact ok_cpl ho
  · exact ok_not ho
  · exact ok_panic

theorem isU8_ok {P : Program} {e : TypeId} (h : isU8 P e = true) : P.underlying e = some (.int .u8) := by
  unfold isU8 at h
  split at h
  · assumption
  · cases h

theorem cConv_ok {src dst : TypeId} {x : Operand} (ho : o.op = .convert src dst x) : OpOk G o (ex1 (cConv G.P src dst x)) := by
  unfold cConv
  split
  · rename_i hs
    split
    · rename_i e hd
      cases hu : isU8 G.P e with
      | false => exact ok_panic
      | true => exact ok_s2b ho hs hd (isU8_ok hu)
    · rename_i k hd; exact ok_conv ho (by rw [hs]; rfl) hd
    · exact ok_panic
  · rename_i e hs
    split
    · rename_i hd
      cases hu : isU8 G.P e with
      | false => exact ok_panic
      | true => exact ok_b2s ho hs (isU8_ok hu) hd
    · rename_i k hd; exact ok_conv ho (by rw [hs]; rfl) hd
    · exact ok_panic
  · rename_i hs
    split
    · rename_i k hd; exact ok_conv ho (by rw [hs]; rfl) hd
    · exact ok_panic
  · exact ok_panic

theorem cLen_ok {t : TypeId} {x : Operand} (ho : o.op = .call { callee := .builtin .len, args := #[x], argTypes := #[t] }) : OpOk G o (ex1 (cLen G.P t x)) := by
  unfold cLen
  split
  · rename_i h; exact ok_lenS ho h
  · rename_i h; exact ok_lenL ho h
  · rename_i h; exact ok_lenA ho h
  · exact ok_panic

theorem cApp_ok {t u : TypeId} {x y : Operand} (ho : o.op = .call { callee := .builtin .append, args := #[x, y], argTypes := #[t, u] }) : OpOk G o (ex1 (cApp G.P t u x y)) := by
  unfold cApp
  split
  case h_2 => exact ok_panic
  rename_i e ht
  split
  case h_2 => exact ok_panic
  rename_i i hi
  split
  case h_2 => exact ok_panic
  rename_i z hz
  split
  case h_3 => exact ok_panic
  case h_1 hu =>
    cases hc : (Nat.blt 0 i.bytes && z.cells.size == i.size && Nat.blt 0 i.size) with
    | false => exact ok_panic
    | true =>
      simp at hc
      exact ok_app ho ht hu (.inl rfl) hi hz rfl rfl hc.1.1 hc.1.2 hc.2
  case h_2 e' hu =>
    cases hc : (Nat.blt 0 i.bytes && z.cells.size == i.size && Nat.blt 0 i.size) with
    | false => exact ok_panic
    | true =>
      simp at hc
      exact ok_app ho ht hu (.inr ⟨e', rfl⟩) hi hz rfl rfl hc.1.1 hc.1.2 hc.2

theorem arr1 {α : Type} {l : Array α} {a : α} (h : l.toList = [a]) : l = #[a] := by apply Array.ext'; simpa using h
theorem arr2 {α : Type} {l : Array α} {a b : α} (h : l.toList = [a, b]) : l = #[a, b] := by apply Array.ext'; simpa using h

theorem cCall_ok (hE : Env.Ok G E) {c : Call} (ho : o.op = .call c) : OpOk G o (ex1 (cCall G.P E c)) := by
  obtain ⟨callee, args, tys⟩ := c
  unfold cCall
  split
  case h_1 hc =>
    simp only at hc
    subst hc
    split
    · rename_i x t h1 h2
      simp only at h1 h2
      rw [arr1 h1, arr1 h2] at ho
      exact cLen_ok ho
    · exact ok_panic
  case h_2 hc =>
    simp only at hc
    subst hc
    split
    · rename_i x y t u h1 h2
      simp only at h1 h2
      rw [arr2 h1, arr2 h2] at ho
      exact cApp_ok ho
    · exact ok_panic
  case h_3 => exact ok_panic
  case h_4 f hc =>
    simp only at hc
    subst hc
    split
    · rename_i C hC
      exact ok_pcall (args := args.toList) (ts := tys) (by rw [ho, toList_toArray']) (hE.fn f C hC)
    · exact ok_panic
  case h_5 x _ hc =>
    simp only at hc
    subst hc
    exact ok_vcall (args := args.toList) (ts := tys) (by rw [ho, toList_toArray']) hE.clo
  case h_6 => exact ok_panic

theorem cTy_ok {P : Program} {t : TypeId} {agg : Bool} {sz : Nat} (h : cTy P t = some (agg, sz)) : TyIs P t agg sz := by
  unfold cTy at h
  split at h
  case h_2 => cases h
  rename_i d hd
  split at h
  case h_2 => cases h
  rename_i i hi
  cases hc : (aggOf d || i.size == 1) with
  | false => rw [hc] at h; cases h
  | true =>
    rw [hc] at h
    simp only [cond_true, Option.some.injEq, Prod.mk.injEq] at h
    refine ⟨d, i, hd, hi, h.2, h.1, fun hf => ?_⟩
    rw [h.1, hf] at hc
    simp at hc
    omega

theorem cop_ok (hE : Env.Ok G E) : OpOk G o (ex1 (cop G.P E o.op)) := by
  generalize hop : o.op = p
  cases p <;> simp only [cop]
  case move x => exact ok_mov (.inl hop)
  case assign x => exact ok_mov (.inr hop)
  case pick c a b => exact ok_pick hop
  case alloc t => exact cAlloc_ok hop
  case box t x => exact ok_box hop
  case build t ps => exact cBuild_ok hop
  case buildSlice t n ps => exact cBsl_ok hop
  case load t x => exact cLoad_ok hop
  case store t a x => exact cStore_ok hop
  case nilCheck x => exact ok_nilck hop
  case binOp op t x y ty => exact cBin_ok hop
  case unOp op t x => exact cUn_ok hop
  case convert s d x => exact cConv_ok hop
  case call c => exact cCall_ok hE hop
  case indexAddr t x i =>
    unfold cIdxA
    split
    · rename_i h
      split
      · rename_i hi; exact ok_idxA hop h hi rfl
      · exact ok_panic
    · rename_i h
      split
      · rename_i hi; exact ok_idxL hop h hi rfl
      · exact ok_panic
    · exact ok_panic
  case index t x i =>
    unfold cIdx
    split
    · rename_i h
      split
      · rename_i hi; exact ok_idxV hop h (cTy_ok hi)
      · exact ok_panic
    · rename_i h; exact ok_idxS hop h
    · exact ok_panic
  case fieldAddr t x f =>
    unfold cFldA
    split
    case h_2 => exact ok_panic
    rename_i fs h
    split
    case h_2 => exact ok_panic
    rename_i fd hfd
    split
    case h_2 => exact ok_panic
    rename_i i hi
    cases hs : (i.size == 0) with
    | true => exact ok_panic
    | false => exact ok_fldA hop h hfd hi (by simpa using hs)
  case field t x f =>
    unfold cFld
    split
    case h_2 => exact ok_panic
    rename_i fs h
    split
    case h_2 => exact ok_panic
    rename_i fd hfd
    split
    case h_2 => exact ok_panic
    rename_i hty
    exact ok_fldV hop h hfd rfl (cTy_ok hty)
  case slice t x lo hi mx =>
    cases mx with
    | some m => exact ok_panic
    | none =>
      simp only [cSl']
      unfold cSl
      split
      · rename_i h; exact ok_slS hop h
      · rename_i h
        split
        · rename_i hi'; exact ok_slA hop h hi' rfl
        · exact ok_panic
      · rename_i h
        split
        · rename_i hi'; exact ok_slL hop h hi' rfl
        · exact ok_panic
      · exact ok_panic
  case makeSlice t l c =>
    unfold cMk
    split
    case h_2 => exact ok_panic
    rename_i e h
    split
    case h_2 => exact ok_panic
    rename_i i hi
    split
    case h_2 => exact ok_panic
    rename_i z hz
    cases hc : (z.cells.size == i.size && Nat.blt 0 i.size) with
    | false => exact ok_panic
    | true =>
      simp at hc
      exact ok_mksl hop h hi hz rfl rfl hc.1 hc.2
  case makeFunc fn first caps =>
    unfold cClo
    split
    case h_2 => exact ok_panic
    rename_i f
    split
    case h_2 => exact ok_panic
    rename_i hfst
    split
    case h_2 => exact ok_panic
    rename_i t ht
    have h0 : first = #[] := by apply Array.ext'; simpa using hfst
    exact ok_mkclo (caps := caps.toList) (by rw [hop, h0, hE.tag f t ht, toList_toArray'])
  case extract x i => exact ok_extr hop
  all_goals exact ok_panic

end

def cGuard (ops : Array Oper) (o : Oper) : Option (Option (Nat × Bool)) :=
  match o.guard with
  | none => some none
  | some (j, want) => match (ops[j]?).bind (·.dst) with
    | some g => some (some (g, want))
    | none => none

def cOpers (P : Program) (E : Env) (N : Nat) (ops : Array Oper) : List Oper → Option (List IOp)
  | [] => some []
  | o :: r => match (match o.dst with | some d => Nat.blt d N | none => true) with
    | true => match cGuard ops o with
      | some g => match cOpers P E N ops r with
        | some l => some (⟨o.dst, g, cop P E o.op⟩ :: l)
        | none => none
      | none => none
    | false => none

/-- A call that shares the memory, or of a function value. -/
def spec (E : Env) (o : Oper) : Bool :=
  match o.op with
  | .call c => match c.callee with
    | .value (.func f) => (E.hfn f).isSome
    | .value _ => true
    | _ => false
  | _ => false

def cSO (E : Env) (o : Oper) (io : IOp) : SO :=
  match o.op with
  | .call c => match c.callee with
    | .value (.func f) => match E.hfn f with
      | some T => .call io.guard io.dst T c.args.toList
      | none => .op io
    | .value x => .dyn io E.hclo x c.args.toList
    | _ => .op io
  | _ => .op io

def cSOs (E : Env) : List Oper → List IOp → List SO
  | o :: r, io :: s => cSO E o io :: cSOs E r s
  | _, _ => []

def cc (P : Program) (E : Env) (N : Nat) (rd : Bool) : Code → Option IC
  | .skip => some .skip
  | .region _ ops draw => match cOpers P E N ops ops.toList with
    | some ios => match draw with
      | true => match P.follows .mixedOrders && pairsOk (msks ops.toList []) ios && backOk ops.toList with
        | true => some (.ops ios)
        | false => none
      | false => match ops.toList.any (spec E) with
        | true => some (.sops (cSOs E ops.toList ios))
        | false => some (.ops ios)
    | none => none
  | .seq a b => match cc P E N rd a with
    | some x => match cc P E N rd b with
      | some y => some (.seq x y)
      | none => none
    | none => none
  | .cond c a b => match cc P E N rd a with
    | some x => match cc P E N rd b with
      | some y => some (.cond c x y)
      | none => none
    | none => none
  | .block id b => match cc P E N rd b with
    | some x => some (.block id x)
    | none => none
  | .loop b => match cc P E N rd b with
    | some x => some (.loop x)
    | none => none
  | .rangeFunc g ps a b => match rd with
    | true => none
    | false => match ps.toList.all (fun p => Nat.blt p N) with
      | true => match cc P E N true a with
        | some x => match cc P E N true b with
          | some y => some (.rfunc E.it g ps.toList (.seq x y))
          | none => none
        | none => none
      | false => none
  | .exit id => some (.exit id)
  | .ret => some .ret
  | .label _ => some .skip
  | _ => none

theorem cop_nd (P : Program) (E : Env) (o : Oper) : (∀ c, o.op ≠ .defer c) ∨ ∀ S K, ¬ ex1 (cop P E o.op) S K := by
  by_cases h : ∃ c, o.op = .defer c
  · obtain ⟨c, hc⟩ := h
    right
    intro S K hk
    rw [hc] at hk
    exact hk
  · left
    intro c hc
    exact h ⟨c, hc⟩

section
variable {G : Gl} {E : Env} {N : Nat}

theorem cOpers_ok (hE : Env.Ok G E) (ops : Array Oper) : ∀ (l : List Oper) (ios : List IOp), cOpers G.P E N ops l = some ios →
    ios.length = l.length ∧ ∀ (i : Nat) (o : Oper), l[i]? = some o → ∃ io, ios[i]? = some io ∧ OpRel G ops N o io
  | [], ios, h => by
    simp only [cOpers, Option.some.injEq] at h
    subst h
    exact ⟨rfl, fun i o hi => by simp at hi⟩
  | o :: r, ios, h => by
    simp only [cOpers] at h
    split at h
    case h_2 => cases h
    rename_i hd
    split at h
    case h_2 => cases h
    rename_i g hg
    split at h
    case h_2 => cases h
    rename_i l hl
    cases h
    obtain ⟨h1, h2⟩ := cOpers_ok hE ops r l hl
    refine ⟨by simp [h1], fun i o' hi => ?_⟩
    cases i with
    | zero =>
      simp at hi
      subst hi
      refine ⟨_, rfl, ⟨rfl, ?_, ?_, cop_ok hE, cop_nd _ _ _⟩⟩
      · intro d hd'
        rw [hd'] at hd
        simpa using hd
      · unfold cGuard at hg
        split at hg
        · rename_i hgn
          cases hg
          exact .inl ⟨hgn, rfl⟩
        · rename_i j want hgn
          split at hg
          · rename_i g' hg'
            cases hg
            exact .inr ⟨j, want, g', hgn, hg', rfl⟩
          · cases hg
    | succ i =>
      simp at hi
      obtain ⟨io, h3, h4⟩ := h2 i o' hi
      exact ⟨io, by simpa using h3, h4⟩

theorem cSO_ok (hE : Env.Ok G E) {ops : Array Oper} {o : Oper} {io : IOp} (h : OpRel G ops N o io) : SORel G ops N o (cSO E o io) := by
  unfold cSO
  split
  case h_2 => exact h
  rename_i c ho
  obtain ⟨callee, args, tys⟩ := c
  split
  case h_1 f hc =>
    simp only at hc
    subst hc
    split
    · rename_i T hT
      exact ⟨h.base, f, tys, by rw [ho, toList_toArray'], hE.hfn f T hT⟩
    · exact h
  case h_2 x _ hc =>
    simp only at hc
    subst hc
    exact ⟨h, tys, by rw [ho, toList_toArray'], hE.hclo⟩
  case h_3 => exact h

theorem cSOs_get (E : Env) : ∀ (l : List Oper) (ios : List IOp), l.length = ios.length → (cSOs E l ios).length = l.length ∧ ∀ (j : Nat) so, (cSOs E l ios)[j]? = some so → ∃ o io, l[j]? = some o ∧ ios[j]? = some io ∧ so = cSO E o io
  | [], ios, h => by
    cases ios with
    | nil => exact ⟨rfl, fun j so hj => by simp [cSOs] at hj⟩
    | cons => simp at h
  | o :: r, [], h => by simp at h
  | o :: r, io :: s, h => by
    obtain ⟨h1, h2⟩ := cSOs_get E r s (by simpa using h)
    refine ⟨by simp [cSOs, h1], fun j so hj => ?_⟩
    cases j with
    | zero => simp [cSOs] at hj; exact ⟨o, io, rfl, rfl, hj.symm⟩
    | succ j =>
      simp [cSOs] at hj
      obtain ⟨o', io', h3, h4, h5⟩ := h2 j so hj
      exact ⟨o', io', by simpa using h3, by simpa using h4, h5⟩

theorem CodeOk.sregion {rd : Bool} {id : Nat} {ops : Array Oper} {l : List SO} (hl : l.length = ops.size) (hrel : ∀ (j : Nat) so, l[j]? = some so → ∃ o, ops[j]? = some o ∧ SORel G ops N o so) :
    CodeOk G N rd (.region id ops false) (.sops l) := by
  intro x R n B X Φ0 w0 D K S a w Q hR hm hY hat h hq
  refine wpIn_region ?_
  rw [List.range_eq_range', ← hl]
  exact sops_ok hY l 0 S _ a w (fun j so hj => by rw [Nat.zero_add]; exact hrel j so hj) hat h fun S' a' w' hk hat' => hq _ _ _ _ hk hat'

theorem cc_ok (hE : Env.Ok G E) : ∀ (c : Code) (rd : Bool) (ic : IC), cc G.P E N rd c = some ic → CodeOk G N rd c ic := by
  intro c
  induction c with
  | skip => intro rd ic h; simp only [cc, Option.some.injEq] at h; subst h; exact CodeOk.skip
  | exit id => intro rd ic h; simp only [cc, Option.some.injEq] at h; subst h; exact CodeOk.exit
  | ret => intro rd ic h; simp only [cc, Option.some.injEq] at h; subst h; exact CodeOk.ret
  | label l => intro rd ic h; simp only [cc, Option.some.injEq] at h; subst h; exact CodeOk.label
  | goto l => intro rd ic h; simp [cc] at h
  | scope b => intro rd ic h; simp [cc] at h
  | refuse w => intro rd ic h; simp [cc] at h
  | rangeFunc g ps a b iha ihb =>
    intro rd ic h
    simp only [cc] at h
    split at h
    · cases h
    split at h
    case h_2 => cases h
    rename_i hps
    split at h
    case h_2 => cases h
    rename_i x hx
    split at h
    case h_2 => cases h
    rename_i y hy
    cases h
    refine rfunc_ok (iha true x hx) (ihb true y hy) (fun p hp => ?_) hE.it
    rw [List.all_eq_true] at hps
    simpa using hps p hp
  | region id ops draw =>
    intro rd ic h
    simp only [cc] at h
    split at h
    case h_2 => cases h
    rename_i ios hios
    obtain ⟨h1, h2⟩ := cOpers_ok hE ops _ _ hios
    have hrel : ∀ (i : Nat) (o : Oper), ops[i]? = some o → ∃ io, ios[i]? = some io ∧ OpRel G ops N o io := fun i o hi => h2 i o (by simpa using hi)
    cases draw with
    | false =>
      simp only at h
      split at h
      · cases h
        obtain ⟨h3, h4⟩ := cSOs_get E ops.toList ios h1.symm
        refine CodeOk.sregion (by simpa using h3) (fun j so hj => ?_)
        obtain ⟨o, io, h5, h6, rfl⟩ := h4 j so hj
        obtain ⟨io', h7, h8⟩ := h2 j o h5
        rw [h6] at h7
        cases h7
        exact ⟨o, by simpa using h5, cSO_ok hE h8⟩
      · cases h
        exact CodeOk.region hrel (by simpa using h1)
    | true =>
      simp only at h
      split at h
      case h_2 => cases h
      rename_i hc
      cases h
      simp only [Bool.and_eq_true] at hc
      exact CodeOk.regionDraw hc.1.1 hrel (by simpa using h1) hc.1.2 hc.2
  | seq a b iha ihb =>
    intro rd ic h
    simp only [cc] at h
    split at h
    case h_2 => cases h
    rename_i x hx
    split at h
    case h_2 => cases h
    rename_i y hy
    cases h
    exact CodeOk.seq (iha rd x hx) (ihb rd y hy)
  | cond c a b iha ihb =>
    intro rd ic h
    simp only [cc] at h
    split at h
    case h_2 => cases h
    rename_i x hx
    split at h
    case h_2 => cases h
    rename_i y hy
    cases h
    exact CodeOk.cond (iha rd x hx) (ihb rd y hy)
  | block id b ih =>
    intro rd ic h
    simp only [cc] at h
    split at h
    case h_2 => cases h
    rename_i x hx
    cases h
    exact CodeOk.block (ih rd x hx)
  | loop b ih =>
    intro rd ic h
    simp only [cc] at h
    split at h
    case h_2 => cases h
    rename_i x hx
    cases h
    exact CodeOk.loop (ih rd x hx)

end

/-- Without the marks at which ways meet. -/
def strip : IC → IC
  | .jn a => strip a
  | .seq a b => .seq (strip a) (strip b)
  | .cond c t e => .cond c (strip t) (strip e)
  | .block id b => .block id (strip b)
  | .loop b => .loop (strip b)
  | .rfunc its g ps (.seq a b) => .rfunc its g ps (.seq (strip a) (strip b))
  | x => x

section
variable {G : Gl} {E : Env} {N : Nat}

theorem cc_seq {P : Program} {rd : Bool} {c : Code} {x y : IC} (h : cc P E N rd c = some (.seq x y)) : ∃ a b, c = .seq a b ∧ cc P E N rd a = some x ∧ cc P E N rd b = some y := by
  cases c <;> simp only [cc] at h <;> (repeat' (split at h)) <;> cases h
  exact ⟨_, _, rfl, by assumption, by assumption⟩
theorem cc_cond {P : Program} {rd : Bool} {c : Code} {o : Operand} {x y : IC} (h : cc P E N rd c = some (.cond o x y)) : ∃ a b, c = .cond o a b ∧ cc P E N rd a = some x ∧ cc P E N rd b = some y := by
  cases c <;> simp only [cc] at h <;> (repeat' (split at h)) <;> cases h
  exact ⟨_, _, rfl, by assumption, by assumption⟩
theorem cc_block {P : Program} {rd : Bool} {c : Code} {id : Nat} {x : IC} (h : cc P E N rd c = some (.block id x)) : ∃ a, c = .block id a ∧ cc P E N rd a = some x := by
  cases c <;> simp only [cc] at h <;> (repeat' (split at h)) <;> cases h
  exact ⟨_, rfl, by assumption⟩
theorem cc_loop {P : Program} {rd : Bool} {c : Code} {x : IC} (h : cc P E N rd c = some (.loop x)) : ∃ a, c = .loop a ∧ cc P E N rd a = some x := by
  cases c <;> simp only [cc] at h <;> (repeat' (split at h)) <;> cases h
  exact ⟨_, rfl, by assumption⟩
theorem cc_rfunc {P : Program} {rd : Bool} {c : Code} {its : Nat → Option ITran} {o : Operand} {ps : List Nat} {x y : IC} (h : cc P E N rd c = some (.rfunc its o ps (.seq x y))) :
    ∃ qs a b, c = .rangeFunc o qs a b ∧ ps = qs.toList ∧ its = E.it ∧ rd = false ∧ (∀ p ∈ qs.toList, p < N) ∧ cc P E N true a = some x ∧ cc P E N true b = some y := by
  cases c <;> simp only [cc] at h <;> (repeat' (split at h)) <;> cases h
  rename_i hps _ _ _ _
  refine ⟨_, _, _, rfl, rfl, rfl, rfl, fun p hp => ?_, by assumption, by assumption⟩
  rw [List.all_eq_true] at hps
  simpa using hps p hp

theorem cj_ok (hE : Env.Ok G E) : ∀ (ic : IC) (c : Code) (rd : Bool), cc G.P E N rd c = some (strip ic) → CodeOk G N rd c ic
  | .jn a, c, rd, h => CodeOk.jn (cj_ok hE a c rd (by simpa only [strip] using h))
  | .seq a b, c, rd, h => by
    simp only [strip] at h
    obtain ⟨x, y, rfl, h1, h2⟩ := cc_seq h
    exact CodeOk.seq (cj_ok hE a x rd h1) (cj_ok hE b y rd h2)
  | .cond o a b, c, rd, h => by
    simp only [strip] at h
    obtain ⟨x, y, rfl, h1, h2⟩ := cc_cond h
    exact CodeOk.cond (cj_ok hE a x rd h1) (cj_ok hE b y rd h2)
  | .block id a, c, rd, h => by
    simp only [strip] at h
    obtain ⟨x, rfl, h1⟩ := cc_block h
    exact CodeOk.block (cj_ok hE a x rd h1)
  | .loop a, c, rd, h => by
    simp only [strip] at h
    obtain ⟨x, rfl, h1⟩ := cc_loop h
    exact CodeOk.loop (cj_ok hE a x rd h1)
  | .rfunc its g ps (.seq a b), c, rd, h => by
    simp only [strip] at h
    obtain ⟨qs, x, y, rfl, rfl, rfl, rfl, h1, h2, h3⟩ := cc_rfunc h
    exact rfunc_ok (cj_ok hE a x true h2) (cj_ok hE b y true h3) h1 hE.it
  | .skip, c, rd, h => cc_ok hE c rd _ h
  | .ops l, c, rd, h => cc_ok hE c rd _ h
  | .sops l, c, rd, h => cc_ok hE c rd _ h
  | .exit id, c, rd, h => cc_ok hE c rd _ h
  | .ret, c, rd, h => cc_ok hE c rd _ h
  | .rfunc its g ps .skip, c, rd, h => cc_ok hE c rd _ h
  | .rfunc its g ps (.ops l), c, rd, h => cc_ok hE c rd _ h
  | .rfunc its g ps (.sops l), c, rd, h => cc_ok hE c rd _ h
  | .rfunc its g ps (.cond o x y), c, rd, h => cc_ok hE c rd _ h
  | .rfunc its g ps (.block id x), c, rd, h => cc_ok hE c rd _ h
  | .rfunc its g ps (.loop x), c, rd, h => cc_ok hE c rd _ h
  | .rfunc its g ps (.rfunc a b d e), c, rd, h => cc_ok hE c rd _ h
  | .rfunc its g ps (.exit id), c, rd, h => cc_ok hE c rd _ h
  | .rfunc its g ps .ret, c, rd, h => cc_ok hE c rd _ h
  | .rfunc its g ps (.jn x), c, rd, h => cc_ok hE c rd _ h

end

def rrOf (P : Program) (x : ResultVar) : Option RR :=
  match x with
  | .tmp t => some (.tmp t)
  | .cell a t => match P.underlying t with
    | some d => match P.info? t with
      | some i => some (.cell a (aggOf d) i.size)
      | none => none
    | none => none

def rrs (P : Program) : List ResultVar → Option (List RR)
  | [] => some []
  | x :: r => match rrOf P x with
    | some y => match rrs P r with
      | some l => some (y :: l)
      | none => none
    | none => none

theorem rrs_ok {P : Program} : ∀ {xs : List ResultVar} {rs : List RR}, rrs P xs = some rs → xs.length = rs.length ∧ ∀ (j : Nat) x q, xs[j]? = some x → rs[j]? = some q → RRel P x q
  | [], rs, h => by
    simp only [rrs, Option.some.injEq] at h
    subst h
    exact ⟨rfl, fun j x q h => by simp at h⟩
  | x :: xs, rs, h => by
    simp only [rrs] at h
    split at h
    case h_2 => cases h
    rename_i y hy
    split at h
    case h_2 => cases h
    rename_i l hl
    cases h
    obtain ⟨h1, h2⟩ := rrs_ok hl
    refine ⟨by simp [h1], fun j x' q hx hq => ?_⟩
    cases j with
    | zero =>
      simp at hx hq
      subst hx
      subst hq
      unfold rrOf at hy
      split at hy
      · cases hy; rfl
      · split at hy
        case h_2 => cases hy
        rename_i d hd
        split at hy
        case h_2 => cases hy
        rename_i i hi
        cases hy
        exact ⟨rfl, d, i, hd, hi, rfl, rfl⟩
    | succ j => exact h2 j x' q (by simpa using hx) (by simpa using hq)

/-- A function in the executor's form. -/
structure IF where
  code : IC
  res : List RR

def IF.strip (F : IF) : IF := ⟨Qk.strip F.code, F.res⟩

def compF (P : Program) (E : Env) (fn : Func) : Option IF :=
  match fn.name == "runtime.NumGoroutine" with
  | true => none
  | false => match fn.body with
    | some c => match cc P E fn.ntmps false c with
      | some ic => match rrs P fn.results.toList with
        | some rs => some ⟨ic, rs⟩
        | none => none
      | none => none
    | none => none

/-- The function's code, in the executor's form, does what the contract says. -/
def Does (F : IF) (C : PC) : Prop := ∀ x, C.ok x → awp Cx.top F.code (retK F.res (C.res x)) (entry (C.args x))

theorem keeps_of {G : Gl} {E : Env} {f : FuncId} {fn : Func} {F : IF} {C : PC} (hE : Env.Ok G E) (hf : G.P.funcs[f]? = some fn) (hc : compF G.P E fn = some F.strip)
    (hN : ∀ x, (C.args x).length ≤ fn.ntmps) (hnn : ∀ x, C.ok x → NN (C.res x)) (hir : Does F C) : KeepsC G C (fun _ => none) f #[] := by
  unfold compF at hc
  split at hc
  · cases hc
  rename_i hname
  split at hc
  case h_2 => cases hc
  rename_i c hb
  split at hc
  case h_2 => cases hc
  rename_i ic hic
  split at hc
  case h_2 => cases hc
  rename_i rs hrs
  obtain ⟨F1, F2⟩ := F
  simp only [IF.strip, Option.some.injEq, IF.mk.injEq] at hc
  obtain ⟨hc1, hc2⟩ := hc
  subst hc2
  subst hc1
  obtain ⟨h1, h2⟩ := rrs_ok hrs
  exact fn_ok hf hb hname (cj_ok hE _ c false hic) h1 h2 hN hnn hir

/-- The function's code shares the caller's memory. -/
theorem keepsH_of {G : Gl} {E : Env} {f : FuncId} {fn : Func} {F : IF} {n : Nat} (hE : Env.Ok G E) (hf : G.P.funcs[f]? = some fn) (hc : compF G.P E fn = some F.strip) (hn : n ≤ fn.ntmps) : KeepsH G (inl n F.code F.res) f := by
  unfold compF at hc
  split at hc
  · cases hc
  rename_i hname
  split at hc
  case h_2 => cases hc
  rename_i c hb
  split at hc
  case h_2 => cases hc
  rename_i ic hic
  split at hc
  case h_2 => cases hc
  rename_i rs hrs
  obtain ⟨F1, F2⟩ := F
  simp only [IF.strip, Option.some.injEq, IF.mk.injEq] at hc
  obtain ⟨hc1, hc2⟩ := hc
  subst hc2
  subst hc1
  obtain ⟨h1, h2⟩ := rrs_ok hrs
  exact inl_ok hf hb hname (cj_ok hE _ c false hic) h1 h2 hn

/-- The function is an iterator. -/
theorem keepsI_of {G : Gl} {E : Env} {f : FuncId} {fn : Func} {F : IF} {n : Nat} (hE : Env.Ok G E) (hf : G.P.funcs[f]? = some fn) (hc : compF G.P E fn = some F.strip) (hn : n ≤ fn.ntmps) : KeepsI G (itr n F.code F.res) f := by
  unfold compF at hc
  split at hc
  · cases hc
  rename_i hname
  split at hc
  case h_2 => cases hc
  rename_i c hb
  split at hc
  case h_2 => cases hc
  rename_i ic hic
  split at hc
  case h_2 => cases hc
  rename_i rs hrs
  obtain ⟨F1, F2⟩ := F
  simp only [IF.strip, Option.some.injEq, IF.mk.injEq] at hc
  obtain ⟨hc1, hc2⟩ := hc
  subst hc2
  subst hc1
  obtain ⟨h1, h2⟩ := rrs_ok hrs
  exact itr_ok hf hb hname (cj_ok hE _ c false hic) h1 h2 hn

end Qk

/-
  Small words for proofs in the executor's form.
-/
namespace Qk
open Go Go.RowKit

abbrev t (n : Nat) : Operand := .tmp n
abbrev ci (n : Int) : Operand := .const (.int .i64 n)

/-- A row of integers. -/
def ints (k : IntKind) (xs : List Int) : List AV := xs.map (.int k)
/-- A row of bytes. -/
def bys (l : List UInt8) : List AV := l.map fun b => .int .u8 b.toNat

theorem ints_length (k : IntKind) (xs : List Int) : (ints k xs).length = xs.length := by simp [ints]
theorem bys_length (l : List UInt8) : (bys l).length = l.length := by simp [bys]
theorem ints_get {k : IntKind} {xs : List Int} {i : Nat} (h : i < xs.length) : (ints k xs)[i]? = some (.int k (xs.getD i 0)) := by
  simp [ints, List.getElem?_eq_getElem h, List.getD]
theorem bys_get {l : List UInt8} {i : Nat} (h : i < l.length) : (bys l)[i]? = some (.int .u8 ((l.getD i 0).toNat : Int)) := by
  simp [bys, List.getElem?_eq_getElem h, List.getD]
theorem ints_set (k : IntKind) (xs : List Int) (i : Nat) (v : Int) : (ints k xs).set i (.int k v) = ints k (xs.set i v) := by
  simp [ints, List.map_set]
theorem ints_all (k : IntKind) (xs : List Int) : AllOne (ints k xs) := by
  intro c hc; obtain ⟨x, _, rfl⟩ := List.mem_map.1 hc; rfl
theorem bys_all (l : List UInt8) : AllOne (bys l) := by
  intro c hc; obtain ⟨x, _, rfl⟩ := List.mem_map.1 hc; rfl

/-- Plain cells mean the same whatever the names and the persistent memory. -/
theorem plain_at {cs : List AV} (h : ∀ c ∈ cs, PlainV c) {G : Gl} {Φ Φ' : Phi} {ρ ρ' : Nm} {C : Array Value} {i : Nat} (hr : RepAt G Φ cs ρ C i) : RepAt G Φ' cs ρ' C i := by
  refine RepAt.mk fun j c hj => ?_
  obtain ⟨x, hx, hrep⟩ := RepAt.get hr hj
  exact ⟨x, hx, h c (List.mem_of_getElem? hj) _ _ _ _ _ _ hrep⟩
theorem plain_int (k : IntKind) (n : Int) : PlainV (.int k n) := fun _ _ _ _ _ _ h => by simpa [Rep] using h
theorem plain_bool (b : Bool) : PlainV (.bool b) := fun _ _ _ _ _ _ h => by simpa [Rep] using h
theorem plain_str (l : List UInt8) : PlainV (.str l) := fun _ _ _ _ _ _ h => by simpa [Rep] using h
theorem plain_raw (v : Value) : PlainV (.raw v) := fun _ _ _ _ _ _ h => by simpa [Rep] using h
theorem plain_agg {cs : List AV} (h : ∀ c ∈ cs, PlainV c) : PlainV (.agg cs) := fun _ _ _ _ _ _ hr => by
  simp only [Rep] at hr ⊢
  obtain ⟨A, h1, h2, h3⟩ := hr
  exact ⟨A, h1, h2, plain_at h h3⟩
theorem plain_tup {cs : List AV} (h : ∀ c ∈ cs, PlainV c) : PlainV (.tup cs) := fun _ _ _ _ _ _ hr => by
  simp only [Rep] at hr ⊢
  obtain ⟨A, h1, h2, h3⟩ := hr
  exact ⟨A, h1, h2, plain_at h h3⟩
theorem plain_ints (k : IntKind) (xs : List Int) : ∀ c ∈ ints k xs, PlainV c := by
  intro c hc; obtain ⟨x, _, rfl⟩ := List.mem_map.1 hc; exact plain_int _ _
theorem plain_bys (l : List UInt8) : ∀ c ∈ bys l, PlainV c := by
  intro c hc; obtain ⟨x, _, rfl⟩ := List.mem_map.1 hc; exact plain_int _ _
theorem PlainV.nn {a : AV} (h : PlainV a) : NN a := fun _ _ _ _ _ hr => h _ _ _ _ _ _ hr
theorem nnl_plain {cs : List AV} (h : ∀ c ∈ cs, PlainV c) : NNL cs := fun _ _ _ _ _ _ hr => plain_at h hr
theorem nnl_ints (k : IntKind) (xs : List Int) : NNL (ints k xs) := nnl_plain (plain_ints k xs)
theorem nnl_bys (l : List UInt8) : NNL (bys l) := nnl_plain (plain_bys l)
theorem plainA_ints (k : IntKind) (xs : List Int) : PlainV (.agg (ints k xs)) := plain_agg (plain_ints k xs)

theorem ints_inj {k : IntKind} {xs ys : List Int} : ints k xs = ints k ys ↔ xs = ys := by
  constructor
  · intro h
    have : (ints k xs).map (fun c => match c with | .int _ n => n | _ => 0) = (ints k ys).map (fun c => match c with | .int _ n => n | _ => 0) := by rw [h]
    simpa [ints, Function.comp_def] using this
  · intro h; rw [h]
theorem arek_ints (k : IntKind) : ∀ (xs : List Int) (n : Nat), xs.length = n → AreK (repl n [some (some k)]) (ints k xs)
  | [], _, h => by simp at h; subst h; trivial
  | x :: xs, 0, h => by simp at h
  | x :: xs, n + 1, h => ⟨by cases k <;> rfl, arek_ints k xs n (by simpa using h)⟩
theorem eq_ints {k : IntKind} {xs ys : List Int} {n : Nat} (hx : xs.length = n) (hy : ys.length = n) : EqRel (repl n [some (some k)]) (ints k xs) (ints k ys) (decide (xs = ys)) :=
  ⟨arek_ints k xs n hx, arek_ints k ys n hy, by rw [ints_inj]; simp⟩

theorem cond_split {b : Bool} {A B : Prop} (h1 : b = true → A) (h2 : b = false → B) : cond b A B := by cases b; exact h2 rfl; exact h1 rfl

/-- The state that a loop's head, say, is known by: slots and objects, one by one. -/
def mk : List (Nat × AV) → Nat → Option AV
  | [], _ => none
  | (k, v) :: r, n => bif Nat.beq n k then some v else mk r n
def mkh : List (Nat × AO) → Nat → Option AO
  | [], _ => none
  | (k, v) :: r, n => bif Nat.beq n k then some v else mkh r n
def mks (env : List (Nat × AV)) (heap : List (Nat × AO)) (nx : Nat) : St := ⟨mk env, mkh heap, nx⟩

def HasE (S : St) : List (Nat × AV) → Prop
  | [] => True
  | (k, v) :: r => S.env k = some v ∧ HasE S r
def HasH (S : St) : List (Nat × AO) → Prop
  | [] => True
  | (k, v) :: r => S.heap k = some v ∧ HasH S r

theorem HasE.get {S : St} : ∀ {l : List (Nat × AV)}, HasE S l → ∀ k v, mk l k = some v → S.env k = some v
  | [], _, k, v, e => by cases e
  | (j, u) :: r, h, k, v, e => by
    simp only [mk] at e
    cases hb : Nat.beq k j with
    | true => rw [hb] at e; cases e; rw [Nat.eq_of_beq_eq_true hb]; exact h.1
    | false => rw [hb] at e; exact HasE.get h.2 k v e
theorem HasH.get {S : St} : ∀ {l : List (Nat × AO)}, HasH S l → ∀ k v, mkh l k = some v → S.heap k = some v
  | [], _, k, v, e => by cases e
  | (j, u) :: r, h, k, v, e => by
    simp only [mkh] at e
    cases hb : Nat.beq k j with
    | true => rw [hb] at e; cases e; rw [Nat.eq_of_beq_eq_true hb]; exact h.1
    | false => rw [hb] at e; exact HasH.get h.2 k v e

/-- Less is known; the names stay. -/
theorem sub_less {m : Nat} {S : St} {env : List (Nat × AV)} {heap : List (Nat × AO)} {nx : Nat} (h1 : HasE S env) (h2 : HasH S heap) (h3 : S.next ≤ nx) : SubSt m S (mks env heap nx) := by
  rintro G B X Φ0 w0 N D a w _ ⟨B1, X1, w1, ρ, Φ, a1, a2, a3, a4, a5, a6⟩
  refine ⟨B1, X1, w1, ρ, Φ, a1, a2, a3, a4, fun k v e => a5 k v (h1.get k v e), ?_⟩
  have := a6.sub (H' := mkh heap) (fun n o e => h2.get n o e)
  exact ⟨this.os, this.tape, this.output, this.size, this.base, this.frame, this.phi, fun n h e => Nat.lt_of_lt_of_le (this.dom n h e) h3, this.objs, this.disj⟩

def look {α : Type _} : List (Nat × α) → Nat → Option α
  | [], _ => none
  | (k, v) :: r, n => bif Nat.beq n k then some v else look r n

/-- What is known of the functions that are called, as lists. -/
def envX (fns : List (Nat × PC)) (tags : List (Nat × Nat)) (clos : List (Nat × PC)) (hfns hclos : List (Nat × HTran)) (its : List (Nat × ITran)) : Env := ⟨look fns, look tags, look clos, look hfns, look hclos, look its⟩
def envOf (fns : List (Nat × PC)) (tags : List (Nat × Nat)) (clos : List (Nat × PC)) : Env := envX fns tags clos [] [] []

def AllP {α : Type _} (p : Nat → α → Prop) : List (Nat × α) → Prop
  | [] => True
  | q :: r => p q.1 q.2 ∧ AllP p r

def AllK (G : Gl) : List (Nat × PC) → Prop
  | [] => True
  | p :: r => KeepsC G p.2 (fun _ => none) p.1 #[] ∧ AllK G r
def AllT (G : Gl) : List (Nat × Nat) → Prop
  | [] => True
  | p :: r => G.tag p.2 = p.1 ∧ AllT G r
def AllC (G : Gl) : List (Nat × PC) → Prop
  | [] => True
  | p :: r => KeepsC G p.2 (fun _ => none) (G.tag p.1) #[] ∧ AllC G r

theorem look_mem {α : Type _} : ∀ {l : List (Nat × α)} {n : Nat} {v : α}, look l n = some v → (n, v) ∈ l
  | [], _, _, h => by cases h
  | (k, u) :: r, n, v, h => by
    simp only [look] at h
    cases hb : Nat.beq n k with
    | true => rw [hb] at h; cases h; rw [Nat.eq_of_beq_eq_true hb]; simp
    | false => rw [hb] at h; exact List.mem_cons_of_mem _ (look_mem h)
theorem AllK.get {G : Gl} : ∀ {l : List (Nat × PC)}, AllK G l → ∀ p ∈ l, KeepsC G p.2 (fun _ => none) p.1 #[]
  | [], _, _, h => by cases h
  | q :: r, h, p, hp => by
    rcases List.mem_cons.1 hp with e | e
    · rw [e]; exact h.1
    · exact AllK.get h.2 p e
theorem AllT.get {G : Gl} : ∀ {l : List (Nat × Nat)}, AllT G l → ∀ p ∈ l, G.tag p.2 = p.1
  | [], _, _, h => by cases h
  | q :: r, h, p, hp => by
    rcases List.mem_cons.1 hp with e | e
    · rw [e]; exact h.1
    · exact AllT.get h.2 p e
theorem AllC.get {G : Gl} : ∀ {l : List (Nat × PC)}, AllC G l → ∀ p ∈ l, KeepsC G p.2 (fun _ => none) (G.tag p.1) #[]
  | [], _, _, h => by cases h
  | q :: r, h, p, hp => by
    rcases List.mem_cons.1 hp with e | e
    · rw [e]; exact h.1
    · exact AllC.get h.2 p e
theorem AllP.get {α : Type _} {p : Nat → α → Prop} : ∀ {l : List (Nat × α)}, AllP p l → ∀ q ∈ l, p q.1 q.2
  | [], _, _, h => by cases h
  | q :: r, h, x, hx => by
    rcases List.mem_cons.1 hx with e | e
    · rw [e]; exact h.1
    · exact AllP.get h.2 x e
theorem envX_ok {G : Gl} {fns : List (Nat × PC)} {tags : List (Nat × Nat)} {clos : List (Nat × PC)} {hfns hclos : List (Nat × HTran)} {its : List (Nat × ITran)} (h1 : AllK G fns) (h2 : AllT G tags) (h3 : AllC G clos)
    (h4 : AllP (fun f T => KeepsH G T f) hfns) (h5 : AllP (fun t T => KeepsH G T (G.tag t)) hclos) (h6 : AllP (fun t T => KeepsI G T (G.tag t)) its) : Env.Ok G (envX fns tags clos hfns hclos its) :=
  ⟨fun f C h => h1.get (f, C) (look_mem h), fun f t h => h2.get (f, t) (look_mem h), fun t C h => h3.get (t, C) (look_mem h),
   fun f T h => h4.get (f, T) (look_mem h), fun t T h => h5.get (t, T) (look_mem h), fun t T h => h6.get (t, T) (look_mem h)⟩
theorem envOf_ok {G : Gl} {fns : List (Nat × PC)} {tags : List (Nat × Nat)} {clos : List (Nat × PC)} (h1 : AllK G fns) (h2 : AllT G tags) (h3 : AllC G clos) : Env.Ok G (envOf fns tags clos) :=
  envX_ok h1 h2 h3 trivial trivial trivial

end Qk

/-
  A state that names things otherwise; a slice that nobody will write any more.
-/
namespace Qk
open Go Go.RowKit

mutual
/-- The first value, in the new names, is the second, in the old ones. -/
def RenV (τ : List Nat) : AV → AV → Prop
  | .ref n o, v => ∃ m, τ[n]? = some m ∧ v = .ref m o
  | .sl n o l, v => ∃ m, τ[n]? = some m ∧ v = .sl m o l
  | .vw n o l e, v => ∃ m, τ[n]? = some m ∧ v = .vw m o l e
  | .hnd n, v => ∃ m, τ[n]? = some m ∧ v = .hnd m
  | .agg cs, v => (v = .agg cs ∧ NNL cs) ∨ ∃ ds, v = .agg ds ∧ RenL τ cs ds
  | .tup cs, v => (v = .tup cs ∧ NNL cs) ∨ ∃ ds, v = .tup ds ∧ RenL τ cs ds
  | .clo t cs, v => (v = .clo t cs ∧ NNL cs) ∨ ∃ ds, v = .clo t ds ∧ RenL τ cs ds
  | .int k n, v => v = .int k n
  | .bool b, v => v = .bool b
  | .str l, v => v = .str l
  | .raw x, v => v = .raw x
  | .ilist e l cs, v => v = .ilist e l cs
  | .iref cs o, v => v = .iref cs o
  | .sem R, v => v = .sem R
def RenL (τ : List Nat) : List AV → List AV → Prop
  | [], ds => ds = []
  | c :: cs, ds => ∃ d es, ds = d :: es ∧ RenV τ c d ∧ RenL τ cs es
end

def renN (τ : List Nat) (ρ : Nm) : Nm := fun n => match τ[n]? with | some m => ρ m | none => none

theorem RenL.length {τ : List Nat} : ∀ {cs ds : List AV}, RenL τ cs ds → ds.length = cs.length
  | [], ds, h => by simp only [RenL] at h; subst h; rfl
  | c :: cs, ds, h => by
    simp only [RenL] at h
    obtain ⟨d, es, rfl, _, h2⟩ := h
    simp [RenL.length h2]

mutual
theorem RenV.rep {G : Gl} {Φ : Phi} {ρ : Nm} {τ : List Nat} : ∀ (v : AV) {v' : AV} {x : Value}, RenV τ v v' → Rep G Φ v' ρ x → Rep G Φ v (renN τ ρ) x
  | .ref n o, v', x, h, hr => by
    simp only [RenV] at h; obtain ⟨m, h1, rfl⟩ := h
    simp only [Rep] at hr ⊢; obtain ⟨hd, h2, h3⟩ := hr; exact ⟨hd, by simp [renN, h1, h2], h3⟩
  | .sl n o l, v', x, h, hr => by
    simp only [RenV] at h; obtain ⟨m, h1, rfl⟩ := h
    simp only [Rep] at hr ⊢; obtain ⟨hd, h2, h3⟩ := hr; exact ⟨hd, by simp [renN, h1, h2], h3⟩
  | .vw n o l e, v', x, h, hr => by
    simp only [RenV] at h; obtain ⟨m, h1, rfl⟩ := h
    simp only [Rep] at hr ⊢; obtain ⟨hd, a, c, h2, h3⟩ := hr; exact ⟨hd, a, c, by simp [renN, h1, h2], h3⟩
  | .hnd n, v', x, h, hr => by
    simp only [RenV] at h; obtain ⟨m, h1, rfl⟩ := h
    simp only [Rep] at hr ⊢; obtain ⟨hd, h2, h3⟩ := hr; exact ⟨hd, by simp [renN, h1, h2], h3⟩
  | .agg cs, v', x, h, hr => by
    simp only [RenV] at h
    rcases h with ⟨rfl, h1⟩ | ⟨ds, rfl, h1⟩
    · simp only [Rep] at hr ⊢; obtain ⟨A, h2, h3, h4⟩ := hr; exact ⟨A, h2, h3, h1 _ _ _ _ _ _ h4⟩
    · simp only [Rep] at hr ⊢; obtain ⟨A, h2, h3, h4⟩ := hr; exact ⟨A, h2, by rw [h3, h1.length], RenL.rep cs h1 h4⟩
  | .tup cs, v', x, h, hr => by
    simp only [RenV] at h
    rcases h with ⟨rfl, h1⟩ | ⟨ds, rfl, h1⟩
    · simp only [Rep] at hr ⊢; obtain ⟨A, h2, h3, h4⟩ := hr; exact ⟨A, h2, h3, h1 _ _ _ _ _ _ h4⟩
    · simp only [Rep] at hr ⊢; obtain ⟨A, h2, h3, h4⟩ := hr; exact ⟨A, h2, by rw [h3, h1.length], RenL.rep cs h1 h4⟩
  | .clo t cs, v', x, h, hr => by
    simp only [RenV] at h
    rcases h with ⟨rfl, h1⟩ | ⟨ds, rfl, h1⟩
    · simp only [Rep] at hr ⊢; obtain ⟨A, h2, h3, h4⟩ := hr; exact ⟨A, h2, h3, h1 _ _ _ _ _ _ h4⟩
    · simp only [Rep] at hr ⊢; obtain ⟨A, h2, h3, h4⟩ := hr; exact ⟨A, h2, by rw [h3, h1.length], RenL.rep cs h1 h4⟩
  | .int k n, v', x, h, hr => by simp only [RenV] at h; subst h; simpa [Rep] using hr
  | .bool b, v', x, h, hr => by simp only [RenV] at h; subst h; simpa [Rep] using hr
  | .str l, v', x, h, hr => by simp only [RenV] at h; subst h; simpa [Rep] using hr
  | .raw y, v', x, h, hr => by simp only [RenV] at h; subst h; simpa [Rep] using hr
  | .ilist e l cs, v', x, h, hr => by simp only [RenV] at h; subst h; simpa [Rep] using hr
  | .iref cs o, v', x, h, hr => by simp only [RenV] at h; subst h; simpa [Rep] using hr
  | .sem R, v', x, h, hr => by simp only [RenV] at h; subst h; simpa [Rep] using hr
theorem RenL.rep {G : Gl} {Φ : Phi} {ρ : Nm} {τ : List Nat} : ∀ (cs : List AV) {ds : List AV} {C : Array Value} {i : Nat}, RenL τ cs ds → RepAt G Φ ds ρ C i → RepAt G Φ cs (renN τ ρ) C i
  | [], ds, C, i, h, hr => by simp [RepAt]
  | c :: cs, ds, C, i, h, hr => by
    simp only [RenL] at h
    obtain ⟨d, es, rfl, h1, h2⟩ := h
    simp only [RepAt] at hr ⊢
    obtain ⟨⟨x, h3, h4⟩, h5⟩ := hr
    exact ⟨⟨x, h3, RenV.rep c h1 h4⟩, RenL.rep cs h2 h5⟩
end

def RenC (τ : List Nat) (cs ds : List AV) : Prop := (ds = cs ∧ NNL cs) ∨ RenL τ cs ds
theorem RenC.len {τ : List Nat} {cs ds : List AV} (h : RenC τ cs ds) : ds.length = cs.length := by
  rcases h with ⟨rfl, _⟩ | h
  · rfl
  · exact h.length
theorem RenC.rep {G : Gl} {Φ : Phi} {ρ : Nm} {τ : List Nat} {cs ds : List AV} {C : Array Value} {i : Nat} (h : RenC τ cs ds) (hr : RepAt G Φ ds ρ C i) : RepAt G Φ cs (renN τ ρ) C i := by
  rcases h with ⟨rfl, h1⟩ | h
  · exact h1 _ _ _ _ _ _ hr
  · exact RenL.rep cs h hr

def RenO (τ : List Nat) : AO → AO → Prop
  | .cells cs, o => ∃ ds, o = .cells ds ∧ RenC τ cs ds
  | .lst e cs, o => ∃ ds, o = .lst e ds ∧ RenC τ cs ds
  | .opq _, _ => False

def HasR (τ : List Nat) (S : St) : List (Nat × AV) → Prop
  | [] => True
  | (k, v) :: r => (∃ v', S.env k = some v' ∧ RenV τ v v') ∧ HasR τ S r
def HasO (τ : List Nat) (S : St) : List (Nat × AO) → Prop
  | [] => True
  | (k, o) :: r => (∃ m o', τ[k]? = some m ∧ S.heap m = some o' ∧ RenO τ o o') ∧ HasO τ S r

theorem HasR.get {τ : List Nat} {S : St} : ∀ {l : List (Nat × AV)}, HasR τ S l → ∀ k v, mk l k = some v → ∃ v', S.env k = some v' ∧ RenV τ v v'
  | [], _, k, v, e => by cases e
  | (j, u) :: r, h, k, v, e => by
    simp only [mk] at e
    cases hb : Nat.beq k j with
    | true => rw [hb] at e; cases e; rw [Nat.eq_of_beq_eq_true hb]; exact h.1
    | false => rw [hb] at e; exact HasR.get h.2 k v e
theorem HasO.get {τ : List Nat} {S : St} : ∀ {l : List (Nat × AO)}, HasO τ S l → ∀ k o, mkh l k = some o → ∃ m o', τ[k]? = some m ∧ S.heap m = some o' ∧ RenO τ o o'
  | [], _, k, v, e => by cases e
  | (j, u) :: r, h, k, v, e => by
    simp only [mkh] at e
    cases hb : Nat.beq k j with
    | true => rw [hb] at e; cases e; rw [Nat.eq_of_beq_eq_true hb]; exact h.1
    | false => rw [hb] at e; exact HasO.get h.2 k v e

/-- The state under new names: the i-th is the old name τ[i]. -/
theorem sub_renF {m : Nat} {S : St} (τ : List Nat) {env : List (Nat × AV)} {heap : List (Nat × AO)} {nx : Nat} (hfix : ∀ i, i < m → τ[i]? = some i) (hn : τ.length = nx) (hnd : τ.Nodup) (h1 : HasR τ S env) (h2 : HasO τ S heap) : SubSt m S (mks env heap nx) := by
  rintro G B X Φ0 w0 N D a w hm ⟨B1, X1, w1, ρ, Φ, a1, a2, a3, a4, a5, a6⟩
  have hnm : NmLe D.nm (renN τ ρ) := fun n x e => by
    have h3 := hfix n (Nat.lt_of_lt_of_le (D.lt n x e) hm)
    simp [renN, h3, a2.nm n x e]
  refine ⟨B1, X1, w1, renN τ ρ, Φ, a1, ⟨a2.ext, a2.bs, hnm, a2.marks⟩, a3, a4, ?_, ?_⟩
  · intro k v e
    obtain ⟨v', h3, h4⟩ := h1.get k v e
    obtain ⟨x, h5, h6⟩ := a5 k v' h3
    exact ⟨x, h5, RenV.rep v h4 h6⟩
  · refine ⟨a6.os, a6.tape, a6.output, a6.size, a6.base, a6.frame, a6.phi, ?_, ?_, ?_⟩
    · intro n h e
      simp only [renN] at e
      split at e
      · rename_i m hm
        have := (List.getElem?_eq_some_iff.1 hm).1
        show n < nx
        omega
      · cases e
    · intro n o e
      obtain ⟨m, o', h3, h4, h5⟩ := h2.get n o e
      obtain ⟨hd, h6, h7, h8⟩ := a6.objs m o' h4
      cases o with
      | cells cs =>
        obtain ⟨ds, rfl, h9⟩ := h5
        refine ⟨hd, by simp [renN, h3, h6], ?_, h8⟩
        obtain ⟨q1, C, ty, fr, q2, q3, q4, q5⟩ := h7
        exact ⟨q1, C, ty, fr, q2, by rw [q3, h9.len], q4, h9.rep q5⟩
      | lst ez cs =>
        obtain ⟨ds, rfl, h9⟩ := h5
        refine ⟨hd, by simp [renN, h3, h6], ?_, h8⟩
        obtain ⟨q0, q1⟩ := h7
        refine ⟨q0, ?_⟩
        rcases q1 with ⟨q1, q2, q3⟩ | ⟨q1, q2, C, ty, fr, q3, q4, q5, q6, q7⟩
        · refine .inl ⟨q1, ?_, q3⟩
          have := h9.len
          rw [q2] at this
          exact List.length_eq_zero_iff.1 this.symm
        · exact .inr ⟨q1, q2, C, ty, fr, q3, q4, by rw [← h9.len]; exact q5, q6, h9.rep q7⟩
      | opq R => exact h5.elim
    · intro n m h g hnm e1 e2 e3 e4
      have live : ∀ k, mkh heap k ≠ none → ∃ j o', τ[k]? = some j ∧ S.heap j = some o' := by
        intro k hk
        cases e : mkh heap k with
        | none => exact absurd e hk
        | some o =>
          obtain ⟨j, o', q1, q2, _⟩ := h2.get k o e
          exact ⟨j, o', q1, q2⟩
      obtain ⟨j1, o1, p1, p2⟩ := live n e1
      obtain ⟨j2, o2, r1, r2⟩ := live m e2
      have hj : j1 ≠ j2 := by
        intro e
        subst e
        obtain ⟨b1, b2⟩ := List.getElem?_eq_some_iff.1 p1
        obtain ⟨c1, c2⟩ := List.getElem?_eq_some_iff.1 r1
        rcases Nat.lt_or_gt_of_ne hnm with hlt | hlt
        · exact List.pairwise_iff_getElem.1 hnd n m b1 c1 hlt (b2.trans c2.symm)
        · exact List.pairwise_iff_getElem.1 hnd m n c1 b1 hlt (c2.trans b2.symm)
      refine a6.disj j1 j2 h g hj (by rw [p2]; simp) (by rw [r2]; simp) ?_ ?_
      · simpa [renN, p1] using e3
      · simpa [renN, r1] using e4

theorem sub_ren {S : St} (τ : List Nat) {env : List (Nat × AV)} {heap : List (Nat × AO)} {nx : Nat} (hn : τ.length = nx) (hnd : τ.Nodup) (h1 : HasR τ S env) (h2 : HasO τ S heap) : SubSt 0 S (mks env heap nx) :=
  sub_renF τ (fun _ h => absurd h (Nat.not_lt_zero _)) hn hnd h1 h2

theorem repl_ints (n : Nat) (k : IntKind) (v : Int) : repl n [AV.int k v] = ints k (List.replicate n v) := by
  induction n with
  | zero => rfl
  | succ n ih => simp only [repl, ih]; rfl
theorem eI {k : IntKind} {a b : Int} (h : a = b) : AV.int k a = AV.int k b := by rw [h]
theorem eR {τ : List Nat} {k : IntKind} {xs ys : List Int} (h : ys = xs) : RenC τ (ints k xs) (ints k ys) := .inl ⟨by rw [h], nnl_ints _ _⟩
theorem eR' {τ : List Nat} {k : IntKind} {xs : List Int} {cs : List AV} (h : cs = ints k xs) : RenC τ (ints k xs) cs := .inl ⟨h, nnl_ints _ _⟩
theorem eB {τ : List Nat} {xs : List UInt8} {cs : List AV} (h : cs = bys xs) : RenC τ (bys xs) cs := .inl ⟨h, nnl_bys _⟩

theorem tda {α : Type} {cs : List α} {n : Nat} (h : cs.length = n) : cs = (cs.drop 0).take n := by simp [← h]
theorem lay_all {cs vs : List AV} (h : vs.length = cs.length) : vs = lay cs 0 vs := by simp [lay, h]

end Qk

/-
  Calls of functions without a body, which the model runs itself: searching for a byte, comparing, counting.
-/
namespace Qk
open Go Go.RowKit

theorem keeps_extern {G : Gl} {C : PC} {f : FuncId} {fn : Func} {e : Array Value → Sem Value} (hf : G.P.funcs[f]? = some fn) (hname : (fn.name == "runtime.NumGoroutine") = false)
    (hb : fn.body.isNone = true) (hn : Extern.findNext fn = none) (he : Extern.find fn = some e)
    (h : ∀ (w : World) (Φ : Phi) (vs : Array Value) x, (∀ b o, Φ b = some o → w.heap[b]? = some o) → vs.size = (C.args x).length → RepAt G Φ (C.args x) (fun _ => none) vs 0 → C.ok x →
      ∃ v, (e vs).run G.P w = .ok v w ∧ Rep G Φ (C.res x) (fun _ => none) v) : KeepsC G C (fun _ => none) f #[] := by
  rintro us w Φ vs _ hphi hs hr x rfl hok
  obtain ⟨v, h1, h2⟩ := h w Φ vs x hphi hs hr hok
  rw [Array.append_empty]
  refine .inr ⟨v, w, ?_, _, v, Φ, rfl, rfl, PhiLe.refl _, hphi, fun b o e => .inl e, h2, Below.refl _ _⟩
  rw [run_callFunc_extern hf hname hb hn he, h1]
  rfl

/-- A function whose calls are known, and whose result is plain. -/
theorem keeps_calls {G : Gl} {C : PC} {f : FuncId} {fn : Func} (hf : G.P.funcs[f]? = some fn) (hb : fn.body.isNone = false) (hname : (fn.name == "runtime.NumGoroutine") = false)
    (h : ∀ (w : World) (Φ : Phi) (vs : Array Value) x, (∀ b o, Φ b = some o → w.heap[b]? = some o) → vs.size = (C.args x).length → RepAt G Φ (C.args x) (fun _ => none) vs 0 → C.ok x →
      ∃ v, Rep G Φ (C.res x) (fun _ => none) v ∧ Calls G.P f vs w (fun e w' => e = .returned v ∧ Below w.heap.size w w')) : KeepsC G C (fun _ => none) f #[] := by
  rintro us w Φ vs _ hphi hs hr x rfl hok
  obtain ⟨v, h1, h2⟩ := h w Φ vs x hphi hs hr hok
  rw [Array.append_empty]
  refine .inl ⟨⟨fn, hf, hb, hname⟩, Calls.mono h2 ?_⟩
  rintro e w' ⟨rfl, hw⟩
  refine ⟨_, v, Φ, rfl, rfl, PhiLe.refl _, ?_, fun b o e => .inl e, h1, hw⟩
  intro b o e
  have := hphi b o e
  rw [hw.block b (Array.getElem?_eq_some_iff.1 this).1]
  exact this

/-- Two arguments. -/
theorem two_args {G : Gl} {Φ : Phi} {a b : AV} {vs : Array Value} (hs : vs.size = 2) (hr : RepAt G Φ [a, b] (fun _ => none) vs 0) : ∃ x y, vs = #[x, y] ∧ Rep G Φ a (fun _ => none) x ∧ Rep G Φ b (fun _ => none) y := by
  obtain ⟨l⟩ := vs
  match l, hs with
  | [x, y], _ =>
    simp only [RepAt] at hr
    obtain ⟨⟨x', h1, h2⟩, ⟨y', h3, h4⟩, _⟩ := hr
    simp at h1 h3
    subst h1
    subst h3
    exact ⟨x, y, rfl, h2, h4⟩

theorem bytes_back (l : List UInt8) : Lib.bytesOf (l.map fun b => (b.toNat : Int)) = l := by
  simp [Lib.bytesOf, Function.comp_def]

/-- The bytes of a slice that is only read. -/
theorem run_bytesOf {G : Gl} {Φ : Phi} {ρ : Nm} {w : World} {l : List UInt8} {v : Value} (hphi : ∀ b o, Φ b = some o → w.heap[b]? = some o) (h : Rep G Φ (.ilist 1 l.length (bys l)) ρ v) :
    (Extern.Bytes.bytesOf v).run G.P w = .ok ⟨l.toArray⟩ w := by
  simp only [Rep] at h
  obtain ⟨_, a, cap, hcap, rfl, h⟩ := h
  rcases h with h | ⟨b, off, C, ty, fr, rfl, h2, h3⟩
  · have : l = [] := by
      have := congrArg List.length h
      rw [bys_length] at this
      exact List.length_eq_zero_iff.1 this
    subst this
    cases a with
    | none => rfl
    | some a => rfl
  · have hx := Lib.run_loadBytesX (P := G.P) w (l.map fun b => (b.toNat : Int)) ⟨b, off, none⟩ .empty (fun j x hj => by
      rw [List.getElem?_map] at hj
      cases hlj : l[j]? with
      | none => rw [hlj] at hj; cases hj
      | some c =>
        rw [hlj] at hj
        cases hj
        have : (bys l)[j]? = some (.int .u8 (c.toNat : Int)) := by simp [bys, hlj]
        obtain ⟨y, hy, hr⟩ := RepAt.get h3 this
        simp only [Rep] at hr
        subst hr
        have e : (⟨b, off, none⟩ : Addr).add j = ⟨b, off + j, none⟩ := by unfold Addr.add; split <;> simp_all
        rw [e, cell_of (hphi _ _ h2)]
        exact hy)
    rw [List.length_map, bytes_back] at hx
    have he : (⟨ByteArray.empty.data ++ l.toArray⟩ : ByteArray) = ⟨l.toArray⟩ := by
      apply ByteArray.ext
      show (#[] : Array UInt8) ++ l.toArray = l.toArray
      simp
    rw [he] at hx
    exact hx

def indexB (l : List UInt8) (c : UInt8) : Int := if c ∈ l then (l.idxOf c : Int) else -1
theorem indexByte_eq : ∀ (l : List UInt8) (c : UInt8), Lib.indexByte l c = indexB l c
  | [], c => rfl
  | b :: l, c => by
    have ih := indexByte_eq l c
    unfold Lib.indexByte
    rw [ih]
    unfold indexB
    by_cases hbc : b = c
    · subst hbc; simp
    · have h1 : (b == c) = false := by simpa using hbc
      have h2 : ¬ c = b := fun h => hbc h.symm
      rw [h1]
      by_cases hm : c ∈ l
      · have : ¬ ((l.idxOf c : Int) == -1) = true := by simp
        simp [hm, this, List.idxOf_cons, h1]
      · simp [hm, h2]

/-- The order of strings. -/
def cmpS : List UInt8 → List UInt8 → Int := Lib.compareBytes

def C_internal_bytealg_IndexByteString : PC := ⟨List UInt8 × UInt8, fun p => [.str p.1, .int .u8 p.2.toNat], fun _ => True, fun p => .int .i64 (indexB p.1 p.2)⟩
def C_internal_bytealg_CountString : PC := ⟨List UInt8 × UInt8, fun p => [.str p.1, .int .u8 p.2.toNat], fun _ => True, fun p => .int .i64 (p.1.count p.2)⟩
def C_internal_bytealg_Compare : PC := ⟨List UInt8 × List UInt8, fun p => [.ilist 1 p.1.length (bys p.1), .ilist 1 p.2.length (bys p.2)], fun _ => True, fun p => .int .i64 (cmpS p.1 p.2)⟩

section
variable {G : Gl} {f : FuncId} {fn : Func} (hf : G.P.funcs[f]? = some fn) (hname : (fn.name == "runtime.NumGoroutine") = false) (hb : fn.body.isNone = true) (hn : Extern.findNext fn = none)
include hf hname hb hn

theorem k_IndexByteString (he : Extern.find fn = some Extern.BytealgIndexByte.indexByte) : KeepsC G C_internal_bytealg_IndexByteString (fun _ => none) f #[] := by
  refine keeps_extern hf hname hb hn he ?_
  rintro w Φ vs ⟨l, c⟩ hphi hs hr _
  obtain ⟨x, y, rfl, h1, h2⟩ := two_args hs hr
  simp only [Rep] at h1 h2
  subst h1
  subst h2
  refine ⟨_, Lib.run_indexByteString _ _ w, ?_⟩
  simp only [Rep, C_internal_bytealg_IndexByteString]
  rw [indexByte_eq]
  simp

theorem k_CountString (he : Extern.find fn = some Extern.BytealgCount.count) : KeepsC G C_internal_bytealg_CountString (fun _ => none) f #[] := by
  refine keeps_extern hf hname hb hn he ?_
  rintro w Φ vs ⟨l, c⟩ hphi hs hr _
  obtain ⟨x, y, rfl, h1, h2⟩ := two_args hs hr
  simp only [Rep] at h1 h2
  subst h1
  subst h2
  refine ⟨_, Lib.run_countString _ _ w, ?_⟩
  simp [Rep, C_internal_bytealg_CountString, Lib.countByte]

theorem k_Compare (he : Extern.find fn = some Extern.BytealgCompare.compare) : KeepsC G C_internal_bytealg_Compare (fun _ => none) f #[] := by
  refine keeps_extern hf hname hb hn he ?_
  rintro w Φ vs ⟨a, b⟩ hphi hs hr _
  obtain ⟨x, y, rfl, h1, h2⟩ := two_args hs hr
  refine ⟨.int .i64 (cmpS a b), ?_, by simp only [Rep, C_internal_bytealg_Compare]⟩
  show Sem.run G.P (do pure (goInt (Extern.BytealgCompare.cmp (← Extern.Bytes.bytesOf x) (← Extern.Bytes.bytesOf y)))) w = _
  simp only [Sem.run_bind, run_bytesOf hphi h1, run_bytesOf hphi h2, Result.andThen, Sem.run_pure]
  rw [Lib.cmp_eq]
  rfl
end

end Qk

/-
  From the statements' data to the executor's values: reading arguments; the last steps of a law.
-/
namespace Qk
open Go Go.RowKit Go.WideShapes Go.ChangeShapes Go.ChangeAt

/-- The shapes of the arguments. -/
inductive Ty where
  | unit
  | bool
  | int (k : IntKind)
  | str
  | arr (n : Nat) (t : Ty)
  | sl (t : Ty)
  | pair (a b : Ty)

def Ty.sz : Ty → Nat
  | .unit => 0
  | .bool => 1
  | .int _ => 1
  | .str => 1
  | .arr n t => n * t.sz
  | .sl _ => 1
  | .pair a b => a.sz + b.sz

/-- Cells of a shape. -/
def Fits : Ty → List AV → Prop
  | .unit, cs => cs = []
  | .bool, cs => ∃ b, cs = [.bool b]
  | .int k, cs => ∃ n, cs = [.int k n] ∧ (Lit.int k n).wf = true
  | .str, cs => ∃ l, cs = [.str l] ∧ l.length ≤ maxLen
  | .arr n t, cs => ∃ xs : List (List AV), xs.length = n ∧ cs = xs.flatten ∧ ∀ x ∈ xs, Fits t x
  | .sl t, cs => ∃ xs : List (List AV), cs = [.ilist t.sz xs.length xs.flatten] ∧ (∀ x ∈ xs, Fits t x) ∧ xs.length ≤ maxLen
  | .pair a b, cs => ∃ x y, cs = x ++ y ∧ Fits a x ∧ Fits b y

/-- A type of the program has the shape; the fields of a struct from an offset on have it. -/
def mT (P : Program) : Ty → (TypeId → Bool) × (List Field → Nat → Nat → Bool)
  | .unit => (fun _ => false, fun l off tot => match l with | [] => off == tot | _ => false)
  | .bool => (fun t => match P.underlying t with | some .bool => true | _ => false, fun _ _ _ => false)
  | .int k => (fun t => match P.underlying t with | some (.int j) => kindEq j k | _ => false, fun _ _ _ => false)
  | .str => (fun t => match P.underlying t with | some .string => true | _ => false, fun _ _ _ => false)
  | .arr n a => (fun t => match P.underlying t with | some (.array m e) => m == n && P.cellsOf e == a.sz && P.cellsOf t == n * a.sz && (mT P a).1 e | _ => false, fun _ _ _ => false)
  | .sl a => (fun t => match P.underlying t with | some (.slice e) => P.cellsOf e == a.sz && Nat.blt 0 a.sz && (mT P a).1 e | _ => false, fun _ _ _ => false)
  | .pair a b =>
    (fun t => match P.underlying t with
      | some (.struct fs) => (match fs.toList with | f :: r => f.offset == 0 && P.cellsOf f.type == a.sz && (mT P a).1 f.type && (mT P b).2 r a.sz (P.cellsOf t) | [] => false)
      | _ => false,
     fun l off tot => match l with | f :: r => f.offset == off && P.cellsOf f.type == a.sz && (mT P a).1 f.type && (mT P b).2 r (off + a.sz) tot | [] => false)

theorem choose_list {α : Type} : ∀ {n : Nat} {Q : Nat → α → Prop}, (∀ i, i < n → ∃ a, Q i a) → ∃ l : List α, l.length = n ∧ ∀ i a, l[i]? = some a → Q i a
  | 0, _, _ => ⟨[], rfl, fun i a h => by simp at h⟩
  | n + 1, Q, h => by
    obtain ⟨l, h1, h2⟩ := choose_list (n := n) (Q := Q) (fun i hi => h i (by omega))
    obtain ⟨a, ha⟩ := h n (by omega)
    refine ⟨l ++ [a], by simp [h1], fun i b hb => ?_⟩
    rw [List.getElem?_append] at hb
    split at hb
    · exact h2 i b hb
    · have hlt := (List.getElem?_eq_some_iff.1 hb).1
      simp at hlt
      have : i = n := by omega
      subst this
      simp [h1] at hb
      subst hb
      exact ha

theorem RepAt.app {G : Gl} {Φ : Phi} {ρ : Nm} {C : Array Value} {a b : List AV} {i : Nat} (h1 : RepAt G Φ a ρ C i) (h2 : RepAt G Φ b ρ C (i + a.length)) : RepAt G Φ (a ++ b) ρ C i := by
  refine RepAt.mk fun j c hj => ?_
  rw [List.getElem?_append] at hj
  split at hj
  · exact RepAt.get h1 hj
  · rename_i hge
    obtain ⟨x, hx, hr⟩ := RepAt.get h2 hj
    exact ⟨x, by rw [← hx]; congr 1; omega, hr⟩
theorem repAt_flatten {G : Gl} {Φ : Phi} {ρ : Nm} {C : Array Value} (c : Nat) : ∀ (xs : List (List AV)) (i : Nat), (∀ x ∈ xs, x.length = c) → (∀ j x, xs[j]? = some x → RepAt G Φ x ρ C (i + j * c)) → RepAt G Φ xs.flatten ρ C i
  | [], i, _, _ => by simp [RepAt]
  | x :: xs, i, hl, h => by
    rw [List.flatten_cons]
    have h0 := h 0 x rfl
    rw [Nat.zero_mul, Nat.add_zero] at h0
    refine RepAt.app h0 ?_
    rw [hl x (by simp)]
    refine repAt_flatten c xs (i + c) (fun y hy => hl y (by simp [hy])) (fun j y hy => ?_)
    have := h (j + 1) y (by simpa using hy)
    rw [Nat.succ_mul] at this
    have e : i + c + j * c = i + (j * c + c) := by omega
    rw [e]; exact this
theorem flatten_len {c : Nat} : ∀ {xs : List (List AV)}, (∀ x ∈ xs, x.length = c) → xs.flatten.length = xs.length * c
  | [], _ => by simp
  | x :: xs, h => by
    rw [List.flatten_cons, List.length_append, h x (by simp), flatten_len (fun y hy => h y (by simp [hy])), List.length_cons, Nat.succ_mul]; omega
theorem RepAt.piece {G : Gl} {Φ : Phi} {ρ : Nm} {cs : List Value} {av : List AV} {o c : Nat} (h : RepAt G Φ av ρ ((cs.drop o).take c).toArray 0) : RepAt G Φ av ρ cs.toArray o := by
  refine RepAt.mk fun j a hj => ?_
  obtain ⟨x, hx, hr⟩ := RepAt.get h hj
  refine ⟨x, ?_, hr⟩
  simp only [Nat.zero_add, List.getElem?_toArray] at hx ⊢
  rw [List.getElem?_take] at hx
  split at hx
  · rw [List.getElem?_drop] at hx; exact hx
  · cases hx

theorem addr_add2 {a : Addr} (h : a.spot = none) (m n : Nat) : (a.add m).add n = ⟨a.block, a.off + (m + n), none⟩ := by
  obtain ⟨b, o, s⟩ := a
  simp only at h
  subst h
  unfold Addr.add
  by_cases hm : m = 0 <;> by_cases hn : n = 0 <;> simp [hm, hn] <;> omega

section
variable {H : Type} {enc : TypeId × Value → H} {P : Program} {w : World} (G : Gl)

theorem cell_spot {a : Addr} {v : Value} (h : w.cell? a = some v) : a.spot = none ∧ ∃ C ty fr, w.heap[a.block]? = some (.cells C ty fr) := by
  unfold World.cell? at h
  split at h
  · rename_i C ty fr hh
    split at h
    · cases h
    · rename_i hs
      exact ⟨by simpa using hs, C, ty, fr, hh⟩
  · cases h

/-- What an argument reads as has the shape of its type. -/
theorem read_ok : ∀ (ty : Ty),
    (∀ (fuel : Nat) (t : TypeId) (cs : List Value) (x : DataW H × List MemPlace), (mT P ty).1 t = true → DataW.trod enc P w 0 (fun _ => true) true fuel t cs = some x →
      ∃ av, Fits ty av ∧ av.length = cs.length ∧ av.length = ty.sz ∧ RepAt G (fun b => w.heap[b]?) av (fun _ => none) cs.toArray 0) ∧
    (∀ (n : Nat) (l : List Field) (off tot : Nat) (cs : List Value), (mT P ty).2 l off tot = true → tot = cs.length →
      (∀ f ∈ l, ∃ y, DataW.trod enc P w 0 (fun _ => true) true n f.type ((cs.drop f.offset).take (P.cellsOf f.type)) = some (y : DataW H × List MemPlace)) →
      ∃ av, Fits ty av ∧ off + av.length = cs.length ∧ av.length = ty.sz ∧ RepAt G (fun b => w.heap[b]?) av (fun _ => none) cs.toArray off)
  | .unit => by
    refine ⟨fun fuel t cs x h => absurd h Bool.false_ne_true, fun n l off tot cs h ht _ => ?_⟩
    simp only [mT] at h
    split at h
    · refine ⟨[], rfl, ?_, rfl, by simp [RepAt]⟩
      have : off = tot := by simpa using h
      simp; omega
    · cases h
  | .bool => by
    refine ⟨fun fuel t cs x h hd => ?_, fun n l off tot cs h => absurd h Bool.false_ne_true⟩
    simp only [mT] at h
    split at h
    case h_2 => cases h
    rename_i ht
    obtain ⟨b, rfl, _⟩ := DataW.trod_bool ht hd
    exact ⟨[.bool b], ⟨b, rfl⟩, rfl, rfl, ⟨⟨_, rfl, by simp only [Rep]; rfl⟩, trivial⟩⟩
  | .int k => by
    refine ⟨fun fuel t cs x h hd => ?_, fun n l off tot cs h => absurd h Bool.false_ne_true⟩
    simp only [mT] at h
    split at h
    case h_2 => cases h
    rename_i j ht
    have hk : j = k := by cases j <;> cases k <;> first | rfl | cases h
    subst hk
    obtain ⟨n, rfl, _, hw⟩ := DataW.trod_int ht hd
    exact ⟨[.int j n], ⟨n, rfl, hw⟩, rfl, rfl, ⟨⟨_, rfl, by simp only [Rep]; rfl⟩, trivial⟩⟩
  | .str => by
    refine ⟨fun fuel t cs x h hd => ?_, fun n l off tot cs h => absurd h Bool.false_ne_true⟩
    simp only [mT] at h
    split at h
    case h_2 => cases h
    rename_i ht
    obtain ⟨s, rfl, _, hs⟩ := DataW.trod_string ht hd
    refine ⟨[.str s.data.toList], ⟨s.data.toList, rfl, ?_⟩, rfl, rfl, ⟨⟨_, rfl, by simp only [Rep]; rfl⟩, trivial⟩⟩
    have : s.data.toList.length = s.size := Array.length_toList
    rw [this]; exact hs
  | .arr n a => by
    refine ⟨fun fuel t cs x h hd => ?_, fun n l off tot cs h => absurd h Bool.false_ne_true⟩
    simp only [mT] at h
    split at h
    case h_2 => cases h
    rename_i m e ht
    simp only [Bool.and_eq_true, beq_iff_eq] at h
    obtain ⟨⟨⟨rfl, hc⟩, hct⟩, hm⟩ := h
    obtain ⟨xs, fu, rfl, _, hlen, hxs, hget⟩ := DataW.trod_array ht hd
    have hpick : ∀ i, i < m → ∃ av, Fits a av ∧ av.length = a.sz ∧ RepAt G (fun b => w.heap[b]?) av (fun _ => none) cs.toArray (i * a.sz) := by
      intro i hi
      have hy : ∃ y, xs[i]? = some y := ⟨_, List.getElem?_eq_getElem (by omega)⟩
      obtain ⟨y, hy⟩ := hy
      have hd' := (hget i hi).trans hy
      obtain ⟨av, h1, h2, h3, h4⟩ := (read_ok a).1 fu e _ y hm hd'
      rw [hc] at h4
      exact ⟨av, h1, h3, RepAt.piece h4⟩
    obtain ⟨avs, hl, hav⟩ := choose_list hpick
    have hall : ∀ x ∈ avs, x.length = a.sz := fun x hx => by
      obtain ⟨i, hi⟩ := List.getElem?_of_mem hx
      exact (hav i x hi).2.1
    refine ⟨avs.flatten, ⟨avs, hl, rfl, fun x hx => ?_⟩, ?_, ?_, ?_⟩
    · obtain ⟨i, hi⟩ := List.getElem?_of_mem hx
      exact (hav i x hi).1
    · rw [flatten_len hall, hl, hlen, hct]
    · rw [flatten_len hall, hl]; rfl
    · refine repAt_flatten a.sz avs 0 hall (fun j x hj => ?_)
      rw [Nat.zero_add]
      exact (hav j x hj).2.2
  | .sl a => by
    refine ⟨fun fuel t cs x h hd => ?_, fun n l off tot cs h => absurd h Bool.false_ne_true⟩
    simp only [mT] at h
    split at h
    case h_2 => cases h
    rename_i e ht
    simp only [Bool.and_eq_true, beq_iff_eq] at h
    obtain ⟨⟨hc, hpos⟩, hm⟩ := h
    have hpos : 0 < a.sz := by simpa using hpos
    rcases DataW.trod_slice ht hd with ⟨rfl, _⟩ | ⟨ad, len, cap, elems, rest, fu, rfl, rfl, _, _, hcap, hmax, hel, hget, _⟩
    · refine ⟨[.ilist a.sz 0 []], ⟨[], rfl, (fun x hx => by cases hx), Nat.zero_le _⟩, rfl, rfl, ?_⟩
      simp [RepAt, Rep]
    · have hpick : ∀ i, i < len → ∃ av, Fits a av ∧ av.length = a.sz ∧ ∃ rows : List Value, rows.length = a.sz ∧ (∀ j v, rows[j]? = some v → w.cell? ((ad.add (i * a.sz)).add j) = some v) ∧ RepAt G (fun b => w.heap[b]?) av (fun _ => none) rows.toArray 0 := by
        intro i hi
        have hy : ∃ y, elems[i]? = some y := ⟨_, List.getElem?_eq_getElem (by omega)⟩
        obtain ⟨y, hy⟩ := hy
        have hd' := (hget i hi).trans hy
        rw [hc] at hd'
        cases hcs : w.cells? 0 (ad.add (i * a.sz)) a.sz with
        | none => rw [hcs] at hd'; cases hd'
        | some rows =>
          rw [hcs] at hd'
          simp only [Option.bind_some] at hd'
          obtain ⟨av, h1, h2, h3, h4⟩ := (read_ok a).1 fu e _ y hm hd'
          unfold World.cells? at hcs
          rw [if_pos (Nat.zero_le _)] at hcs
          refine ⟨av, h1, h3, rows, by omega, fun j v hv => ?_, h4⟩
          have hjlt : j < a.sz := by have := (List.getElem?_eq_some_iff.1 hv).1; omega
          have := mapM_some_get hcs j j (by simp [hjlt])
          rw [this]; exact hv
      obtain ⟨avs, hl, hav⟩ := choose_list hpick
      have hall : ∀ x ∈ avs, x.length = a.sz := fun x hx => by
        obtain ⟨i, hi⟩ := List.getElem?_of_mem hx
        exact (hav i x hi).2.1
      refine ⟨[.ilist a.sz len avs.flatten], ⟨avs, by rw [hl], fun x hx => ?_, by omega⟩, rfl, rfl, ?_⟩
      · obtain ⟨i, hi⟩ := List.getElem?_of_mem hx
        exact (hav i x hi).1
      · simp only [RepAt, and_true]
        refine ⟨_, rfl, ?_⟩
        simp only [Rep]
        refine ⟨by rw [flatten_len hall, hl], some ad, cap, hcap, rfl, ?_⟩
        by_cases h0 : len = 0
        · left
          have : avs = [] := List.length_eq_zero_iff.1 (by omega)
          rw [this]; rfl
        · right
          obtain ⟨av0, hav0⟩ : ∃ x, avs[0]? = some x := ⟨_, List.getElem?_eq_getElem (by omega)⟩
          obtain ⟨_, _, rows0, hr1, hr2, _⟩ := hav 0 av0 hav0
          obtain ⟨v0, hv0⟩ : ∃ x, rows0[0]? = some x := ⟨_, List.getElem?_eq_getElem (by omega)⟩
          have hc0 := hr2 0 v0 hv0
          have e0 : (ad.add (0 * a.sz)).add 0 = ad := by simp [Addr.add]
          rw [e0] at hc0
          obtain ⟨hs, C, ty, fr, hh⟩ := cell_spot hc0
          refine ⟨ad.block, ad.off, C, ty, fr, ?_, hh, ?_⟩
          · obtain ⟨b, o, s⟩ := ad; simp only at hs; subst hs; rfl
          · refine repAt_flatten a.sz avs ad.off hall (fun j x hj => ?_)
            obtain ⟨_, _, rows, hr1, hr2, hr3⟩ := hav j x hj
            refine RepAt.mk fun k c hk => ?_
            obtain ⟨v, hv, hrep⟩ := RepAt.get hr3 hk
            simp only [Nat.zero_add, List.getElem?_toArray] at hv
            have hcell := hr2 k v hv
            rw [addr_add2 hs] at hcell
            refine ⟨v, ?_, hrep⟩
            unfold World.cell? at hcell
            simp only [hh, Option.isSome_none, Bool.false_eq_true, if_false] at hcell
            rw [← hcell]; congr 1; omega
  | .pair a b => by
    refine ⟨fun fuel t cs x h hd => ?_, fun n l off tot cs h ht hget => ?_⟩
    · simp only [mT] at h
      split at h
      case h_2 => cases h
      rename_i fs ht
      split at h
      case h_2 => cases h
      rename_i f r hfs
      simp only [Bool.and_eq_true, beq_iff_eq] at h
      obtain ⟨⟨⟨ho, hc⟩, hm⟩, hr⟩ := h
      obtain ⟨xs, fu, rfl, _, hlen, hxs, hget⟩ := DataW.trod_struct ht hd
      have hall : ∀ g ∈ fs.toList, ∃ y, DataW.trod enc P w 0 (fun _ => true) true fu g.type ((cs.drop g.offset).take (P.cellsOf g.type)) = some (y : DataW H × List MemPlace) := by
        intro g hg
        obtain ⟨i, hi⟩ := List.getElem?_of_mem hg
        have hi' : fs[i]? = some g := by simpa using hi
        have hlt : i < fs.size := by
          have := (Array.getElem?_eq_some_iff.1 hi').1
          exact this
        exact ⟨_, (hget i g hi').trans (List.getElem?_eq_getElem (by omega))⟩
      obtain ⟨y, hy⟩ := hall f (by rw [hfs]; simp)
      obtain ⟨av, h1, h2, h3, h4⟩ := (read_ok a).1 fu f.type _ y hm hy
      obtain ⟨av2, k1, k2, k3, k4⟩ := (read_ok b).2 fu r a.sz (P.cellsOf t) cs hr hlen.symm (fun g hg => hall g (by rw [hfs]; simp [hg]))
      rw [ho] at h4
      refine ⟨av ++ av2, ⟨av, av2, rfl, h1, k1⟩, by rw [List.length_append]; omega, by rw [List.length_append, h3, k3]; rfl, RepAt.app (RepAt.piece h4) ?_⟩
      rw [Nat.zero_add, h3]; exact k4
    · simp only [mT] at h
      split at h
      case h_2 => cases h
      rename_i f r
      simp only [Bool.and_eq_true, beq_iff_eq] at h
      obtain ⟨⟨⟨ho, hc⟩, hm⟩, hr⟩ := h
      obtain ⟨y, hy⟩ := hget f (by simp)
      obtain ⟨av, h1, h2, h3, h4⟩ := (read_ok a).1 n f.type _ y hm hy
      obtain ⟨av2, k1, k2, k3, k4⟩ := (read_ok b).2 n r (off + a.sz) tot cs hr ht (fun g hg => hget g (by simp [hg]))
      rw [ho] at h4
      refine ⟨av ++ av2, ⟨av, av2, rfl, h1, k1⟩, by rw [List.length_append]; omega, by rw [List.length_append, h3, k3]; rfl, RepAt.app (RepAt.piece h4) ?_⟩
      rw [h3]; exact k4

end

end Qk

/-
  The last steps of a law: arguments as the executor's values, and the row's post-condition.
-/
namespace Qk
open Go Go.RowKit Go.WideShapes Go.ChangeShapes Go.ChangeAt

section
variable {H : Type} {enc : TypeId × Value → H} {P : Program}

/-- Behind the call the new memory is all that has turned. -/
theorem post_of_below {f : Func} {s : ChangeSpec} {apart fresh handsOn again : Bool} {W W' : World} {args : Array Value} {v : Value} {ds gs : List (DataW H)} {before pa pv : List MemPlace}
    (hW : DataW.Whole enc P f.params.toList s.vars apart W args.toList ds gs before)
    (hres : ∀ (b : Nat) (sp : Nat → Bool) (hd : Bool), DataW.TrodAll enc P W' b sp hd f.resultTypes.toList (v.resultList f.resultTypes.size) (s.fn H (ds ++ gs)).results [])
    (hargs : ∀ sp : Nat → Bool, (∀ p ∈ before, sp p.block = true) → DataW.TrodAll enc P W' 0 sp true f.params.toList args.toList (s.fn H (ds ++ gs)).args pa)
    (hvars : ∀ sp : Nat → Bool, (∀ p ∈ before, sp p.block = true) → DataW.TrodVars enc P W' sp s.vars (s.fn H (ds ++ gs)).vars pv)
    (hps : before = pa ++ pv) (hb : Below W.heap.size W W')
    (hok : ∀ (j : Nat) (t : TypeId) (r : Value), f.resultTypes[j]? = some t → (v.resultList f.resultTypes.size)[j]? = some r → Value.okWide P W' .any 0 t r) :
    s.post enc P f apart fresh handsOn again W args v W' := by
  have hlt : ∀ p ∈ before, p.block < W.heap.size := fun p hp => hW.lt p hp
  have hold : ∀ p ∈ before, (fun b => decide (b < W.heap.size)) p.block = true := fun p hp => by simpa using hlt p hp
  refine ⟨ds, gs, before, [], pa, pv, hW, hres _ _ _, hargs _ hold, hvars _ hold, World.keptBut_mono (fun p hp => ⟨hp, ?_⟩) (hb.frame (· ∈ before)), fun _ => ?_⟩
  · rw [hps, List.mem_append] at hp
    exact Or.inr hp
  · obtain ⟨_, _, _, _, _, hz, hn⟩ := hW
    refine ⟨hok, _, _, ([] ++ pa) ++ pv, ⟨[] ++ pa, pv, trodAll_append (hargs _ (fun _ _ => rfl)) (hres _ _ _), hvars _ (fun _ _ => rfl), rfl, ?_, ?_⟩, ?_⟩
    · intro b off hp
      have hin : MemPlace.cell b off ∈ before := by rw [hps]; simpa using hp
      rw [hb.frozen (hlt _ hin)]
      exact hz b off hin
    · intro ha
      have := hn ha
      rw [hps] at this
      simpa using this
    · intro p hp _
      rw [hps]
      simpa using hp

theorem trodAll_stays (hl : laidOutB P = true) {W W' : World} {sp : Nat → Bool} (hb : Below W.heap.size W W') : ∀ (ts : List TypeId) (vs : List Value) (ds : List (DataW H)) (ps : List MemPlace),
    ts.all (fun t => P.readableRec t && decide (t < P.types.size)) = true → DataW.TrodAll enc P W 0 (fun _ => true) true ts vs ds ps → (∀ x ∈ ps, x.block < W.heap.size) → (∀ x ∈ ps, sp x.block = true) →
    DataW.TrodAll enc P W' 0 sp true ts vs ds ps
  | [], vs, ds, ps, _, h, _, _ => by
    obtain ⟨rfl, rfl, rfl⟩ := trodAll_nil h
    exact trodAll_mk0
  | t :: ts, vs, ds, ps, hts, h, hlt, hsp => by
    simp only [List.all_cons, Bool.and_eq_true, decide_eq_true_eq] at hts
    obtain ⟨v, vs', d, ds', p, q, rfl, rfl, rfl, h1, h2⟩ := trodAll_cons h
    exact trodAll_cons_mk (WideElems.Trod_stays hl hts.1.1 hts.1.2 h1 (fun x hx => hb.same (hlt x (by simp [hx]))) (fun x hx => hsp x (by simp [hx])))
      (trodAll_stays hl hb ts vs' ds' q hts.2 h2 (fun x hx => hlt x (by simp [hx])) (fun x hx => hsp x (by simp [hx])))

/-- A law that answered true, and left memory as it was. -/
theorem law_post {fn : Func} {s : ChangeSpec} {tb : TypeId} {W W' : World} {args : Array Value} {ds gs : List (DataW H)} {before : List MemPlace} (hl : laidOutB P = true)
    (hts : fn.params.toList.all (fun t => P.readableRec t && decide (t < P.types.size)) = true) (hv : s.vars = []) (hr : fn.resultTypes = #[tb]) (htb : P.underlying tb = some .bool)
    (hW : DataW.Whole enc P fn.params.toList s.vars false W args.toList ds gs before) (hfn : s.fn H (ds ++ gs) = { results := [.lit (.bool true)], args := ds }) (hb : Below W.heap.size W W') :
    s.post enc P fn false true false false W args (.bool true) W' := by
  have hW' := hW
  have hlt : ∀ x ∈ before, x.block < W.heap.size := fun x hx => hW'.lt x hx
  obtain ⟨p, q, hA, hV, rfl, _, _⟩ := hW
  have hq : q = [] := by
    rw [hv] at hV
    cases gs with
    | nil => exact hV
    | cons => exact hV.elim
  subst hq
  refine post_of_below (pa := p) (pv := []) hW' (fun b sp hd => ?_) (fun sp hsp => ?_) (fun sp hsp => ?_) rfl hb (ok_one hr rfl (okWide_bool_mk htb true))
  · rw [hr, hfn]
    exact trodAll_mk1 (shut_bool htb true)
  · rw [hfn]
    exact trodAll_stays hl hb _ _ _ _ hts hA (fun x hx => hlt x (by simp [hx])) (fun x hx => hsp x (by simp [hx]))
  · rw [hfn, hv]
    rfl

variable {W : World} (G : Gl)

/-- An argument of one cell. -/
theorem arg_one {ty : Ty} {t : TypeId} {v : Value} {d : DataW H} {p : List MemPlace} (hm : (mT P ty).1 t = true)
    (hs : (match P.underlying t with | some .bool => true | some (.int _) => true | some .string => true | some (.slice _) => true | _ => false) = true) (hval : Value.okWide P W .any 0 t v) (hd : DataW.Trod enc P W 0 (fun _ => true) true t v d p) :
    ∃ a, Fits ty [a] ∧ Rep G (fun b => W.heap[b]?) a (fun _ => none) v := by
  obtain ⟨fuel, hf⟩ := hd
  obtain ⟨av, h1, h2, _, h4⟩ := (read_ok (w := W) G ty).1 fuel t _ _ hm hf
  have hc : v.cells.toList = [v] := by
    unfold Value.okWide at hval
    cases v with
    | agg cs =>
      exfalso
      split at hs <;> first | (rename_i ht; rw [ht] at hval; simp only [Cell.okWide, ht, Cell.ok] at hval; done) | cases hs
    | _ => rfl
  rw [hc] at h2 h4
  match av, h2 with
  | [a], _ =>
    refine ⟨a, h1, ?_⟩
    simp only [RepAt] at h4
    obtain ⟨⟨x, hx, hr⟩, _⟩ := h4
    simp at hx
    subst hx
    exact hr

/-- An array or a struct. -/
theorem arg_agg {ty : Ty} {t : TypeId} {v : Value} {d : DataW H} {p : List MemPlace} (hm : (mT P ty).1 t = true)
    (hs : (match P.underlying t with | some (.array _ _) => true | some (.struct _) => true | _ => false) = true) (hval : Value.okWide P W .any 0 t v) (hd : DataW.Trod enc P W 0 (fun _ => true) true t v d p) :
    ∃ av, Fits ty av ∧ Rep G (fun b => W.heap[b]?) (.agg av) (fun _ => none) v := by
  obtain ⟨fuel, hf⟩ := hd
  obtain ⟨av, h1, h2, _, h4⟩ := (read_ok (w := W) G ty).1 fuel t _ _ hm hf
  have hc : ∃ cs, v = .agg cs := by
    unfold Value.okWide at hval
    split at hs
    · rename_i ht; rw [ht] at hval; exact ⟨hval.choose, hval.choose_spec.1⟩
    · rename_i ht; rw [ht] at hval; exact ⟨hval.choose, hval.choose_spec.1⟩
    · cases hs
  obtain ⟨cs, rfl⟩ := hc
  refine ⟨av, h1, ?_⟩
  simp only [Rep]
  have e : (Value.agg cs).cells = cs := rfl
  rw [e] at h2 h4
  refine ⟨cs, rfl, ?_, ?_⟩
  · rw [h2]; simp
  · simpa using h4
end

theorem fits_u8 {cs : List AV} (h : Fits (.int .u8) cs) : ∃ c : UInt8, cs = [.int .u8 c.toNat] := by
  obtain ⟨n, rfl, hw⟩ := h
  have hb : 0 ≤ n ∧ n ≤ 255 := by
    have : (Lit.int .u8 n).wf = (decide (0 ≤ n) && decide (n ≤ 255)) := rfl
    rw [this] at hw
    simpa using hw
  refine ⟨UInt8.ofNat n.toNat, ?_⟩
  have : ((UInt8.ofNat n.toNat).toNat : Int) = n := by
    simp only [UInt8.toNat_ofNat']; omega
  rw [this]
theorem fits_bytes {xs : List (List AV)} (h : ∀ x ∈ xs, Fits (.int .u8) x) : ∃ l : List UInt8, l.length = xs.length ∧ xs.flatten = bys l := by
  induction xs with
  | nil => exact ⟨[], rfl, rfl⟩
  | cons x xs ih =>
    obtain ⟨c, rfl⟩ := fits_u8 (h x (by simp))
    obtain ⟨l, h1, h2⟩ := ih (fun y hy => h y (by simp [hy]))
    exact ⟨c :: l, by simp [h1], by rw [List.flatten_cons, h2]; rfl⟩
/-- An array of bytes. -/
theorem fits_arr {n : Nat} {cs : List AV} (h : Fits (.arr n (.int .u8)) cs) : ∃ l : List UInt8, l.length = n ∧ cs = bys l := by
  obtain ⟨xs, rfl, rfl, hx⟩ := h
  exact fits_bytes hx

/-- The call that a contract speaks of. -/
theorem calls_of {G : Gl} {C : PC} {f : FuncId} {fn : Func} (hf : G.P.funcs[f]? = some fn) (hb : fn.body.isNone = false) (hname : (fn.name == "runtime.NumGoroutine") = false) (h : KeepsC G C (fun _ => none) f #[])
    {x : C.α} {W : World} {vs : Array Value} (hok : C.ok x) (hres : C.res x = .bool true) (hs : vs.size = (C.args x).length) (hr : RepAt G (fun b => W.heap[b]?) (C.args x) (fun _ => none) vs 0) :
    Calls G.P f vs W (fun e w' => e = .returned (.bool true) ∧ Below W.heap.size W w') := by
  rcases h _ W _ vs (fun b o e => by cases e) (fun b o e => e) hs hr x rfl hok with ⟨_, hc⟩ | ⟨v, w', hc, _⟩
  · rw [Array.append_empty] at hc
    refine Calls.mono hc ?_
    rintro e w' ⟨r, v, Φ', rfl, rfl, _, _, _, hrep, hbel⟩
    rw [hres] at hrep
    simp only [Rep] at hrep
    subst hrep
    exact ⟨rfl, hbel⟩
  · rw [run_callFunc hf hb hname] at hc
    cases hc

theorem repeatL_eq (l : List UInt8) (n : Nat) : Lib.repeatL l n = (List.replicate n l).flatten := by
  induction n with
  | zero => rfl
  | succ n ih => rw [Lib.repeatL, ih, List.replicate_succ, List.flatten_cons]

end Qk
