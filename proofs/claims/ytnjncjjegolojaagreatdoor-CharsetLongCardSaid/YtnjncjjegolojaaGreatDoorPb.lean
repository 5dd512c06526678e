/-
  The executor: order of operations, calls, code.
-/
import Derived.Test.YtnjncjjegolojaaGreatDoorPa
import Derived.Deep.LoopGhost
import Derived.Sort.LoopGhostIn
import Derived.OrdersIn
import Derived.RangeFuncLeaves
import Derived.RangeFuncRecord
import Derived.RangeFuncNested

/-
  What an operation reads, and when two operations may change places.
-/
namespace Qk
open Go Go.RowKit

def opd : Operand → List Nat
 | .tmp t => [t]
 | _ => []
def opdO : Option Operand → List Nat
 | some x => opd x
 | none => []

/-- The slots that an operation reads. -/
def Ins.reads : Ins → List Nat
 | .mov x => opd x
 | .pick c a b => opd c ++ opd a ++ opd b
 | .alloc _ => []
 | .box x => opd x
 | .build _ _ ps => ps.flatMap fun p => opd p.2.2
 | .bslice _ _ _ ps => ps.flatMap fun p => opd p.2.2
 | .load1 x => opd x
 | .loadN _ x => opd x
 | .stor1 a x => opd a ++ opd x
 | .storN _ a x => opd a ++ opd x
 | .nilck x => opd x
 | .bin _ x y => opd x ++ opd y
 | .beq _ x y => opd x ++ opd y
 | .aeq _ _ x y => opd x ++ opd y
 | .neg x => opd x
 | .cpl x => opd x
 | .not x => opd x
 | .conv _ x => opd x
 | .s2b x => opd x
 | .b2s x => opd x
 | .lenS x => opd x
 | .lenL x => opd x
 | .lenA _ => []
 | .idxA _ _ x i => opd x ++ opd i
 | .idxL _ x i => opd x ++ opd i
 | .fldA _ x => opd x
 | .idxV _ _ _ x i => opd x ++ opd i
 | .idxS x i => opd x ++ opd i
 | .fldV _ _ _ x => opd x
 | .slS x lo hi => opd x ++ opdO lo ++ opdO hi
 | .slA _ _ x lo hi => opd x ++ opdO lo ++ opdO hi
 | .slL _ x lo hi => opd x ++ opdO lo ++ opdO hi
 | .app _ _ x y => opd x ++ opd y
 | .mksl _ _ _ l c => opd l ++ opd c
 | .extr x _ => opd x
 | .mkclo _ caps => caps.flatMap opd
 | .pcall _ args => args.flatMap opd
 | .vcall _ x args => opd x ++ args.flatMap opd
 | .newb _ => []
 | .pcallF _ args => args.flatMap opd
 | .pcallB _ args => args.flatMap opd
 | .mkmap .. => []
 | .mlook _ _ _ _ x i => opd x ++ opd i
 | .mput _ _ x k v => opd x ++ opd k ++ opd v
 | .panic => []

/-- 0: looks at no memory; 1: looks at it; 2: changes it. -/
def Ins.cls : Ins → Nat
 | .mov _ => 0
 | .pick .. => 0
 | .build .. => 0
 | .nilck _ => 0
 | .bin .. => 0
 | .beq .. => 0
 | .aeq .. => 0
 | .neg _ => 0
 | .cpl _ => 0
 | .not _ => 0
 | .conv .. => 0
 | .lenS _ => 0
 | .lenL _ => 0
 | .lenA _ => 0
 | .idxA .. => 0
 | .fldA .. => 0
 | .idxV .. => 0
 | .idxS .. => 0
 | .fldV .. => 0
 | .slS .. => 0
 | .slA .. => 0
 | .extr .. => 0
 | .mkclo .. => 0
 | .panic => 0
 | .load1 _ => 1
 | .loadN .. => 1
 | .b2s _ => 1
 | .idxL .. => 1
 | .slL .. => 1
 | .pcall .. => 1
 | .vcall .. => 1
 | .mlook .. => 1
 | _ => 2

def AgreeOn (l : List Nat) (S S2 : St) : Prop := ∀ k ∈ l,S2.env k = S.env k

theorem AgreeOn.ev {S S2 : St} {x : Operand} (h : AgreeOn (opd x) S S2) : S2.ev x = S.ev x := by
 cases x <;> simp only [St.ev]
 exact h _ (by simp [opd])
theorem AgreeOn.left {l m : List Nat} {S S2 : St} (h : AgreeOn (l ++ m) S S2) : AgreeOn l S S2 := fun k hk => h k (List.mem_append_left _ hk)
theorem AgreeOn.right {l m : List Nat} {S S2 : St} (h : AgreeOn (l ++ m) S S2) : AgreeOn m S S2 := fun k hk => h k (List.mem_append_right _ hk)
theorem AgreeOn.evs {S S2 : St} : ∀ {xs : List Operand},AgreeOn (xs.flatMap opd) S S2 → S2.evs xs = S.evs xs
 | [],_ => rfl
 | x :: xs,h => by
  have h' : AgreeOn (opd x ++ xs.flatMap opd) S S2 := by simpa using h
  simp only [St.evs]
  rw [h'.left.ev,AgreeOn.evs h'.right]
theorem AgreeOn.bnd {S S2 : St} {x : Option Operand} (h : AgreeOn (opdO x) S S2) (d : Int) (K : Int → Prop) : bnd S2 x d K = bnd S x d K := by
 cases x with
 | none => rfl
 | some x => simp only [Qk.bnd]; rw [AgreeOn.ev (x := x) h]
theorem AgreeOn.fill {S S2 : St} : ∀ {ps : List (Nat × Nat × Operand)} {zs : List AV},AgreeOn (ps.flatMap fun p => opd p.2.2) S S2 → fillA S2 zs ps = fillA S zs ps
 | [],_,_ => rfl
 | (off,sz,x) :: ps,zs,h => by
  have h' : AgreeOn (opd x ++ ps.flatMap fun p => opd p.2.2) S S2 := by simpa using h
  simp only [fillA]
  rw [h'.left.ev]
  cases S.ev x with
  | none => rfl
  | some v =>
   simp only
   split <;> (congr 1; exact AgreeOn.fill h'.right)

def Det0 (o : Ins) : Prop := ∀ S K,ex1 o S K → ∃ r,K r S ∧ ∀ S2 K2,AgreeOn o.reads S S2 → K2 r S2 → ex1 o S2 K2
def Det1 (o : Ins) : Prop := ∀ S K,ex1 o S K → ∃ r,K r S ∧ ∀ S2 K2,S2.heap = S.heap → AgreeOn o.reads S S2 → K2 r S2 → ex1 o S2 K2
def Det2 (o : Ins) : Prop := ∀ S K,ex1 o S K → ∃ r H n,K r { S with heap := H,next := n } ∧ ∀ S2 K2,S2.heap = S.heap → S2.next = S.next → AgreeOn o.reads S S2 → K2 r { S2 with heap := H,next := n } → ex1 o S2 K2

theorem Det0.one {o : Ins} (h : Det0 o) : Det1 o := fun S K e => let ⟨r,h1,h2⟩ := h S K e; ⟨r,h1,fun S2 K2 _ => h2 S2 K2⟩
theorem Det1.two {o : Ins} (h : Det1 o) : Det2 o := fun S K e => let ⟨r,h1,h2⟩ := h S K e; ⟨r,S.heap,S.next,h1,fun S2 K2 e1 e2 ha hk => h2 S2 K2 e1 ha (by cases S2; simp only at e1 e2; subst e1; subst e2; exact hk)⟩

theorem bnd_det {S : St} {x : Option Operand} {d : Int} {K : Int → Prop} (h : bnd S x d K) : ∃ i,K i ∧ ∀ K2,K2 i → bnd S x d K2 := by
 unfold bnd at *
 split at h
 ·exact ⟨d,h,fun _ h => h⟩
 ·split at h
  ·rename_i i hi; exact ⟨i,h,fun K2 h2 => h2⟩
  ·exact h.elim

theorem sgn_det {k : IntKind} {x : Int} {K : AV → Prop} (h : sgn k x K) : ∃ r,K r ∧ ∀ K2,K2 r → sgn k x K2 := by
 cases k <;> simp only [sgn] at h ⊢
 case i8 => exact ⟨_,h.2,fun K2 h2 => ⟨h.1,h2⟩⟩
 case i16 => exact ⟨_,h.2,fun K2 h2 => ⟨h.1,h2⟩⟩
 case i32 => exact ⟨_,h.2,fun K2 h2 => ⟨h.1,h2⟩⟩
 case i64 => exact ⟨_,h.2,fun K2 h2 => ⟨h.1,h2⟩⟩
 all_goals exact ⟨_,h,fun K2 h2 => h2⟩

theorem arith_det {op : BinOp} {k : IntKind} {a b : Int} {K : AV → Prop} (h : arith op k a b K) : ∃ r,K r ∧ ∀ K2,K2 r → arith op k a b K2 := by
 cases op <;> simp only [arith] at h ⊢
 case add => exact sgn_det h
 case sub => exact sgn_det h
 case mul => exact sgn_det h
 case quo => obtain ⟨r,h1,h2⟩ := sgn_det h.2; exact ⟨r,h1,fun K2 h3 => ⟨h.1,h2 K2 h3⟩⟩
 case rem => exact ⟨_,h.2,fun K2 h2 => ⟨h.1,h2⟩⟩
 case shl => exact ⟨_,h.2,fun K2 h2 => ⟨h.1,h2⟩⟩
 case shr => exact ⟨_,h.2,fun K2 h2 => ⟨h.1,h2⟩⟩
 all_goals exact ⟨_,h,fun K2 h2 => h2⟩

theorem strOp_det {op : BinOp} {a b : List UInt8} {K : AV → Prop} (h : strOp op a b K) : ∃ r,K r ∧ ∀ K2,K2 r → strOp op a b K2 := by
 cases op <;> simp only [strOp] at h ⊢
 case add => exact ⟨_,h.2,fun K2 h2 => ⟨h.1,h2⟩⟩
 case eql => exact ⟨_,h,fun K2 h2 => h2⟩
 case neq => exact ⟨_,h,fun K2 h2 => h2⟩
 case lss => exact ⟨_,h,fun K2 h2 => h2⟩
 all_goals exact h.elim

theorem det0 : ∀ (o : Ins),o.cls = 0 → Det0 o := by
 intro o hc S K h
 cases o <;> simp only [Ins.cls] at hc <;> first | omega | skip
 case mov x =>
  simp only [ex1] at h
  split at h
  ·rename_i v hv
   exact ⟨v,h,fun S2 K2 ha hk => by simp only [ex1]; rw [AgreeOn.ev (x := x) ha,hv]; exact hk⟩
  ·exact h.elim
 case panic => exact h.elim
 case lenA n => exact ⟨_,h,fun S2 K2 _ hk => hk⟩
 case pick c a b =>
  simp only [ex1] at h
  split at h
  case h_2 => exact h.elim
  rename_i q hq
  have back : ∀ S2 : St,AgreeOn (Ins.pick c a b).reads S S2 → S2.ev c = some (.bool q) ∧ S2.ev a = S.ev a ∧ S2.ev b = S.ev b := fun S2 ha =>
   ⟨by rw [AgreeOn.ev (x := c) (AgreeOn.left (AgreeOn.left ha)),hq],AgreeOn.ev (AgreeOn.right (AgreeOn.left ha)),AgreeOn.ev (AgreeOn.right ha)⟩
  split at h
  ·rename_i x y hx hy
   refine ⟨_,h,fun S2 K2 ha hk => ?_⟩
   obtain ⟨b1,b2,b3⟩ := back S2 ha
   simp only [ex1,b1,b2,b3,hx,hy]
   exact hk
  ·rename_i hno
   cases q
   ·simp only [cond_false] at h
    split at h
    ·rename_i v hv
     refine ⟨v,h,fun S2 K2 ha hk => ?_⟩
     obtain ⟨b1,b2,b3⟩ := back S2 ha
     simp only [ex1,b1,b2,b3,hv,cond_false]
     split
     ·rename_i x y h5 h6; exact absurd (by rw [hv]; exact h6) (hno x y h5)
     ·exact hk
    ·exact h.elim
   ·simp only [cond_true] at h
    split at h
    ·rename_i v hv
     refine ⟨v,h,fun S2 K2 ha hk => ?_⟩
     obtain ⟨b1,b2,b3⟩ := back S2 ha
     simp only [ex1,b1,b2,b3,hv,cond_true]
     split
     ·rename_i x y h5 h6; exact absurd h6 (hno x y (by rw [hv]; exact h5))
     ·exact hk
    ·exact h.elim
 case build sz zs ps =>
  simp only [ex1] at h
  split at h
  case h_2 => exact h.elim
  rename_i cs hcs
  refine ⟨_,h.2,fun S2 K2 ha hk => ?_⟩
  simp only [ex1,AgreeOn.fill (zs := zs) ha,hcs]
  exact ⟨h.1,hk⟩
 case nilck x =>
  simp only [ex1] at h
  split at h
  case h_4 => exact h.elim
  all_goals
   rename_i hx
   refine ⟨_,h,fun S2 K2 ha hk => ?_⟩
   simp only [ex1,AgreeOn.ev (x := x) ha,hx]
   exact hk
 case bin op x y =>
  simp only [ex1] at h
  split at h
  case h_3 => exact h.elim
  case h_1 =>
   rename_i k p j q hx hy
   split at h
   case h_2 => exact h.elim
   rename_i hk
   obtain ⟨r,h1,h2⟩ := arith_det h
   refine ⟨r,h1,fun S2 K2 ha hk2 => ?_⟩
   simp only [ex1,ha.left.ev,ha.right.ev,hx,hy,hk]
   exact h2 _ hk2
  case h_2 =>
   rename_i p q hx hy
   obtain ⟨r,h1,h2⟩ := strOp_det h
   refine ⟨r,h1,fun S2 K2 ha hk2 => ?_⟩
   simp only [ex1,ha.left.ev,ha.right.ev,hx,hy]
   exact h2 _ hk2
 case beq neg x y =>
  simp only [ex1] at h
  split at h
  case h_2 => exact h.elim
  rename_i p q hx hy
  refine ⟨_,h,fun S2 K2 ha hk => ?_⟩
  simp only [ex1,ha.left.ev,ha.right.ev,hx,hy]
  exact hk
 case aeq neg ks x y =>
  simp only [ex1] at h
  split at h
  case h_2 => exact h.elim
  rename_i p q hx hy
  obtain ⟨r,h1,h2⟩ := h
  refine ⟨_,h2,fun S2 K2 ha hk => ?_⟩
  simp only [ex1,ha.left.ev,ha.right.ev,hx,hy]
  exact ⟨r,h1,hk⟩
 case neg x =>
  simp only [ex1] at h
  split at h
  case h_2 => exact h.elim
  rename_i k p hx
  obtain ⟨r,h1,h2⟩ := sgn_det h
  refine ⟨r,h1,fun S2 K2 ha hk => ?_⟩
  simp only [ex1,AgreeOn.ev (x := x) ha,hx]
  exact h2 _ hk
 case cpl x =>
  simp only [ex1] at h
  split at h
  case h_2 => exact h.elim
  rename_i k p hx
  refine ⟨_,h,fun S2 K2 ha hk => ?_⟩
  simp only [ex1,AgreeOn.ev (x := x) ha,hx]
  exact hk
 case not x =>
  simp only [ex1] at h
  split at h
  case h_2 => exact h.elim
  rename_i p hx
  refine ⟨_,h,fun S2 K2 ha hk => ?_⟩
  simp only [ex1,AgreeOn.ev (x := x) ha,hx]
  exact hk
 case conv k x =>
  simp only [ex1] at h
  split at h
  case h_2 => exact h.elim
  rename_i j p hx
  obtain ⟨r,h1,h2⟩ := sgn_det h
  refine ⟨r,h1,fun S2 K2 ha hk => ?_⟩
  simp only [ex1,AgreeOn.ev (x := x) ha,hx]
  exact h2 _ hk
 case lenS x =>
  simp only [ex1] at h
  split at h
  case h_2 => exact h.elim
  rename_i l hx
  refine ⟨_,h,fun S2 K2 ha hk => ?_⟩
  simp only [ex1,AgreeOn.ev (x := x) ha,hx]
  exact hk
 case lenL x =>
  simp only [ex1] at h
  split at h
  case h_5 => exact h.elim
  all_goals
   rename_i hx
   refine ⟨_,h,fun S2 K2 ha hk => ?_⟩
   simp only [ex1,AgreeOn.ev (x := x) ha,hx]
   exact hk
 case idxA esz n x i =>
  simp only [ex1] at h
  split at h
  case h_3 => exact h.elim
  all_goals
   rename_i hx hy
   refine ⟨_,h.2,fun S2 K2 ha hk => ?_⟩
   simp only [ex1,ha.left.ev,ha.right.ev,hx,hy]
   exact ⟨h.1,hk⟩
 case fldA off x =>
  simp only [ex1] at h
  split at h
  case h_3 => exact h.elim
  all_goals
   rename_i hx
   refine ⟨_,h,fun S2 K2 ha hk => ?_⟩
   simp only [ex1,AgreeOn.ev (x := x) ha,hx]
   exact hk
 case idxV n esz agg x i =>
  simp only [ex1] at h
  split at h
  case h_2 => exact h.elim
  rename_i cs k j hx hy
  obtain ⟨h0,h⟩ := h
  cases agg
  ·obtain ⟨v,hv,h⟩ := h
   refine ⟨_,h,fun S2 K2 ha hk => ?_⟩
   simp only [ex1,ha.left.ev,ha.right.ev,hx,hy]
   exact ⟨h0,v,hv,hk⟩
  ·obtain ⟨v,hv,h⟩ := h
   refine ⟨_,h,fun S2 K2 ha hk => ?_⟩
   simp only [ex1,ha.left.ev,ha.right.ev,hx,hy]
   exact ⟨h0,v,hv,hk⟩
 case idxS x i =>
  simp only [ex1] at h
  split at h
  case h_2 => exact h.elim
  rename_i l k j hx hy
  refine ⟨_,h.2,fun S2 K2 ha hk => ?_⟩
  simp only [ex1,ha.left.ev,ha.right.ev,hx,hy]
  exact ⟨h.1,hk⟩
 case fldV off sz agg x =>
  simp only [ex1] at h
  split at h
  case h_2 => exact h.elim
  rename_i cs hx
  cases agg
  ·obtain ⟨v,hv,h⟩ := h
   refine ⟨_,h,fun S2 K2 ha hk => ?_⟩
   simp only [ex1,AgreeOn.ev (x := x) ha,hx]
   exact ⟨v,hv,hk⟩
  ·obtain ⟨v,hv,h⟩ := h
   refine ⟨_,h,fun S2 K2 ha hk => ?_⟩
   simp only [ex1,AgreeOn.ev (x := x) ha,hx]
   exact ⟨v,hv,hk⟩
 case slS x lo hi =>
  simp only [ex1] at h
  split at h
  case h_2 => exact h.elim
  rename_i l hx
  obtain ⟨i,h,hb1⟩ := bnd_det h
  obtain ⟨j,⟨h0,h⟩,hb2⟩ := bnd_det h
  refine ⟨_,h,fun S2 K2 ha hk => ?_⟩
  simp only [ex1,ha.left.left.ev,hx,ha.left.right.bnd,ha.right.bnd]
  exact hb1 _ (hb2 _ ⟨h0,hk⟩)
 case slA esz n x lo hi =>
  simp only [ex1] at h
  split at h
  case h_2 => exact h.elim
  rename_i m off hx
  obtain ⟨i,h,hb1⟩ := bnd_det h
  obtain ⟨j,⟨h0,h⟩,hb2⟩ := bnd_det h
  refine ⟨_,h,fun S2 K2 ha hk => ?_⟩
  simp only [ex1,ha.left.left.ev,hx,ha.left.right.bnd,ha.right.bnd]
  exact hb1 _ (hb2 _ ⟨h0,hk⟩)
 case extr x i =>
  simp only [ex1] at h
  split at h
  case h_2 => exact h.elim
  rename_i cs hx
  obtain ⟨v,hv,h⟩ := h
  refine ⟨_,h,fun S2 K2 ha hk => ?_⟩
  simp only [ex1,AgreeOn.ev (x := x) ha,hx]
  exact ⟨v,hv,hk⟩
 case mkclo t caps =>
  simp only [ex1] at h
  split at h
  case h_2 => exact h.elim
  rename_i vs hx
  refine ⟨_,h,fun S2 K2 ha hk => ?_⟩
  simp only [ex1,AgreeOn.evs (xs := caps) ha,hx]
  exact hk

theorem lend_det {H : Nat → Option AO} : ∀ {vs : List AV} {K : Bool → List AV → Prop},lend H vs K → ∃ b us,K b us ∧ ∀ K2,K2 b us → lend H vs K2
 | [],K,h => ⟨false,[],h,fun K2 h2 => h2⟩
 | v :: r,K,h => by
  simp only [lend] at h
  split at h
  case h_1 =>
   split at h
   ·rename_i hH
    obtain ⟨h0,h⟩ := h
    obtain ⟨b,us,h1,h2⟩ := lend_det h
    exact ⟨_,_,h1,fun K2 h3 => by simp only [lend,hH]; exact ⟨h0,h2 _ h3⟩⟩
   ·exact h.elim
  case h_2 =>
   split at h
   ·rename_i hH
    obtain ⟨h0,h00,h⟩ := h
    obtain ⟨b,us,h1,h2⟩ := lend_det h
    exact ⟨_,_,h1,fun K2 h3 => by simp only [lend,hH]; exact ⟨h0,h00,h2 _ h3⟩⟩
   ·exact h.elim
  case h_3 =>
   split at h
   ·rename_i hH
    obtain ⟨h0,h00,h⟩ := h
    obtain ⟨b,us,h1,h2⟩ := lend_det h
    exact ⟨_,_,h1,fun K2 h3 => by simp only [lend,hH]; exact ⟨h0,h00,h2 _ h3⟩⟩
   ·exact h.elim
  case h_11 =>
   obtain ⟨h0,h⟩ := h
   obtain ⟨b,us,h1,h2⟩ := lend_det h
   refine ⟨_,_,h1,fun K2 h3 => ?_⟩
   simp only [lend]
   exact ⟨h0,h2 _ h3⟩
  all_goals
   obtain ⟨b,us,h1,h2⟩ := lend_det h
   exact ⟨_,_,h1,fun K2 h3 => by simp only [lend]; exact h2 _ h3⟩

theorem pcall_det {C : PC} {vs : List AV} {S : St} {K : AV → St → Prop} (h : pcall C vs S K) : ∃ r,K r S ∧ ∀ S2 K2,S2.heap = S.heap → K2 r S2 → pcall C vs S2 K2 := by
 unfold pcall at h
 obtain ⟨b,us,⟨x,h0,h1,h2⟩,h3⟩ := lend_det h
 cases b with
 | false => exact ⟨_,h2,fun S2 K2 he hk => by unfold pcall; rw [he]; exact h3 _ ⟨x,h0,h1,hk⟩⟩
 | true => exact ⟨_,h2.2,fun S2 K2 he hk => by unfold pcall; rw [he]; exact h3 _ ⟨x,h0,h1,h2.1,hk⟩⟩

theorem det1 : ∀ (o : Ins),o.cls = 1 → Det1 o := by
 intro o hc S K h
 cases o <;> simp only [Ins.cls] at hc <;> first | omega | skip
 case load1 x =>
  simp only [ex1] at h
  split at h
  case h_3 => exact h.elim
  case h_2 =>
   rename_i hx
   obtain ⟨v,hv,h⟩ := h
   refine ⟨_,h,fun S2 K2 he ha hk => ?_⟩
   simp only [ex1,AgreeOn.ev (x := x) ha,hx]
   exact ⟨v,hv,hk⟩
  case h_1 =>
   rename_i hx
   split at h
   case h_3 => exact h.elim
   all_goals
    rename_i hH
    obtain ⟨v,hv,h⟩ := h
    refine ⟨_,h,fun S2 K2 he ha hk => ?_⟩
    simp only [ex1,AgreeOn.ev (x := x) ha,hx,he,hH]
    exact ⟨v,hv,hk⟩
 case loadN sz x =>
  simp only [ex1] at h
  split at h
  case h_3 => exact h.elim
  case h_2 =>
   rename_i hx
   obtain ⟨h0,v,hv,h⟩ := h
   refine ⟨_,h,fun S2 K2 he ha hk => ?_⟩
   simp only [ex1,AgreeOn.ev (x := x) ha,hx]
   exact ⟨h0,v,hv,hk⟩
  case h_1 =>
   rename_i hx
   split at h
   case h_3 => exact h.elim
   all_goals
    rename_i hH
    obtain ⟨v,hv,h⟩ := h
    refine ⟨_,h,fun S2 K2 he ha hk => ?_⟩
    simp only [ex1,AgreeOn.ev (x := x) ha,hx,he,hH]
    exact ⟨v,hv,hk⟩
 case b2s x =>
  simp only [ex1] at h
  split at h
  case h_1 =>
   rename_i hx
   split at h
   case h_2 => exact h.elim
   rename_i hH
   obtain ⟨h0,v,hv,h⟩ := h
   refine ⟨_,h,fun S2 K2 he ha hk => ?_⟩
   simp only [ex1,AgreeOn.ev (x := x) ha,hx,he,hH]
   exact ⟨h0,v,hv,hk⟩
  case h_2 =>
   rename_i hx
   split at h
   case h_2 => exact h.elim
   rename_i hH
   obtain ⟨h0,v,hv,h⟩ := h
   refine ⟨_,h,fun S2 K2 he ha hk => ?_⟩
   simp only [ex1,AgreeOn.ev (x := x) ha,hx,he,hH]
   exact ⟨h0,v,hv,hk⟩
  case h_3 =>
   rename_i hx
   obtain ⟨h0,v,hv,h⟩ := h
   refine ⟨_,h,fun S2 K2 he ha hk => ?_⟩
   simp only [ex1,AgreeOn.ev (x := x) ha,hx]
   exact ⟨h0,v,hv,hk⟩
  case h_4 =>
   rename_i hx
   refine ⟨_,h,fun S2 K2 he ha hk => ?_⟩
   simp only [ex1,AgreeOn.ev (x := x) ha,hx]
   exact hk
  case h_5 => exact h.elim
 case idxL esz x i =>
  simp only [ex1] at h
  split at h
  case h_4 => exact h.elim
  case h_1 =>
   rename_i hx hy
   split at h
   case h_2 => exact h.elim
   rename_i hH
   refine ⟨_,h.2,fun S2 K2 he ha hk => ?_⟩
   simp only [ex1,ha.left.ev,ha.right.ev,hx,hy,he,hH]
   exact ⟨h.1,hk⟩
  all_goals
   rename_i hx hy
   refine ⟨_,h.2,fun S2 K2 he ha hk => ?_⟩
   simp only [ex1,ha.left.ev,ha.right.ev,hx,hy]
   exact ⟨h.1,hk⟩
 case slL esz x lo hi =>
  simp only [ex1] at h
  split at h
  case h_3 => exact h.elim
  case h_1 =>
   rename_i hx
   split at h
   case h_2 => exact h.elim
   rename_i hH
   obtain ⟨i,h,hb1⟩ := bnd_det h
   obtain ⟨j,⟨h0,h⟩,hb2⟩ := bnd_det h
   refine ⟨_,h,fun S2 K2 he ha hk => ?_⟩
   simp only [ex1,ha.left.left.ev,hx,he,hH,ha.left.right.bnd,ha.right.bnd]
   exact hb1 _ (hb2 _ ⟨h0,hk⟩)
  case h_2 =>
   rename_i hx
   obtain ⟨i,h,hb1⟩ := bnd_det h
   obtain ⟨j,⟨h0,h⟩,hb2⟩ := bnd_det h
   refine ⟨_,h,fun S2 K2 he ha hk => ?_⟩
   simp only [ex1,ha.left.left.ev,hx,ha.left.right.bnd,ha.right.bnd]
   exact hb1 _ (hb2 _ ⟨h0,hk⟩)
 case pcall C args =>
  simp only [ex1] at h
  split at h
  case h_2 => exact h.elim
  rename_i vs hx
  obtain ⟨r,h1,h2⟩ := pcall_det h
  refine ⟨r,h1,fun S2 K2 he ha hk => ?_⟩
  simp only [ex1,AgreeOn.evs (xs := args) ha,hx]
  exact h2 _ _ he hk
 case vcall Γ x args =>
  simp only [ex1] at h
  split at h
  case h_3 => exact h.elim
  case h_1 =>
   rename_i t caps vs hx hv
   split at h
   case h_2 => exact h.elim
   rename_i C hC
   obtain ⟨r,h1,h2⟩ := pcall_det h
   refine ⟨r,h1,fun S2 K2 he ha hk => ?_⟩
   simp only [ex1,ha.left.ev,AgreeOn.evs (xs := args) ha.right,hx,hv,hC]
   exact h2 _ _ he hk
  case h_2 =>
   rename_i R vs hx hv
   obtain ⟨C,hR,h⟩ := h
   obtain ⟨r,h1,h2⟩ := pcall_det h
   refine ⟨r,h1,fun S2 K2 he ha hk => ?_⟩
   simp only [ex1,ha.left.ev,AgreeOn.evs (xs := args) ha.right,hx,hv]
   exact ⟨C,hR,h2 _ _ he hk⟩
 case mlook one ks z ok x i =>
  simp only [ex1] at h
  split at h
  case h_3 => exact h.elim
  case h_1 =>
   rename_i hx hy
   split at h
   case h_2 => exact h.elim
   rename_i hH
   obtain ⟨M,hR,hko,r,hr,h⟩ := h
   refine ⟨_,h,fun S2 K2 he ha hk => ?_⟩
   simp only [ex1,ha.left.ev,ha.right.ev,hx,hy,he,hH]
   exact ⟨M,hR,hko,r,hr,hk⟩
  case h_2 =>
   rename_i hx hy
   obtain ⟨M,hR,hko,r,hr,h⟩ := h
   refine ⟨_,h,fun S2 K2 he ha hk => ?_⟩
   simp only [ex1,ha.left.ev,ha.right.ev,hx,hy]
   exact ⟨M,hR,hko,r,hr,hk⟩

theorem pcallF_det {C : FC} {vs : List AV} {S : St} {K : AV → St → Prop} (h : pcallF C vs S K) :
  ∃ r H n,K r { S with heap := H,next := n } ∧ ∀ (S2 : St) K2,S2.heap = S.heap → S2.next = S.next → K2 r { S2 with heap := H,next := n } → pcallF C vs S2 K2 := by
 unfold pcallF at h
 obtain ⟨b,us,⟨x,h0,h1,h2⟩,h3⟩ := lend_det h
 refine ⟨_,_,_,h2,fun S2 K2 e1 e2 hk => ?_⟩
 unfold pcallF
 rw [e1,e2]
 exact h3 _ ⟨x,h0,h1,hk⟩

theorem pcallB_det {C : BC} {vs : List AV} {S : St} {K : AV → St → Prop} (h : pcallB C vs S K) :
  ∃ r H n,K r { S with heap := H,next := n } ∧ ∀ (S2 : St) K2,S2.heap = S.heap → S2.next = S.next → K2 r { S2 with heap := H,next := n } → pcallB C vs S2 K2 := by
 unfold pcallB at h
 obtain ⟨b,us,h0,h3⟩ := lend_det h
 cases b with
 | true => exact h0.elim
 | false =>
  obtain ⟨x,h0,h1,h2⟩ := h0
  refine ⟨_,_,_,h2,fun S2 K2 e1 e2 hk => ?_⟩
  unfold pcallB
  rw [e1,e2]
  exact h3 _ ⟨x,h0,h1,hk⟩

theorem det2 : ∀ (o : Ins),Det2 o := by
 intro o
 by_cases h0 : o.cls = 0
 ·exact (det0 o h0).one.two
 by_cases h1 : o.cls = 1
 ·exact (det1 o h1).two
 intro S K h
 cases o <;> first | (exact absurd rfl h0) | (exact absurd rfl h1) | skip
 case alloc zs => exact ⟨_,_,_,h,fun S2 K2 e1 e2 _ hk => by simp only [ex1,e1,e2]; exact hk⟩
 case newb zs => exact ⟨_,_,_,h,fun S2 K2 e1 e2 _ hk => by simp only [ex1,e1,e2]; exact hk⟩
 case pcallB C args =>
  simp only [ex1] at h
  split at h
  case h_2 => exact h.elim
  rename_i vs hx
  obtain ⟨r,H,n,h1,h2⟩ := pcallB_det h
  refine ⟨r,H,n,h1,fun S2 K2 e1 e2 ha hk => ?_⟩
  simp only [ex1,AgreeOn.evs (xs := args) ha,hx]
  exact h2 _ _ e1 e2 hk
 case mkmap one ks => exact ⟨_,_,_,h,fun S2 K2 e1 e2 _ hk => by simp only [ex1,e1,e2]; exact hk⟩
 case mput one ks x k v =>
  simp only [ex1] at h
  split at h
  case h_2 => exact h.elim
  rename_i hx hk0 hv
  split at h
  case h_2 => exact h.elim
  rename_i hH
  obtain ⟨M,h0,h⟩ := h
  refine ⟨_,_,S.next,h,fun S2 K2 e1 e2 ha hk => ?_⟩
  simp only [ex1,ha.left.left.ev,ha.left.right.ev,ha.right.ev,hx,hk0,hv,e1,hH]
  rw [← e2] at hk
  exact ⟨M,h0,hk⟩
 case pcallF C args =>
  simp only [ex1] at h
  split at h
  case h_2 => exact h.elim
  rename_i vs hx
  obtain ⟨r,H,n,h1,h2⟩ := pcallF_det h
  refine ⟨r,H,n,h1,fun S2 K2 e1 e2 ha hk => ?_⟩
  simp only [ex1,AgreeOn.evs (xs := args) ha,hx]
  exact h2 _ _ e1 e2 hk
 case box x =>
  simp only [ex1] at h
  split at h
  case h_3 => exact h.elim
  case h_1 =>
   rename_i hx
   refine ⟨_,_,_,h,fun S2 K2 e1 e2 ha hk => ?_⟩
   simp only [ex1,e1,e2,AgreeOn.ev (x := x) ha,hx]
   exact hk
  case h_2 =>
   rename_i v hna hx
   split at h
   case h_2 => exact h.elim
   rename_i hv
   refine ⟨_,_,_,h,fun S2 K2 e1 e2 ha hk => ?_⟩
   simp only [ex1,e1,e2,AgreeOn.ev (x := x) ha,hx,hv]
   exact hk
 case bslice esz zs n ps =>
  simp only [ex1] at h
  split at h
  case h_2 => exact h.elim
  rename_i cs hcs
  refine ⟨_,_,_,h,fun S2 K2 e1 e2 ha hk => ?_⟩
  simp only [ex1,AgreeOn.fill (zs := repl n zs) ha,hcs,e1,e2]
  exact hk
 case stor1 p x =>
  simp only [ex1] at h
  split at h
  case h_2 => exact h.elim
  rename_i hp hx
  split at h
  case h_2 => exact h.elim
  rename_i hv
  split at h
  case h_3 => exact h.elim
  all_goals
   rename_i hH
   refine ⟨_,_,S.next,h.2,fun S2 K2 e1 e2 ha hk => ?_⟩
   simp only [ex1,ha.left.ev,ha.right.ev,hp,hx,hv,e1,hH]
   rw [← e2] at hk
   exact ⟨h.1,hk⟩
 case storN sz p x =>
  simp only [ex1] at h
  split at h
  case h_2 => exact h.elim
  rename_i hp hx
  obtain ⟨h0,h⟩ := h
  split at h
  case h_3 => exact h.elim
  all_goals
   rename_i hH
   obtain ⟨h00,l,hl,h⟩ := h
   refine ⟨_,_,S.next,h,fun S2 K2 e1 e2 ha hk => ?_⟩
   simp only [ex1,ha.left.ev,ha.right.ev,hp,hx,e1,hH]
   rw [← e2] at hk
   exact ⟨h0,h00,l,hl,hk⟩
 case s2b x =>
  simp only [ex1] at h
  split at h
  case h_2 => exact h.elim
  rename_i hx
  refine ⟨_,_,_,h,fun S2 K2 e1 e2 ha hk => ?_⟩
  simp only [ex1,e1,e2,AgreeOn.ev (x := x) ha,hx]
  exact hk
 case app esz bytes x y =>
  simp only [ex1] at h
  split at h
  case h_5 => exact h.elim
  case h_1 =>
   rename_i hx hy
   split at h
   case h_2 => exact h.elim
   rename_i hH hM
   obtain ⟨h0,l,hl,h⟩ := h
   refine ⟨_,_,_,h,fun S2 K2 e1 e2 ha hk => ?_⟩
   simp only [ex1,e1,e2,ha.left.ev,ha.right.ev,hx,hy,hH,hM]
   exact ⟨h0,l,hl,hk⟩
  case h_2 =>
   rename_i hx hy
   split at h
   case h_2 => exact h.elim
   rename_i hH hM
   obtain ⟨h0,l,hl,h⟩ := h
   refine ⟨_,_,_,h,fun S2 K2 e1 e2 ha hk => ?_⟩
   simp only [ex1,e1,e2,ha.left.ev,ha.right.ev,hx,hy,hH,hM]
   exact ⟨h0,l,hl,hk⟩
  all_goals
   rename_i hx hy
   split at h
   case h_2 => exact h.elim
   rename_i hH
   obtain ⟨h0,l,hl,h⟩ := h
   refine ⟨_,_,_,h,fun S2 K2 e1 e2 ha hk => ?_⟩
   simp only [ex1,e1,e2,ha.left.ev,ha.right.ev,hx,hy,hH]
   exact ⟨h0,l,hl,hk⟩
 case mksl esz bytes zs l c =>
  simp only [ex1] at h
  split at h
  case h_2 => exact h.elim
  rename_i hx hy
  obtain ⟨h0,l,hl,h⟩ := h
  refine ⟨_,_,_,h,fun S2 K2 e1 e2 ha hk => ?_⟩
  simp only [ex1,e1,e2,ha.left.ev,ha.right.ev,hx,hy]
  exact ⟨h0,l,hl,hk⟩

/-- The slots that an operation reads, its guard's among them. -/
def IOp.reads (o : IOp) : List Nat := o.io.reads ++ (match o.guard with | some (g,_) => [g] | none => [])

/-- Two operations that may change places. -/
def IOp.free (a b : IOp) : Bool :=
 (match a.dst with
  | some d => !b.reads.contains d && b.dst != some d
  | none => true) &&
 (match b.dst with
  | some d => !a.reads.contains d
  | none => true) &&
 (a.io.cls == 0 || b.io.cls == 0 || (a.io.cls == 1 && b.io.cls == 1))

/-- What an operation did: its result, and the memory behind it. -/
theorem exO_det (o : IOp) (S : St) (K : St → Prop) (h : exO o S K) : ∃ r H n,K (({ S with heap := H,next := n } : St).set o.dst r) ∧
  (o.io.cls ≠ 2 → H = S.heap ∧ n = S.next) ∧
  ∀ (S2 : St) (K2 : St → Prop),(o.io.cls ≠ 0 → S2.heap = S.heap) → (o.io.cls = 2 → S2.next = S.next) → AgreeOn o.reads S S2 →
   K2 (({ S2 with heap := if o.io.cls = 2 then H else S2.heap,next := if o.io.cls = 2 then n else S2.next } : St).set o.dst r) → exO o S2 K2 := by
 have run : ∀ K : St → Prop,ex1 o.io S (fun r S' => K (S'.set o.dst r)) → ∃ r H n,K (({ S with heap := H,next := n } : St).set o.dst r) ∧ (o.io.cls ≠ 2 → H = S.heap ∧ n = S.next) ∧
   ∀ (S2 : St) (K2 : St → Prop),(o.io.cls ≠ 0 → S2.heap = S.heap) → (o.io.cls = 2 → S2.next = S.next) → AgreeOn o.io.reads S S2 →
    K2 (({ S2 with heap := if o.io.cls = 2 then H else S2.heap,next := if o.io.cls = 2 then n else S2.next } : St).set o.dst r) → ex1 o.io S2 (fun r S' => K2 (S'.set o.dst r)) := by
  intro K h
  by_cases h0 : o.io.cls = 0
  ·obtain ⟨r,h1,h2⟩ := det0 o.io h0 S _ h
   refine ⟨r,S.heap,S.next,h1,fun _ => ⟨rfl,rfl⟩,fun S2 K2 _ _ ha hk => h2 S2 _ ha ?_⟩
   simpa [h0] using hk
  ·by_cases h1 : o.io.cls = 1
   ·obtain ⟨r,h3,h2⟩ := det1 o.io h1 S _ h
    refine ⟨r,S.heap,S.next,h3,fun _ => ⟨rfl,rfl⟩,fun S2 K2 he _ ha hk => h2 S2 _ (he h0) ha ?_⟩
    simpa [h1] using hk
   ·have hc2 : o.io.cls = 2 := by
     have : o.io.cls ≤ 2 := by cases o.io <;> simp [Ins.cls]
     omega
    obtain ⟨r,H,n,h3,h2⟩ := det2 o.io S _ h
    refine ⟨r,H,n,h3,fun hn => absurd hc2 hn,fun S2 K2 he hn ha hk => h2 S2 _ (he h0) (hn hc2) ha ?_⟩
    simpa [hc2] using hk
 have skip : ∀ K : St → Prop,K (S.set o.dst (.raw undef)) → ∃ r H n,K (({ S with heap := H,next := n } : St).set o.dst r) ∧ (o.io.cls ≠ 2 → H = S.heap ∧ n = S.next) ∧ H = S.heap ∧ n = S.next ∧ r = .raw undef := by
  intro K h
  exact ⟨_,S.heap,S.next,h,fun _ => ⟨rfl,rfl⟩,rfl,rfl,rfl⟩
 have skipped : ∀ (S2 : St) (K2 : St → Prop),(o.io.cls ≠ 0 → S2.heap = S.heap) → (o.io.cls = 2 → S2.next = S.next) →
   K2 (({ S2 with heap := if o.io.cls = 2 then S.heap else S2.heap,next := if o.io.cls = 2 then S.next else S2.next } : St).set o.dst (.raw undef)) → K2 (S2.set o.dst (.raw undef)) := by
  intro S2 K2 e1 e2 hk
  by_cases hc : o.io.cls = 2
  ·simp only [hc,if_true] at hk
   rw [← e1 (by omega),← e2 hc] at hk
   exact hk
  ·simp only [hc,if_false] at hk
   exact hk
 unfold exO at h
 split at h
 ·rename_i hg
  obtain ⟨r,H,n,h1,h2,h3⟩ := run K h
  refine ⟨r,H,n,h1,h2,fun S2 K2 e1 e2 ha hk => ?_⟩
  unfold exO
  rw [hg]
  exact h3 S2 K2 e1 e2 ha.left hk
 ·rename_i g want hg
  have hgr : ∀ S2,AgreeOn o.reads S S2 → S2.env g = S.env g ∧ AgreeOn o.io.reads S S2 := fun S2 ha => ⟨ha g (by simp [IOp.reads,hg]),ha.left⟩
  split at h
  ·rename_i b hb
   cases want <;> cases b <;> simp only [cond_true,cond_false] at h
   ·obtain ⟨r,H,n,h1,h2,h3⟩ := run K h
    refine ⟨r,H,n,h1,h2,fun S2 K2 e1 e2 ha hk => ?_⟩
    obtain ⟨g1,g2⟩ := hgr S2 ha
    unfold exO
    rw [hg]
    simp only [g1,hb,cond_false]
    exact h3 S2 K2 e1 e2 g2 hk
   ·obtain ⟨r,H,n,h1,h2,rfl,rfl,rfl⟩ := skip K h
    refine ⟨_,_,_,h1,h2,fun S2 K2 e1 e2 ha hk => ?_⟩
    obtain ⟨g1,g2⟩ := hgr S2 ha
    unfold exO
    rw [hg]
    simp only [g1,hb,cond_true]
    exact skipped S2 K2 e1 e2 hk
   ·obtain ⟨r,H,n,h1,h2,rfl,rfl,rfl⟩ := skip K h
    refine ⟨_,_,_,h1,h2,fun S2 K2 e1 e2 ha hk => ?_⟩
    obtain ⟨g1,g2⟩ := hgr S2 ha
    unfold exO
    rw [hg]
    simp only [g1,hb,cond_false]
    exact skipped S2 K2 e1 e2 hk
   ·obtain ⟨r,H,n,h1,h2,h3⟩ := run K h
    refine ⟨r,H,n,h1,h2,fun S2 K2 e1 e2 ha hk => ?_⟩
    obtain ⟨g1,g2⟩ := hgr S2 ha
    unfold exO
    rw [hg]
    simp only [g1,hb,cond_true]
    exact h3 S2 K2 e1 e2 g2 hk
  ·rename_i hb
   obtain ⟨r,H,n,h1,h2,rfl,rfl,rfl⟩ := skip K h
   refine ⟨_,_,_,h1,h2,fun S2 K2 e1 e2 ha hk => ?_⟩
   obtain ⟨g1,g2⟩ := hgr S2 ha
   unfold exO
   rw [hg]
   simp only [g1,hb]
   exact skipped S2 K2 e1 e2 hk
  ·exact h.elim

theorem agree_set {l : List Nat} {S : St} {d : Option Nat} {v : AV} {H : Nat → Option AO} {n : Nat} (h : ∀ k,d = some k → k ∉ l) : AgreeOn l S (({ S with heap := H,next := n } : St).set d v) := by
 intro k hk
 cases d with
 | none => rfl
 | some d =>
  simp only [St.set]
  exact upd_ne _ _ (fun e => h d rfl (e ▸ hk))

theorem upd_comm {α : Type} (f : Nat → Option α) {j k : Nat} (u v : Option α) (h : j ≠ k) : upd (upd f j u) k v = upd (upd f k v) j u := by
 funext n
 by_cases h1 : n = j
 ·subst h1; rw [upd_ne _ _ h,upd_same,upd_same]
 ·by_cases h2 : n = k
  ·subst h2; rw [upd_same,upd_ne _ _ h1,upd_same]
  ·rw [upd_ne _ _ h2,upd_ne _ _ h1,upd_ne _ _ h1,upd_ne _ _ h2]

theorem St.ext {A B : St} (h1 : A.env = B.env) (h2 : A.heap = B.heap) (h3 : A.next = B.next) : A = B := by
 cases A; cases B; simp only at h1 h2 h3; subst h1; subst h2; subst h3; rfl

/-- Two free operations change places. -/
theorem exO_swap {a b : IOp} (hf : a.free b = true) {S : St} {K : St → Prop} (h : exO a S (fun S' => exO b S' K)) : exO b S (fun S' => exO a S' K) := by
 simp only [IOp.free,Bool.and_eq_true] at hf
 obtain ⟨⟨f1,f2⟩,f3⟩ := hf
 have d1 : ∀ d,a.dst = some d → d ∉ b.reads ∧ b.dst ≠ some d := by
  intro d hd
  rw [hd] at f1
  simp at f1
  exact f1
 have d2 : ∀ d,b.dst = some d → d ∉ a.reads := by
  intro d hd
  rw [hd] at f2
  simpa using f2
 obtain ⟨ra,Ha,na,h1,qa,ha⟩ := exO_det a S _ h
 obtain ⟨rb,Hb,nb,h2,qb,hb⟩ := exO_det b _ _ h1
 have hcl : a.io.cls = 0 ∨ b.io.cls = 0 ∨ (a.io.cls = 1 ∧ b.io.cls = 1) := by
  simp only [Bool.or_eq_true,beq_iff_eq,Bool.and_eq_true] at f3
  omega
 have ca : a.io.cls ≤ 2 := by cases a.io <;> simp [Ins.cls]
 have cb : b.io.cls ≤ 2 := by cases b.io <;> simp [Ins.cls]
 have agb : AgreeOn b.reads (({ S with heap := Ha,next := na } : St).set a.dst ra) S := by
  intro k hk
  exact (agree_set (S := S) (d := a.dst) (v := ra) (H := Ha) (n := na) (fun k hk => (d1 k hk).1) k hk).symm
 have hset : ∀ (S : St) (d : Option Nat) (v : AV),(S.set d v).heap = S.heap ∧ (S.set d v).next = S.next := by intro S d v; cases d <;> exact ⟨rfl,rfl⟩
 -- b first
 refine hb S _ ?_ ?_ agb ?_
 ·intro hn
  rw [(hset _ _ _).1]
  by_cases h2' : a.io.cls = 2
  ·omega
  ·exact (qa h2').1.symm
 ·intro hn
  rw [(hset _ _ _).2]
  by_cases h2' : a.io.cls = 2
  ·omega
  ·exact (qa h2').2.symm
 -- then a
 ·refine ha _ _ ?_ ?_ (agree_set (fun k hk => d2 k hk)) ?_
  ·intro hn
   rw [(hset _ _ _).1]
   by_cases h2' : b.io.cls = 2
   ·omega
   ·simp [h2']
  ·intro hn
   rw [(hset _ _ _).2]
   by_cases h2' : b.io.cls = 2
   ·omega
   ·simp [h2']
  ·-- the two ends are one
   have qb' : b.io.cls ≠ 2 → Hb = Ha ∧ nb = na := by
    intro hn
    have := qb hn
    rw [(hset _ _ _).1,(hset _ _ _).2] at this
    exact this
   have e : (({ (({ S with heap := Ha,next := na } : St).set a.dst ra) with heap := Hb,next := nb } : St)).set b.dst rb =
     ({ (({ S with heap := if b.io.cls = 2 then Hb else S.heap,next := if b.io.cls = 2 then nb else S.next } : St).set b.dst rb) with
         heap := if a.io.cls = 2 then Ha else (({ S with heap := if b.io.cls = 2 then Hb else S.heap,next := if b.io.cls = 2 then nb else S.next } : St).set b.dst rb).heap,
         next := if a.io.cls = 2 then na else (({ S with heap := if b.io.cls = 2 then Hb else S.heap,next := if b.io.cls = 2 then nb else S.next } : St).set b.dst rb).next } : St).set a.dst ra := by
    apply St.ext
    ·cases hda : a.dst with
     | none => cases hdb : b.dst <;> rfl
     | some da =>
      cases hdb : b.dst with
      | none => rfl
      | some db =>
       simp only [St.set]
       rw [upd_comm]
       intro e
       exact (d1 da hda).2 (by rw [hdb,e])
    ·rw [(hset _ _ _).1,(hset _ _ _).1,(hset _ _ _).1]
     by_cases ha2 : a.io.cls = 2
     ·simp only [ha2,if_true]
      exact (qb' (by omega)).1
     ·simp only [ha2,if_false]
      by_cases hb2 : b.io.cls = 2
      ·simp only [hb2,if_true]
      ·simp only [hb2,if_false]
       rw [(qb' hb2).1,(qa ha2).1]
    ·rw [(hset _ _ _).2,(hset _ _ _).2,(hset _ _ _).2]
     by_cases ha2 : a.io.cls = 2
     ·simp only [ha2,if_true]
      exact (qb' (by omega)).2
     ·simp only [ha2,if_false]
      by_cases hb2 : b.io.cls = 2
      ·simp only [hb2,if_true]
      ·simp only [hb2,if_false]
       rw [(qb' hb2).2,(qa ha2).2]
   rw [← e]
   exact h2

end Qk

/-
  Calls; regions, in whatever order their operations are drawn.
-/
namespace Qk
open Go Go.RowKit

/-- The fence of an activation: the whole program; a round of the loop whose record is R. -/
def FR (R : Option Nat) : Fence := { Fence.wide with round := R }

/-- The mark that a range over a function leaves among the deferred calls. -/
def mark (b : Nat) : Deferred := { target := .collected b,args := #[] }

/-- Names that keep their meaning: those of the callers. -/
structure Fl where
 m : Nat
 nm : Nm
 lt : ∀ n x,nm n = some x → n < m
def Fl.free : Fl := ⟨0,fun _ => none,fun _ _ h => by cases h⟩

/-- A later base: what the earlier one protects lies as it lay. -/
structure Ext (B : Nat) (X : Nat → Prop) (w0 : World) (B1 : Nat) (X1 : Nat → Prop) (w1 : World) : Prop where
 le : B ≤ B1
 fr : ∀ k,k < B → ¬ X k → ¬ X1 k ∧ w1.heap[k]? = w0.heap[k]?
 x : ∀ k,X1 k → k < B → X k
 os : w1.os = w0.os
 tape : w1.tape = w0.tape
 output : w1.output = w0.output
 size : w0.heap.size ≤ w1.heap.size

theorem Ext.refl (B : Nat) (X : Nat → Prop) (w0 : World) : Ext B X w0 B X w0 := ⟨Nat.le_refl _,fun _ _ h => ⟨h,rfl⟩,fun _ h _ => h,rfl,rfl,rfl,Nat.le_refl _⟩
theorem Ext.trans {B : Nat} {X : Nat → Prop} {w0 : World} {B1 : Nat} {X1 : Nat → Prop} {w1 : World} {B2 : Nat} {X2 : Nat → Prop} {w2 : World}
  (h : Ext B X w0 B1 X1 w1) (k : Ext B1 X1 w1 B2 X2 w2) : Ext B X w0 B2 X2 w2 where
 le := Nat.le_trans h.le k.le
 fr := fun i hi hx => by
  obtain ⟨a,b⟩ := h.fr i hi hx
  obtain ⟨c,d⟩ := k.fr i (Nat.lt_of_lt_of_le hi h.le) a
  exact ⟨c,d.trans b⟩
 x := fun i hi hb => h.x i (k.x i hi (Nat.lt_of_lt_of_le hb h.le)) hb
 os := k.os.trans h.os
 tape := k.tape.trans h.tape
 output := k.output.trans h.output
 size := Nat.le_trans h.size k.size

/-- Behind the base: it protects no less than the one before. -/
theorem Wf.back {G : Gl} {B : Nat} {X : Nat → Prop} {w0 : World} {B1 : Nat} {X1 : Nat → Prop} {w1 : World} {ρ : Nm} {Φ : Phi} {H : Nat → Option AO} {nx : Nat} {w : World}
  (h : Wf G B1 X1 w1 ρ Φ H nx w) (e : Ext B X w0 B1 X1 w1) : Wf G B X w0 ρ Φ H nx w where
 os := h.os.trans e.os
 tape := h.tape.trans e.tape
 output := h.output.trans e.output
 size := Nat.le_trans e.size h.size
 base := Nat.le_trans e.le h.base
 frame := fun k hk hx => (h.frame k (Nat.lt_of_lt_of_le hk e.le) (e.fr k hk hx).1).trans (e.fr k hk hx).2
 phi := h.phi
 gb := h.gb
 dom := h.dom
 objs := fun n o eq => by
  obtain ⟨hd,h1,h2,h3⟩ := h.objs n o eq
  refine ⟨hd,h1,h2,fun b hb => ?_⟩
  obtain ⟨a1,a2,a3⟩ := h3 b hb
  refine ⟨?_,a2,a3⟩
  by_cases hB : B ≤ b
  ·exact .inl hB
  ·rcases a1 with a1 | a1
   ·exact .inl (Nat.le_trans e.le a1)
   ·exact .inr (e.x b a1 (by omega))
 disj := h.disj

structure Sd (B : Nat) (X : Nat → Prop) (w0 : World) (D : Fl) (B1 : Nat) (X1 : Nat → Prop) (w1 : World) (ρ : Nm) (Φ : Phi) (ds : List Deferred) : Prop where
 ext : Ext B X w0 B1 X1 w1
 bs : B1 ≤ w1.heap.size
 nm : NmLe D.nm ρ
 marks : ∃ ms : List Nat,ds = ms.map mark ∧ ms.Nodup ∧ ∀ b ∈ ms,B ≤ b ∧ b < B1 ∧ ¬ X1 b ∧ w1.heap[b]? = some (.deferred (some [])) ∧ Φ b = none

theorem Sd.le {B : Nat} {X : Nat → Prop} {w0 : World} {D : Fl} {B1 : Nat} {X1 : Nat → Prop} {w1 : World} {ρ ρ' : Nm} {Φ Φ' : Phi} {ds : List Deferred} (h : Sd B X w0 D B1 X1 w1 ρ Φ ds) (k : NmLe ρ ρ') (hn : ∀ b o,Φ' b = some o → Φ b = some o ∨ B1 ≤ b) : Sd B X w0 D B1 X1 w1 ρ' Φ' ds := by
 refine ⟨h.ext,h.bs,h.nm.trans k,?_⟩
 obtain ⟨ms,h1,h2,h3⟩ := h.marks
 refine ⟨ms,h1,h2,fun b hb => ?_⟩
 obtain ⟨q1,q2,q3,q4,q5⟩ := h3 b hb
 refine ⟨q1,q2,q3,q4,?_⟩
 cases e : Φ' b with
 | none => rfl
 | some o =>
  rcases hn b o e with h4 | h4
  ·rw [q5] at h4; cases h4
  ·omega

/-- The frame and the world stand to the abstract state. -/
def At (G : Gl) (B : Nat) (X : Nat → Prop) (Φ0 : Phi) (w0 : World) (N : Nat) (D : Fl) (S : St) (a : Act) (w : World) : Prop :=
 ∃ B1 X1 w1 ρ Φ,a.tmps.size = N ∧ Sd B X w0 D B1 X1 w1 ρ Φ a.defers ∧ PhiLe Φ0 Φ ∧ (∀ b o,Φ b = some o → Φ0 b = some o ∨ B ≤ b) ∧ EnvRel G Φ ρ S.env a ∧ Wf G B1 X1 w1 ρ Φ S.heap S.next w

/-- Where no deferred call can be written. -/
theorem wpIn_of_wp {R : Option Nat} {n : Nat} {P : Program} {o : Oper} {a : Act} {w : World} {next : Act → World → Prop} {Q : Exit → Act → World → Prop} (hnd : ∀ c,o.op ≠ .defer c) (h : o.wp P a w next Q) :
  o.wpIn (FR R) n P a w next Q := by
 refine ⟨fun _ _ => trivial,?_⟩
 rw [Oper.semAt_eq _ _ _ hnd]
 unfold Oper.wp at h
 generalize (execOp a.eval o).run P w = r at *
 have hnone : (FR R).depth.isSome = true → 1 ≤ n := fun e => by cases e
 unfold Oper.upon at h
 split at h
 ·exact h
 ·exact h
 ·exact h
 ·exact ⟨hnone,callsIn_wide.2 h⟩
 ·refine ⟨hnone,fun c cs _ => ?_⟩
  obtain ⟨v,w',r1,s1⟩ := h c cs
  exact ⟨v,w',r1,stepsIn_wide.2 s1⟩
 ·exact h
 ·exact h.elim

section calls
variable {G : Gl} {B : Nat} {X : Nat → Prop} {w0 : World} {ρ : Nm} {Φ : Phi} {H : Nat → Option AO} {nx : Nat} {w : World}

/-- Behind a call that turned nothing that was there. -/
theorem Wf0.below (h : Wf0 G B X w0 ρ Φ H w) {w' : World} {Φ' : Phi} (hb : Below w.heap.size w w') (hle : PhiLe Φ Φ') (hphi : ∀ b o,Φ' b = some o → w'.heap[b]? = some o)
  (hnew : ∀ b o,Φ' b = some o → Φ b = some o ∨ w.heap.size ≤ b) : Wf0 G B X w0 ρ Φ' H w' where
 os := hb.os.trans h.os
 tape := hb.tape.trans h.tape
 output := hb.output.trans h.output
 size := Nat.le_trans h.size hb.size
 base := Nat.le_trans h.base hb.size
 frame := fun k hk hx => by
  have := h.base
  rw [hb.block k (by omega)]; exact h.frame k hk hx
 phi := hphi
 gb := G.mono _ _ hle h.gb
 objs := fun n o e => by
  obtain ⟨hd,h1,h2,h3⟩ := h.objs n o e
  refine ⟨hd,h1,ORep.mono hle (NmLe.refl _) hphi (fun b hbf => hb.block b (h3 b hbf).2.2) h2,fun b hbf => ?_⟩
  obtain ⟨a1,a2,a3⟩ := h3 b hbf
  refine ⟨a1,?_,Nat.lt_of_lt_of_le a3 hb.size⟩
  cases e2 : Φ' b with
  | none => rfl
  | some o' =>
   rcases hnew b o' e2 with h4 | h4
   ·rw [a2] at h4; cases h4
   ·omega
 disj := h.disj

theorem Wf.below (h : Wf G B X w0 ρ Φ H nx w) {w' : World} {Φ' : Phi} (hb : Below w.heap.size w w') (hle : PhiLe Φ Φ') (hphi : ∀ b o,Φ' b = some o → w'.heap[b]? = some o)
  (hnew : ∀ b o,Φ' b = some o → Φ b = some o ∨ w.heap.size ≤ b) : Wf G B X w0 ρ Φ' H nx w' := (h.zero.below hb hle hphi hnew).up h.dom

/-- New memory of a callee passes to the next name. -/
theorem Wf0.adopt (h : Wf0 G B X w0 ρ Φ H w) (hfr : ρ nx = none) {M : Nat} (hB : B ≤ M) (hold : ∀ n o,H n = some o → ∃ hd,ρ n = some hd ∧ ∀ b ∈ hd.fp,b < M) (hphi : ∀ b o,Φ b = some o → b < M)
  {esz n : Nat} {cs : List AV} {v : Value} (hv : FreshL G esz n cs M w v) :
  ∃ ρ',NmTo nx (nx + 1) ρ ρ' ∧ Wf0 G B X w0 ρ' Φ (upd H nx (some (.ls false esz cs))) w ∧ Rep G Φ (.sl nx 0 n) ρ' v := by
 have key : ∃ hd : Hd,(∀ b ∈ hd.fp,M ≤ b ∧ b < w.heap.size) ∧ (∀ ρ',ORep G Φ ρ' w hd (.ls false esz cs)) ∧ SlRep hd 0 n v := by
  rcases hv with ⟨rfl,rfl,rfl⟩ | ⟨b,C,ty,fr,cap,rfl,h1,h2,h3,h4,h5,h6,h7⟩
  ·exact ⟨⟨0,esz,0,true,undef,[]⟩,(fun b hb => by cases hb),fun ρ' => ⟨⟨rfl,.inl ⟨rfl,rfl,rfl⟩⟩,TyIf.no _ _ _⟩,.inl ⟨rfl,rfl,rfl,rfl⟩⟩
  ·refine ⟨⟨b,esz,cap,false,undef,[b]⟩,?_,fun ρ' => ⟨⟨rfl,.inr ⟨rfl,rfl,C,ty,fr,h2,h3,h4,h6,?_⟩⟩,TyIf.no _ _ _⟩,.inr ⟨rfl,by simpa using h5,.inl (by simp)⟩⟩
   ·intro b' hb'
    simp at hb'
    subst hb'
    exact ⟨h1,(Array.getElem?_eq_some_iff.1 h2).1⟩
   ·exact RepAt.mono (fun _ _ e => by cases e) _ (fun _ _ e => by cases e) h7
 obtain ⟨hd,k1,k2,k3⟩ := key
 have hle := NmLe.upd hfr hd
 refine ⟨upd ρ nx (some hd),NmTo.new hfr hd,⟨h.os,h.tape,h.output,h.size,h.base,h.frame,h.phi,h.gb,?_,?_⟩,?_⟩
 ·intro m o e
  by_cases hm : m = nx
  ·subst hm
   rw [upd_same] at e; cases e
   refine ⟨hd,upd_same _ _ _,k2 _,fun b hb => ⟨.inl (Nat.le_trans hB (k1 b hb).1),?_,(k1 b hb).2⟩⟩
   cases e2 : Φ b with
   | none => rfl
   | some o => have := hphi b o e2; have := (k1 b hb).1; omega
  ·rw [upd_ne _ _ hm] at e
   obtain ⟨x,h1,h2,h3⟩ := h.objs m o e
   exact ⟨x,by rw [upd_ne _ _ hm]; exact h1,ORep.mono (PhiLe.refl _) hle h.phi (fun _ _ => rfl) h2,h3⟩
 ·intro i m x y him e1 e2 e3 e4
  have low : ∀ k z,k ≠ nx → upd H nx (some (.ls false esz cs)) k ≠ none → upd ρ nx (some hd) k = some z → (∀ b ∈ z.fp,b < M) ∧ H k ≠ none ∧ ρ k = some z := by
   intro k z hk a1 a2
   rw [upd_ne _ _ hk] at a1 a2
   cases e : H k with
   | none => exact absurd e a1
   | some o =>
    obtain ⟨z',h3,h5⟩ := hold k o e
    rw [a2] at h3; cases h3
    exact ⟨h5,by simp,a2⟩
  by_cases hi : i = nx
  ·subst hi
   rw [upd_same] at e3; cases e3
   have := (low m y (by omega) e2 e4).1
   intro b hb hb2
   have h8 := (k1 b hb).1
   have := this b hb2
   omega
  ·by_cases hm : m = nx
   ·subst hm
    rw [upd_same] at e4; cases e4
    have := (low i x hi e1 e3).1
    intro b hb hb2
    have h8 := (k1 b hb2).1
    have := this b hb
    omega
   ·obtain ⟨_,a1,a2⟩ := low i x hi e1 e3
    obtain ⟨_,c1,c2⟩ := low m y hm e2 e4
    exact h.disj i m x y him a1 c1 a2 c2
 ·simp only [Rep]
  exact ⟨hd,upd_same _ _ _,k3⟩

/-- A new block of cells passes to the next name. -/
theorem Wf0.adoptC (h : Wf0 G B X w0 ρ Φ H w) (hfr : ρ nx = none) {M b : Nat} (hB : B ≤ M) (hold : ∀ n o,H n = some o → ∃ hd,ρ n = some hd ∧ ∀ b ∈ hd.fp,b < M) (hb : M ≤ b) (hΦ : Φ b = none)
  {cs : List AV} {C : Array Value} {ty : TypeId} {fr : Nat × Nat} (h2 : w.heap[b]? = some (.cells C ty fr)) (h3 : C.size = cs.length) (h4 : unfrozen fr C.size) (h7 : RepAt G Φ cs (fun _ => none) C 0) :
  ∃ ρ',NmTo nx (nx + 1) ρ ρ' ∧ Wf0 G B X w0 ρ' Φ (upd H nx (some (.cl false cs))) w ∧ Rep G Φ (.ref nx 0) ρ' (.pointer (some ⟨b,0,none⟩)) := by
 let hd : Hd := ⟨b,0,0,false,undef,[b]⟩
 have hlt : b < w.heap.size := (Array.getElem?_eq_some_iff.1 h2).1
 have k2 : ∀ ρ',ORep G Φ ρ' w hd (.cl false cs) := fun ρ' => ⟨⟨rfl,C,ty,fr,h2,h3,h4,RepAt.mono (PhiLe.refl _) _ (fun _ _ e => by cases e) h7⟩,fun e => by cases e⟩
 have hle := NmLe.upd hfr hd
 refine ⟨upd ρ nx (some hd),NmTo.new hfr hd,⟨h.os,h.tape,h.output,h.size,h.base,h.frame,h.phi,h.gb,?_,?_⟩,?_⟩
 ·intro m o e
  by_cases hm : m = nx
  ·subst hm
   rw [upd_same] at e; cases e
   refine ⟨hd,upd_same _ _ _,k2 _,fun b' hb' => ?_⟩
   simp [hd] at hb'
   subst hb'
   exact ⟨.inl (Nat.le_trans hB hb),hΦ,hlt⟩
  ·rw [upd_ne _ _ hm] at e
   obtain ⟨x,h1,h2,h3⟩ := h.objs m o e
   exact ⟨x,by rw [upd_ne _ _ hm]; exact h1,ORep.mono (PhiLe.refl _) hle h.phi (fun _ _ => rfl) h2,h3⟩
 ·intro i m x y him e1 e2 e3 e4
  have low : ∀ k z,k ≠ nx → upd H nx (some (.cl false cs)) k ≠ none → upd ρ nx (some hd) k = some z → (∀ b ∈ z.fp,b < M) ∧ H k ≠ none ∧ ρ k = some z := by
   intro k z hk a1 a2
   rw [upd_ne _ _ hk] at a1 a2
   cases e : H k with
   | none => exact absurd e a1
   | some o =>
    obtain ⟨z',h3,h5⟩ := hold k o e
    rw [a2] at h3; cases h3
    exact ⟨h5,by simp,a2⟩
  by_cases hi : i = nx
  ·subst hi
   rw [upd_same] at e3; cases e3
   have := (low m y (by omega) e2 e4).1
   intro b' hb' hb2
   simp [hd] at hb'
   subst hb'
   have := this _ hb2
   omega
  ·by_cases hm : m = nx
   ·subst hm
    rw [upd_same] at e4; cases e4
    have := (low i x hi e1 e3).1
    intro b' hb' hb2
    simp [hd] at hb2
    subst hb2
    have := this _ hb'
    omega
   ·obtain ⟨_,a1,a2⟩ := low i x hi e1 e3
    obtain ⟨_,c1,c2⟩ := low m y hm e2 e4
    exact h.disj i m x y him a1 c1 a2 c2
 ·simp only [Rep]
  exact ⟨hd,upd_same _ _ _,rfl⟩

/-- All that is in memory. -/
def memPhi (w : World) : Phi := fun b => w.heap[b]?

theorem Wf0.memLe (h : Wf0 G B X w0 ρ Φ H w) : PhiLe Φ (memPhi w) := fun b o e => h.phi b o e

theorem lend_ok (hw : Wf0 G B X w0 ρ Φ H w) : ∀ {vs : List AV} {K : Bool → List AV → Prop} {A : Array Value} {i : Nat},lend H vs K → RepAt G Φ vs ρ A i →
  ∃ b us,K b us ∧ us.length = vs.length ∧ (b = false → RepAt G Φ us (fun _ => none) A i) ∧ RepAt G (memPhi w) us (fun _ => none) A i := by
 intro vs
 induction vs with
 | nil => intro K A i h _; exact ⟨false,[],h,rfl,fun _ => by simp [RepAt],by simp [RepAt]⟩
 | cons v r ih =>
  intro K A i h hr
  simp only [RepAt] at hr
  obtain ⟨⟨x,hx,hv⟩,hr⟩ := hr
  -- a value that is passed as it stands
  have plain : ∀ (v' : AV),(∀ b us,K b (v' :: us) → K b (v' :: us)) → Rep G Φ v' (fun _ => none) x → lend H r (fun b vs => K b (v' :: vs)) →
    ∃ b us,K b us ∧ us.length = (v :: r).length ∧ (b = false → RepAt G Φ us (fun _ => none) A i) ∧ RepAt G (memPhi w) us (fun _ => none) A i := by
   intro v' _ hv' hl
   obtain ⟨b,us,h1,h2,h3,h4⟩ := ih hl hr
   refine ⟨b,v' :: us,h1,by simp [h2],fun hb => ?_,?_⟩
   ·simp only [RepAt]; exact ⟨⟨x,hx,hv'⟩,h3 hb⟩
   ·simp only [RepAt]; exact ⟨⟨x,hx,Rep.mono hw.memLe v' (NmLe.refl _) hv'⟩,h4⟩
  -- a value that is lent
  have lent : ∀ (v' : AV),Rep G (memPhi w) v' (fun _ => none) x → lend H r (fun _ vs => K true (v' :: vs)) →
    ∃ b us,K b us ∧ us.length = (v :: r).length ∧ (b = false → RepAt G Φ us (fun _ => none) A i) ∧ RepAt G (memPhi w) us (fun _ => none) A i := by
   intro v' hv' hl
   obtain ⟨b,us,h1,h2,_,h4⟩ := ih hl hr
   refine ⟨true,v' :: us,h1,by simp [h2],(fun hb => by cases hb),?_⟩
   simp only [RepAt]; exact ⟨⟨x,hx,hv'⟩,h4⟩
  simp only [lend] at h
  split at h
  case h_1 n off =>
   split at h
   case h_2 => exact h.elim
   rename_i cs hH
   obtain ⟨hnn,h⟩ := h
   simp only [Rep] at hv
   obtain ⟨hd,hρ,rfl⟩ := hv
   obtain ⟨_,C,ty,fr,h2,h3,h4,h5⟩ := hw.cellsAt hH hρ
   refine lent _ ?_ h
   simp only [Rep]
   exact ⟨hd.b,0,C,ty,fr,by simp,h2,hnn _ _ _ _ _ _ (RepAt.mono hw.memLe _ (NmLe.refl _) h5)⟩
  case h_2 n off len =>
   split at h
   case h_2 => exact h.elim
   rename_i esz cs hH
   obtain ⟨hfit,hnn,h⟩ := h
   simp only [Rep] at hv
   obtain ⟨hd,hρ,hv⟩ := hv
   obtain ⟨h5,h6⟩ := hw.lstAt hH hρ
   have hl : ((cs.drop (off * esz)).take (len * esz)).length = len * esz := by rw [Nat.add_mul] at hfit; simp; omega
   refine lent _ ?_ h
   simp only [Rep]
   refine ⟨hl,?_⟩
   rcases hv with ⟨y1,y2,y3,y4⟩ | ⟨y1,y2,y3⟩
   ·subst y3; exact ⟨none,0,Nat.le_refl _,y4,.inl (by simp)⟩
   ·rcases h6 with h6 | ⟨_,_,C,ty,fr,h6,h7,h8,h9,h10⟩
    ·rw [y1] at h6; cases h6.1
    ·rcases y3 with y3 | ⟨y5,y6,ad,c,y7⟩
     ·refine ⟨_,_,by omega,y3,.inr ⟨hd.b,off * esz,C,ty,fr,by rw [h5],h6,?_⟩⟩
      have := RepAt.sub (hnn _ _ _ _ _ _ (RepAt.mono hw.memLe _ (NmLe.refl _) h10)) (ρ := fun _ => none) (off * esz) (len * esz)
      simpa using this
     ·subst y6; exact ⟨some ad,c,Nat.zero_le _,y7,.inl (by simp)⟩
  case h_3 n off len esz =>
   split at h
   case h_2 => exact h.elim
   rename_i cs hH
   obtain ⟨hfit,hnn,h⟩ := h
   simp only [Rep] at hv
   obtain ⟨hd,ad,c,hρ,hc,rfl,had⟩ := hv
   obtain ⟨_,C,ty,fr,h2,h3,h4,h5⟩ := hw.cellsAt hH hρ
   have hl : ((cs.drop off).take (len * esz)).length = len * esz := by simp; omega
   refine lent _ ?_ h
   simp only [Rep]
   refine ⟨hl,_,_,hc,rfl,?_⟩
   rcases had with had | had
   ·left; rw [had]; simp
   ·right
    refine ⟨hd.b,off,C,ty,fr,by rw [had],h2,?_⟩
    have := RepAt.sub (hnn _ _ _ _ _ _ (RepAt.mono hw.memLe _ (NmLe.refl _) h5)) (ρ := fun _ => none) off (len * esz)
    simpa using this
  case h_4 => exact plain _ (fun _ _ h => h) (by simpa [Rep] using hv) h
  case h_5 => exact plain _ (fun _ _ h => h) (by simpa [Rep] using hv) h
  case h_6 => exact plain _ (fun _ _ h => h) (by simpa [Rep] using hv) h
  case h_7 => exact plain _ (fun _ _ h => h) (by simpa [Rep] using hv) h
  case h_8 => exact plain _ (fun _ _ h => h) (by simpa [Rep] using hv) h
  case h_9 => exact plain _ (fun _ _ h => h) (by simpa [Rep] using hv) h
  case h_10 => exact plain _ (fun _ _ h => h) (by simpa [Rep] using hv) h
  case h_11 => exact plain _ (fun _ _ h => h) (h.1 _ _ _ _ _ hv) h.2

theorem run_callFunc {P : Program} {f : FuncId} {fn : Func} {args : Array Value} (f1 : P.funcs[f]? = some fn) (f2 : fn.body.isNone = false) (f3 : (fn.name == "runtime.NumGoroutine") = false) (w : World) :
  (callFunc f args).run P w = .ok (.enter f args) w := by
 unfold callFunc
 simp only [Sem.run_bind,run_program,Result.andThen_ok,f1,f3,f2,Bool.false_eq_true,if_false]
 rfl

theorem callX_ok {o : Oper} {a : Act} {Q : Exit → Act → World → Prop} {next : Act → World → Prop} {f : FuncId} {args : Array Value} {P : Program} {w : World} {Post : Ending → World → Prop}
  (hrun : (execOp a.eval o).run P w = (callFunc f args).run P w) (h : CallX P f args w Post) (hpost : ∀ e w',Post e w' → ∃ v,e = .returned v ∧ next (a.put o.dst v) w') : o.wp P a w next Q := by
 unfold Oper.wp
 rcases h with ⟨⟨fn,f1,f2,f3⟩,h⟩ | ⟨v,w',h1,h2⟩
 ·rw [hrun,run_callFunc f1 f2 f3,Oper.upon_enter]
  refine Calls.mono h ?_
  intro e w' hp
  obtain ⟨v,rfl,hn⟩ := hpost e w' hp
  exact hn
 ·rw [hrun,h1,Oper.upon_value]
  obtain ⟨v',e,hn⟩ := hpost _ _ h2
  cases e
  exact hn

theorem pcall_ok {o : Oper} {S : St} {K : AV → St → Prop} {a : Act} {Q : Exit → Act → World → Prop} {next : Act → World → Prop} {C : PC} {Φ₀ : Phi} {f : FuncId} {A vs : Array Value} {vs0 : List AV}
  (hrun : (execOp a.eval o).run G.P w = (callFunc f (vs ++ A)).run G.P w) (hkeep : KeepsC G C Φ₀ f A) (hle : PhiLe Φ₀ Φ) (hs : vs.size = vs0.length) (hrep : RepAt G Φ vs0 ρ vs 0)
  (hw : Wf0 G B X w0 ρ Φ S.heap w) (hT : pcall C vs0 S K)
  (hK : ∀ r x w' Φ',K r S → PhiLe Φ Φ' → (∀ b o,Φ' b = some o → Φ b = some o ∨ w.heap.size ≤ b) → Wf0 G B X w0 ρ Φ' S.heap w' → Rep G Φ' r ρ x → next (a.put o.dst x) w') :
  o.wp G.P a w next Q := by
 obtain ⟨b,us,⟨x0,hx0,hpre,hT⟩,h2,h3,h4⟩ := lend_ok hw hT hrep
 cases b with
 | false =>
  refine callX_ok hrun (hkeep us w Φ vs hle hw.gb hw.phi (by omega) (h3 rfl) x0 hx0 hpre) ?_
  rintro e w' ⟨r,v,Φ',rfl,rfl,q1,q2,q3,q4,q5⟩
  exact ⟨v,rfl,hK _ v w' Φ' hT q1 q3 (hw.below q5 q1 q2 q3) (Rep.mono (PhiLe.refl _) _ (fun n h e => by cases e) q4)⟩
 | true =>
  refine callX_ok hrun (hkeep us w (memPhi w) vs (hle.trans hw.memLe) (G.mono _ _ hw.memLe hw.gb) (fun b o e => e) (by omega) h4 x0 hx0 hpre) ?_
  rintro e w' ⟨r,v,Φ',rfl,rfl,q1,q2,q3,q4,q5⟩
  refine ⟨v,rfl,?_⟩
  refine hK _ v w' Φ hT.2 (PhiLe.refl _) (fun b o e => .inl e) (hw.below q5 (PhiLe.refl _) ?_ (fun b o e => .inl e)) (hT.1 _ _ _ _ _ _ q4)
  intro b o e
  have := hw.phi b o e
  rw [q5.block b (Array.getElem?_eq_some_iff.1 this).1]; exact this

end calls

section ops
variable {G : Gl} {o : Oper}

theorem ok_pcall {C : PC} {f : FuncId} {args : List Operand} {ts : Array TypeId} (ho : o.op = .call { callee := .value (.func f),args := args.toArray,argTypes := ts }) (hC : KeepsC G C (fun _ => none) f #[]) :
  OpOk G o (ex1 (.pcall C args)) := by
 intro B X w0 S K a w ρ Φ Q next he hw hfr hT hK
 simp only [ex1] at hT
 split at hT
 case h_2 => exact hT.elim
 rename_i vs hvs
 obtain ⟨h1,h2⟩ := evsRel he hvs
 have run : (execOp a.eval o).run G.P w = (callFunc f ((args.toArray.map a.eval) ++ #[])).run G.P w := by
  simp [execOp,ho,resolve,Act.eval,Deferred.ofValue,invoke]
 exact pcall_ok run hC (fun _ _ e => by cases e) (by simp [h1]) h2 hw hT fun r x w' Φ' k1 k2 k3 k4 k5 =>
  hK r S x w' ρ Φ' k1 rfl (NmTo.refl _ _) ⟨k2,fun b o e => (k3 b o e).imp id (fun e => Nat.le_trans hw.base e)⟩ k4 k5

theorem ok_pcallF {C : FC} {f : FuncId} {args : List Operand} {ts : Array TypeId} (ho : o.op = .call { callee := .value (.func f),args := args.toArray,argTypes := ts }) (hC : KeepsF G C f) :
  OpOk G o (ex1 (.pcallF C args)) := by
 intro B X w0 S K a w ρ Φ Q next he hw hfr hT hK
 simp only [ex1] at hT
 split at hT
 case h_2 => exact hT.elim
 rename_i vs hvs
 obtain ⟨h1,h2⟩ := evsRel he hvs
 have run : (execOp a.eval o).run G.P w = (callFunc f (args.toArray.map a.eval)).run G.P w := by
  simp [execOp,ho,resolve,Act.eval,Deferred.ofValue,invoke]
 unfold pcallF at hT
 obtain ⟨b,us,⟨x0,hx0,hpre,hT⟩,g2,g3,g4⟩ := lend_ok hw hT h2
 have hfin : ∃ Φ1 : Phi,G.base Φ1 ∧ (∀ b o,Φ1 b = some o → w.heap[b]? = some o) ∧ RepAt G Φ1 us (fun _ => none) (args.toArray.map a.eval) 0 := ⟨memPhi w,G.mono _ _ hw.memLe hw.gb,fun b o e => e,g4⟩
 obtain ⟨Φ1,p0,p1,p2⟩ := hfin
 refine callX_ok run (hC us w Φ1 _ p0 p1 (by simp [g2,h1]) p2 x0 hx0 hpre) ?_
 rintro e w' ⟨v,rfl,q1,q2⟩
 refine ⟨v,rfl,?_⟩
 have hw' : Wf0 G B X w0 ρ Φ S.heap w' := hw.below q1 (PhiLe.refl _) (fun b o e => by
  have := hw.phi b o e
  rw [q1.block b (Array.getElem?_eq_some_iff.1 this).1]; exact this) (fun b o e => .inl e)
 obtain ⟨ρ',r1,r2,r3⟩ := hw'.adopt hfr hw.base (fun n o e => by
  obtain ⟨hd,s1,_,s3⟩ := hw.objs n o e
  exact ⟨hd,s1,fun b hb => (s3 b hb).2.2⟩) (fun b o e => (Array.getElem?_eq_some_iff.1 (hw.phi b o e)).1) q2
 exact hK _ _ v w' ρ' Φ hT rfl r1 (PhiTo.refl _ _) r2 r3

theorem ok_pcallB {C : BC} {f : FuncId} {args : List Operand} {ts : Array TypeId} (ho : o.op = .call { callee := .value (.func f),args := args.toArray,argTypes := ts }) (hC : KeepsB G C f) :
  OpOk G o (ex1 (.pcallB C args)) := by
 intro B X w0 S K a w ρ Φ Q next he hw hfr hT hK
 simp only [ex1] at hT
 split at hT
 case h_2 => exact hT.elim
 rename_i vs hvs
 obtain ⟨h1,h2⟩ := evsRel he hvs
 have run : (execOp a.eval o).run G.P w = (callFunc f (args.toArray.map a.eval)).run G.P w := by
  simp [execOp,ho,resolve,Act.eval,Deferred.ofValue,invoke]
 unfold pcallB at hT
 obtain ⟨b,us,hT,g2,g3,g4⟩ := lend_ok hw hT h2
 cases b with
 | true => exact hT.elim
 | false =>
 obtain ⟨x0,hx0,hpre,hT⟩ := hT
 refine callX_ok run (hC us w Φ _ hw.gb hw.phi (by simp [g2,h1]) (g3 rfl) x0 hx0 hpre) ?_
 rintro e w' ⟨Φ',b,C',ty,fr,A,rfl,q1,q2,q3,q4,q5,q6,q7,q8,q9,q10,q11,q12,q13⟩
 refine ⟨_,rfl,?_⟩
 have hw' : Wf0 G B X w0 ρ Φ' S.heap w' := hw.below q1 q2 q3 q4
 obtain ⟨ρ',r1,r2,r3⟩ := hw'.adoptC hfr hw.base (fun n o e => by
  obtain ⟨hd,s1,_,s3⟩ := hw.objs n o e
  exact ⟨hd,s1,fun b hb => (s3 b hb).2.2⟩) q7 q8 q9 q10 q11 q12
 refine hK _ _ _ w' ρ' Φ' hT rfl r1 ⟨q2,fun b o e => (q4 b o e).imp id (fun e => Nat.le_trans hw.base e)⟩ r2 ?_
 simp only [Rep]
 refine ⟨A,rfl,by simp [q5],?_⟩
 simp only [RepAt]
 exact ⟨⟨_,q6,r3⟩,RepAt.mono (PhiLe.refl _) _ (fun _ _ e => by cases e) q13⟩

theorem RepAt.cat {Φ : Phi} {ρ : Nm} {us vs : List AV} {A C : Array Value} (h : RepAt G Φ us ρ A 0) (h2 : RepAt G Φ vs ρ C 0) (hA : A.size = us.length) : RepAt G Φ (us ++ vs) ρ (A ++ C) 0 := by
 refine RepAt.mk fun j c hj => ?_
 rw [List.getElem?_append] at hj
 split at hj
 ·rename_i hlt
  obtain ⟨x,hx,hr⟩ := RepAt.get h hj
  exact ⟨x,by rw [Nat.zero_add] at hx ⊢; rw [Array.getElem?_append_left (by omega)]; exact hx,hr⟩
 ·rename_i hge
  obtain ⟨x,hx,hr⟩ := RepAt.get h2 hj
  exact ⟨x,by rw [Nat.zero_add] at hx ⊢; rw [Array.getElem?_append_right (by omega),hA]; exact hx,hr⟩

theorem ok_vcall {Γ : Nat → Option PC} {x : Operand} {args : List Operand} {ts : Array TypeId} (ho : o.op = .call { callee := .value x,args := args.toArray,argTypes := ts })
  (hΓ : ∀ t C,Γ t = some C → KeepsC G C (fun _ => none) (G.tag t) #[]) : OpOk G o (ex1 (.vcall Γ x args)) := by
 intro B X w0 S K a w ρ Φ Q next he hw hfr hT hK
 simp only [ex1] at hT
 split at hT
 case h_3 => exact hT.elim
 case h_1 =>
  rename_i t caps vs hx hvs
  split at hT
  case h_2 => exact hT.elim
  rename_i C hC
  have hk := hΓ t C hC
  obtain ⟨h1,h2⟩ := evsRel he hvs
  have h3 := evRel he hx
  simp only [Rep] at h3
  obtain ⟨A,h3,h4,h5⟩ := h3
  have run : (execOp a.eval o).run G.P w = (callFunc (G.tag t) (((args.toArray.map a.eval) ++ A) ++ #[])).run G.P w := by
   simp [execOp,ho,resolve,h3,Deferred.ofValue,invoke]
  exact pcall_ok run hk (fun _ _ e => by cases e) (by simp [h1,h4]) (RepAt.cat h2 h5 (by simp [h1])) hw hT fun r x w' Φ' k1 k2 k3 k4 k5 =>
   hK r S x w' ρ Φ' k1 rfl (NmTo.refl _ _) ⟨k2,fun b o e => (k3 b o e).imp id (fun e => Nat.le_trans hw.base e)⟩ k4 k5
 case h_2 =>
  rename_i R vs hx hvs
  obtain ⟨C,rfl,hT⟩ := hT
  obtain ⟨h1,h2⟩ := evsRel he hvs
  have h3 := evRel he hx
  simp only [Rep] at h3
  obtain ⟨_,Φ₁,hle,f,A,h4,hk⟩ := h3
  have run : (execOp a.eval o).run G.P w = (callFunc f ((args.toArray.map a.eval) ++ A)).run G.P w := by
   simp [execOp,ho,resolve,h4,Deferred.ofValue,invoke]
  exact pcall_ok run hk hle (by simp [h1]) h2 hw hT fun r x w' Φ' k1 k2 k3 k4 k5 =>
   hK r S x w' ρ Φ' k1 rfl (NmTo.refl _ _) ⟨k2,fun b o e => (k3 b o e).imp id (fun e => Nat.le_trans hw.base e)⟩ k4 k5

theorem ok_panic : OpOk G o (ex1 .panic) := fun _ _ _ _ _ _ _ _ _ _ _ _ _ _ hT _ => hT.elim

end ops

/-- An operation of the executor stands for one of the model. -/
structure OpRel (G : Gl) (ops : Array Oper) (N : Nat) (o : Oper) (io : IOp) : Prop where
 dst : io.dst = o.dst
 lt : ∀ d,o.dst = some d → d < N
 grd : (o.guard = none ∧ io.guard = none) ∨ ∃ j want g,o.guard = some (j,want) ∧ (ops[j]?).bind (·.dst) = some g ∧ io.guard = some (g,want)
 ok : OpOk G o (ex1 io.io)
 nd : (∀ c,o.op ≠ .defer c) ∨ ∀ S K,¬ ex1 io.io S K

section region
variable {G : Gl} {B : Nat} {X : Nat → Prop} {Φ0 : Phi} {w0 : World} {N : Nat} {D : Fl} {ops : Array Oper} {R : Option Nat} {n : Nat}

theorem at_put {S : St} {a : Act} {w : World} (h : At G B X Φ0 w0 N D S a w) {d : Option Nat} (hd : ∀ k,d = some k → k < N) {r : AV} {x : Value} (hr : ∀ ρ Φ,Rep G Φ r ρ x) :
  At G B X Φ0 w0 N D (S.set d r) (a.put d x) w := by
 obtain ⟨B1,X1,w1,ρ,Φ,h1,h2,h3,h4,h5,h6⟩ := h
 cases d with
 | none => exact ⟨B1,X1,w1,ρ,Φ,h1,h2,h3,h4,h5,h6⟩
 | some k => exact ⟨B1,X1,w1,ρ,Φ,by simpa [Act.put] using h1,h2,h3,h4,h5.put (by rw [h1]; exact hd k rfl) (hr ρ Φ),h6⟩

/-- The same, the names in use aside. -/
def AtF (G : Gl) (B : Nat) (X : Nat → Prop) (Φ0 : Phi) (w0 : World) (N : Nat) (D : Fl) (U : Nat → Prop) (S : St) (a : Act) (w : World) : Prop :=
 ∃ B1 X1 w1 ρ Φ,a.tmps.size = N ∧ Sd B X w0 D B1 X1 w1 ρ Φ a.defers ∧ PhiLe Φ0 Φ ∧ (∀ b o,Φ b = some o → Φ0 b = some o ∨ B ≤ b) ∧ EnvRel G Φ ρ S.env a ∧ Wf0 G B1 X1 w1 ρ Φ S.heap w ∧ ∀ n h,ρ n = some h → U n

theorem AtF.mono {U V : Nat → Prop} {S : St} {a : Act} {w : World} (h : AtF G B X Φ0 w0 N D U S a w) (hu : ∀ n,U n → V n) : AtF G B X Φ0 w0 N D V S a w := by
 obtain ⟨B1,X1,w1,ρ,Φ,h1,h2,h3,h4,h5,h6,h7⟩ := h
 exact ⟨B1,X1,w1,ρ,Φ,h1,h2,h3,h4,h5,h6,fun n x e => hu n (h7 n x e)⟩
theorem At.f {S : St} {a : Act} {w : World} (h : At G B X Φ0 w0 N D S a w) : AtF G B X Φ0 w0 N D (fun n => n < S.next) S a w := by
 obtain ⟨B1,X1,w1,ρ,Φ,h1,h2,h3,h4,h5,h6⟩ := h
 exact ⟨B1,X1,w1,ρ,Φ,h1,h2,h3,h4,h5,h6.zero,h6.dom⟩
theorem AtF.at {U : Nat → Prop} {S : St} {a : Act} {w : World} (h : AtF G B X Φ0 w0 N D U S a w) {nx : Nat} (hu : ∀ n,U n → n < nx) : At G B X Φ0 w0 N D { S with next := nx } a w := by
 obtain ⟨B1,X1,w1,ρ,Φ,h1,h2,h3,h4,h5,h6,h7⟩ := h
 exact ⟨B1,X1,w1,ρ,Φ,h1,h2,h3,h4,h5,h6.up fun n x e => hu n (h7 n x e)⟩
theorem AtF.next {U : Nat → Prop} {S : St} {a : Act} {w : World} (h : AtF G B X Φ0 w0 N D U S a w) (nx : Nat) : AtF G B X Φ0 w0 N D U { S with next := nx } a w := h

theorem atF_put {U : Nat → Prop} {S : St} {a : Act} {w : World} (h : AtF G B X Φ0 w0 N D U S a w) {d : Option Nat} (hd : ∀ k,d = some k → k < N) {r : AV} {x : Value} (hr : ∀ ρ Φ,Rep G Φ r ρ x) :
  AtF G B X Φ0 w0 N D U (S.set d r) (a.put d x) w := by
 obtain ⟨B1,X1,w1,ρ,Φ,h1,h2,h3,h4,h5,h6,h7⟩ := h
 cases d with
 | none => exact ⟨B1,X1,w1,ρ,Φ,h1,h2,h3,h4,h5,h6,h7⟩
 | some k => exact ⟨B1,X1,w1,ρ,Φ,by simpa [Act.put] using h1,h2,h3,h4,h5.put (by rw [h1]; exact hd k rfl) (hr ρ Φ),h6,h7⟩

theorem wpOpF_ok {U : Nat → Prop} {i : Nat} {o : Oper} {io : IOp} (hi : ops[i]? = some o) (hr : OpRel G ops N o io) {S : St} {K : St → Prop} {a : Act} {w : World} {Q : Exit → Act → World → Prop} {next : Act → World → Prop}
  (hat : AtF G B X Φ0 w0 N D U S a w) (hfr : ¬ U S.next) (hT : exO io S K)
  (hn : ∀ S' a' w',K S' → S.next ≤ S'.next → AtF G B X Φ0 w0 N D (fun n => U n ∨ (n = S.next ∧ S.next < S'.next)) S' a' w' → next a' w') : wpOpIn (FR R) n G.P ops Q i next a w := by
 obtain ⟨B1,X1,w1,ρ,Φ,h1,h2,h3,h4,h5,h6,h7⟩ := hat
 have hnone : ρ S.next = none := by
  cases e : ρ S.next with
  | none => rfl
  | some x => exact absurd (h7 _ _ e) hfr
 have run : ex1 io.io S (fun r S' => K (S'.set io.dst r)) → o.wpIn (FR R) n G.P a w next Q := by
  intro hT
  refine wpIn_of_wp (hr.nd.resolve_right fun hh => hh _ _ hT) ?_
  refine hr.ok B1 X1 w1 S _ a w ρ Φ Q next h5 h6 hnone hT ?_
  intro r S' x w' ρ' Φ' k1 k2 k3 k4 k5 k6
  have hnx : (S'.set io.dst r).next = S'.next := by cases io.dst <;> rfl
  have hU : ∀ n h,ρ' n = some h → U n ∨ (n = S.next ∧ S.next < (S'.set io.dst r).next) := fun n h e => by rw [hnx]; exact (k3.2.2 n h e).imp (h7 n h) id
  refine hn _ _ _ k1 (by rw [hnx]; exact k3.2.1) ?_
  have hle := h3.trans k4.1
  have hnew : ∀ b o,Φ' b = some o → Φ0 b = some o ∨ B ≤ b := fun b o e => (k4.2 b o e).elim (h4 b o) (fun e => .inr (Nat.le_trans h2.ext.le e))
  have henv : EnvRel G Φ' ρ' S'.env a := by rw [k2]; exact h5.mono k4.1 k3.1
  have hU' := hU
  rw [hr.dst] at hU' ⊢
  revert hU'
  cases hd : o.dst with
  | none => intro hU'; exact ⟨B1,X1,w1,ρ',Φ',h1,h2.le k3.1 k4.2,hle,hnew,henv,k5,hU'⟩
  | some d => intro hU'; exact ⟨B1,X1,w1,ρ',Φ',by simpa [Act.put] using h1,h2.le k3.1 k4.2,hle,hnew,henv.put (by rw [h1]; exact hr.lt d hd) k6,k5,hU'⟩
 have skip : K (S.set io.dst (.raw undef)) → next (a.put o.dst undef) w := by
  intro hT
  have hnx : (S.set io.dst (.raw undef)).next = S.next := by cases io.dst <;> rfl
  refine hn _ _ _ hT (by rw [hnx]; exact Nat.le_refl _) ?_
  have := atF_put (r := .raw undef) (x := undef) (d := o.dst) ⟨B1,X1,w1,ρ,Φ,h1,h2,h3,h4,h5,h6,h7⟩ hr.lt (fun ρ Φ => by simp [Rep])
  rw [hr.dst]
  exact this.mono fun n h => .inl h
 unfold wpOpIn
 simp only [hi]
 unfold exO at hT
 rcases hr.grd with ⟨g1,g2⟩ | ⟨j,want,g,g1,g2,g3⟩
 ·rw [g2] at hT
  have hw1 : Region.wanted o (yielded ops a.tmps) = true := by simp [Region.wanted,g1]
  rw [if_pos hw1]
  exact run hT
 ·rw [g3] at hT
  simp only at hT
  have hy : ∀ v x,S.env g = some v → a.tmps[g]? = some x → yielded ops a.tmps j = (match x with | .bool b => some b | _ => none) := by
   intro v x _ hx
   unfold yielded
   rw [g2]
   simp only [Option.bind_some,hx]
   cases x <;> rfl
  split at hT
  ·rename_i b hb
   obtain ⟨x,hx,hrep⟩ := h5 g _ hb
   simp only [Rep] at hrep
   subst hrep
   have hyb := hy _ _ hb hx
   simp only at hyb
   have hwant : Region.wanted o (yielded ops a.tmps) = (b == want) := by
    simp only [Region.wanted,g1,hyb]
    cases b <;> cases want <;> rfl
   rw [hwant]
   cases want <;> cases b <;> simp only [cond_true,cond_false] at hT
   ·rw [if_pos (by rfl)]; exact run hT
   ·rw [if_neg (by decide)]; exact ⟨fun _ _ => trivial,skip hT⟩
   ·rw [if_neg (by decide)]; exact ⟨fun _ _ => trivial,skip hT⟩
   ·rw [if_pos (by rfl)]; exact run hT
  ·rename_i tv hb
   obtain ⟨x,hx,hrep⟩ := h5 g _ hb
   simp only [Rep] at hrep
   subst hrep
   have hyb := hy _ _ hb hx
   simp only at hyb
   have hwant : Region.wanted o (yielded ops a.tmps) = false := by
    simp only [Region.wanted,g1,hyb]
    cases want <;> rfl
   rw [hwant,if_neg (by decide)]
   exact ⟨fun _ _ => trivial,skip hT⟩
  ·exact hT.elim

theorem wpOp_ok {i : Nat} {o : Oper} {io : IOp} (hi : ops[i]? = some o) (hr : OpRel G ops N o io) {S : St} {K : St → Prop} {a : Act} {w : World} {Q : Exit → Act → World → Prop} {next : Act → World → Prop}
  (hat : At G B X Φ0 w0 N D S a w) (hT : exO io S K) (hn : ∀ S' a' w',K S' → At G B X Φ0 w0 N D S' a' w' → next a' w') : wpOpIn (FR R) n G.P ops Q i next a w :=
 wpOpF_ok hi hr hat.f (Nat.lt_irrefl _) hT fun S' a' w' k1 k2 k3 => hn S' a' w' k1 (by
  have := k3.at (nx := S'.next) (fun n h => by rcases h with h | h <;> omega)
  exact this)

theorem exO_mono {o : IOp} {S : St} {K K' : St → Prop} (hk : ∀ S',K S' → K' S') (h : exO o S K) : exO o S K' := by
 obtain ⟨r,H,n,h1,h2,h3⟩ := exO_det o S K h
 refine h3 S K' (fun _ => rfl) (fun _ => rfl) (fun _ _ => rfl) ?_
 by_cases hc : o.io.cls = 2
 ·simp only [hc,if_true]; exact hk _ h1
 ·simp only [hc,if_false]
  obtain ⟨e1,e2⟩ := h2 hc
  rw [← e1,← e2]
  exact hk _ h1

/-- The operations in the order of a list of places. -/
def exIdx (ios : List IOp) : List Nat → St → (St → Prop) → Prop
 | [],S,K => K S
 | i :: r,S,K => match ios[i]? with
  | some o => exO o S (fun S' => exIdx ios r S' K)
  | none => False

theorem exIdx_of (ios : List IOp) : ∀ (l : List IOp) (k : Nat) (S : St) (K : St → Prop),(∀ j,l[j]? = ios[k + j]?) → exOs l S K → exIdx ios (List.range' k l.length) S K
 | [],k,S,K,_,h => h
 | o :: l,k,S,K,hl,h => by
  have h0 : ios[k]? = some o := by have := hl 0; simpa using this.symm
  simp only [List.length_cons,List.range'_succ,exIdx,h0]
  exact exO_mono (fun S' h' => exIdx_of ios l (k + 1) S' K (fun j => by have := hl (j + 1); simp at this; rw [this]; congr 1; omega) h') h

theorem exIdx_front (ios : List IOp) {i : Nat} {o : IOp} (hi : ios[i]? = some o) : ∀ (l1 l2 : List Nat) (S : St) (K : St → Prop),(∀ j ∈ l1,∃ p,ios[j]? = some p ∧ p.free o = true) →
  exIdx ios (l1 ++ i :: l2) S K → exO o S (fun S' => exIdx ios (l1 ++ l2) S' K)
 | [],l2,S,K,_,h => by simpa [exIdx,hi] using h
 | j :: l1,l2,S,K,hf,h => by
  obtain ⟨p,hp,hfree⟩ := hf j (by simp)
  simp only [List.cons_append,exIdx,hp] at h ⊢
  exact exO_swap hfree (exO_mono (fun S' h' => exIdx_front ios hi l1 l2 S' K (fun j hj => hf j (by simp [hj])) h') h)

/-- In the order of the text. -/
theorem wpOps_ok {ios : List IOp} (hrel : ∀ (i : Nat) (o : Oper),ops[i]? = some o → ∃ io,ios[i]? = some io ∧ OpRel G ops N o io) {Q : Exit → Act → World → Prop} :
  ∀ (l : List Nat) (S : St) (K : St → Prop) (a : Act) (w : World),(∀ i ∈ l,i < ops.size) → At G B X Φ0 w0 N D S a w → exIdx ios l S K → (∀ S' a' w',K S' → At G B X Φ0 w0 N D S' a' w' → Q .normal a' w') → wpOpsIn (FR R) n G.P ops Q l a w
 | [],S,K,a,w,_,hat,h,hq => hq _ _ _ h hat
 | i :: l,S,K,a,w,hl,hat,h,hq => by
  have hlt : i < ops.size := hl i (by simp)
  have hi : ops[i]? = some ops[i] := Array.getElem?_eq_getElem hlt
  obtain ⟨io,hio,hr⟩ := hrel i _ hi
  simp only [exIdx,hio] at h
  rw [wpOpsIn_cons]
  exact wpOp_ok hi hr hat h fun S' a' w' hk hat' => wpOps_ok hrel l S' K a' w' (fun i hi => hl i (by simp [hi])) hat' hk hq

/-- For each operation, the bits of those that must come before it. -/
def msks : List Oper → List Nat → List Nat
 | [],acc => acc
 | o :: r,acc => msks r (acc ++ [o.after.toList.foldl (fun s e => if Region.binds .any e then s ||| 2 ^ e.on ||| acc.getD e.on 0 else s) 0])

def pairsOk (ms : List Nat) (ios : List IOp) : Bool :=
 (List.range ios.length).all fun i => (List.range i).all fun j => (ms.getD i 0).testBit j || (match ios[j]?,ios[i]? with | some p,some o => p.free o | _,_ => false)

def backOk (ops : List Oper) : Bool := (ops.zipIdx).all fun x => x.1.after.toList.all fun e => !Region.binds .any e || decide (e.on < x.2)

theorem fold_bit (acc : List Nat) (j : Nat) : ∀ (es : List Edge) (s : Nat),(es.foldl (fun s e => if Region.binds .any e then s ||| 2 ^ e.on ||| acc.getD e.on 0 else s) s).testBit j = true →
  s.testBit j = true ∨ ∃ e ∈ es,Region.binds .any e = true ∧ (e.on = j ∨ (acc.getD e.on 0).testBit j = true)
 | [],s,h => .inl h
 | e :: es,s,h => by
  rw [List.foldl_cons] at h
  rcases fold_bit acc j es _ h with h1 | ⟨e',he',h2⟩
  ·split at h1
   ·rename_i hb
    simp only [Nat.testBit_or,Bool.or_eq_true] at h1
    rcases h1 with (h1 | h1) | h1
    ·exact .inl h1
    ·rw [Nat.testBit_two_pow] at h1
     exact .inr ⟨e,by simp,hb,.inl (by simpa using h1)⟩
    ·exact .inr ⟨e,by simp,hb,.inr h1⟩
   ·exact .inl h1
  ·exact .inr ⟨e',by simp [he'],h2⟩

theorem msks_spec (all : List Oper) : ∀ (l : List Oper) (acc : List Nat),(∃ pre,all = pre ++ l ∧ acc.length = pre.length) →
  (∀ i j,i < acc.length → (acc.getD i 0).testBit j = true → ∃ o,all[i]? = some o ∧ ∃ e ∈ o.after.toList,Region.binds .any e = true ∧ (e.on = j ∨ ((e.on < acc.length) ∧ (acc.getD e.on 0).testBit j = true))) →
  (msks l acc).length = all.length ∧
  ∀ i j,((msks l acc).getD i 0).testBit j = true → ∃ o,all[i]? = some o ∧ ∃ e ∈ o.after.toList,Region.binds .any e = true ∧ (e.on = j ∨ ((msks l acc).getD e.on 0).testBit j = true)
 | [],acc,⟨pre,h1,h2⟩,hacc => by
  refine ⟨by simp [msks,h1,h2],fun i j h => ?_⟩
  by_cases hi : i < acc.length
  ·obtain ⟨o,ho,e,he,hb,h3⟩ := hacc i j hi h
   exact ⟨o,ho,e,he,hb,h3.imp id (fun h => h.2)⟩
  ·simp only [msks] at h
   rw [List.getD_eq_getElem?_getD,List.getElem?_eq_none (by omega)] at h
   simp at h
 | o :: l,acc,⟨pre,h1,h2⟩,hacc => by
  simp only [msks]
  refine msks_spec all l _ ⟨pre ++ [o],by simp [h1],by simp [h2]⟩ ?_
  intro i j hi h
  have hget : ∀ k,k < acc.length → ∀ x,(acc ++ [x]).getD k 0 = acc.getD k 0 := by
   intro k hk x
   simp [List.getD_eq_getElem?_getD,List.getElem?_append_left hk]
  by_cases hia : i < acc.length
  ·rw [hget i hia] at h
   obtain ⟨o',ho,e,he,hb,h3⟩ := hacc i j hia h
   refine ⟨o',ho,e,he,hb,h3.imp id (fun ⟨h4,h5⟩ => ⟨by simp; omega,by rw [hget _ h4]; exact h5⟩)⟩
  ·have hia' : i = acc.length := by simp at hi; omega
   subst hia'
   have hx : ∀ x,(acc ++ [x]).getD acc.length 0 = x := by intro x; simp [List.getD_eq_getElem?_getD]
   rw [hx] at h
   rcases fold_bit acc j _ _ h with h3 | ⟨e,he,hb,h3⟩
   ·simp at h3
   ·refine ⟨o,by rw [h1,h2]; simp,e,he,hb,h3.imp id fun h4 => ?_⟩
    have hlt : e.on < acc.length := by
     by_cases hc : e.on < acc.length
     ·exact hc
     ·rw [List.getD_eq_getElem?_getD,List.getElem?_eq_none (by omega)] at h4; simp at h4
    exact ⟨by simp; omega,by rw [hget _ hlt]; exact h4⟩

theorem any_ok {ios : List IOp} (hrel : ∀ (i : Nat) (o : Oper),ops[i]? = some o → ∃ io,ios[i]? = some io ∧ OpRel G ops N o io) (hlen : ios.length = ops.size)
  (hpairs : pairsOk (msks ops.toList []) ios = true) (hback : backOk ops.toList = true) {Q : Exit → Act → World → Prop} {K : St → Prop} (hq : ∀ S' a' w',K S' → At G B X Φ0 w0 N D S' a' w' → Q .normal a' w') :
  ∀ (fuel : Nat) (listed : Array Bool) (S : St) (a : Act) (w : World),listed.size = ops.size →
   (∀ (i : Nat) (o : Oper),ops[i]? = some o → listed.getD i false = true → ∀ e ∈ o.after,Region.binds .any e = true → listed.getD e.on false = true) →
   ((List.range ops.size).filter fun i => !listed.getD i true).length ≤ fuel →
   At G B X Φ0 w0 N D S a w → exIdx ios ((List.range ops.size).filter fun i => !listed.getD i true) S K → wpAnyIn (FR R) n G.P .any ops Q fuel listed a w := by
 have hback' : ∀ (i : Nat) (o : Oper),ops[i]? = some o → ∀ e ∈ o.after,Region.binds .any e = true → e.on < i := by
  intro i o hi e he hb
  unfold backOk at hback
  rw [List.all_eq_true] at hback
  have := hback (o,i) (by rw [List.mem_zipIdx_iff_getElem?]; simpa using hi)
  rw [List.all_eq_true] at this
  have := this e (by simpa using he)
  simpa [hb] using this
 obtain ⟨hml,hms⟩ := msks_spec ops.toList ops.toList [] ⟨[],by simp,rfl⟩ (fun i j hi => by simp at hi)
 intro fuel
 induction fuel with
 | zero =>
  intro listed S a w hs hd hl hat h
  have hR : ((List.range ops.size).filter fun i => !listed.getD i true) = [] := List.length_eq_zero_iff.1 (by omega)
  rw [hR] at h
  refine ⟨?_,hq _ _ _ h hat⟩
  rw [List.eq_nil_iff_forall_not_mem]
  intro i hi
  have h1 := mem_ready.1 hi
  obtain ⟨h1,o,ho,_⟩ := h1
  have : i ∈ ((List.range ops.size).filter fun i => !listed.getD i true) := by
   rw [List.mem_filter]
   exact ⟨List.mem_range.2 (Array.getElem?_eq_some_iff.1 ho).1,by simp [h1]⟩
  rw [hR] at this
  cases this
 | succ fuel ih =>
  intro listed S a w hs hd hl hat h
  have getD_eq : ∀ k,k < ops.size → listed.getD k true = listed.getD k false := by
   intro k hk
   simp [Array.getD,hs,hk]
  refine ⟨?_,?_⟩
  ·-- nothing is ready: all has run
   intro hnil
   cases hR : ((List.range ops.size).filter fun i => !listed.getD i true) with
   | nil => rw [hR] at h; exact hq _ _ _ h hat
   | cons i0 r0 =>
    exfalso
    -- the first that has not run is ready
    have hex : ∃ n,n < ops.size ∧ listed.getD n true = false := by
     have : i0 ∈ ((List.range ops.size).filter fun i => !listed.getD i true) := by rw [hR]; simp
     rw [List.mem_filter] at this
     exact ⟨i0,List.mem_range.1 this.1,by simpa using this.2⟩
    obtain ⟨n,⟨hn1,hn2⟩,hmin⟩ := exists_least hex
    have hop : ops[n]? = some ops[n] := Array.getElem?_eq_getElem hn1
    have : n ∈ Region.ready .any ops listed := by
     rw [mem_ready]
     refine ⟨hn2,_,hop,fun e he hb => ?_⟩
     have hlt := hback' n _ hop e he hb
     cases hc : listed.getD e.on false with
     | true => rfl
     | false =>
      exfalso
      have := hmin e.on ⟨by omega,by rw [getD_eq _ (by omega)]; exact hc⟩
      omega
    rw [hnil] at this
    cases this
  ·intro i hi
   obtain ⟨h1,o,ho,h2⟩ := mem_ready.1 hi
   have hisz : i < ops.size := (Array.getElem?_eq_some_iff.1 ho).1
   obtain ⟨io,hio,hr⟩ := hrel i o ho
   have hmem : i ∈ ((List.range ops.size).filter fun i => !listed.getD i true) := by
    rw [List.mem_filter]
    exact ⟨List.mem_range.2 hisz,by simp [h1]⟩
   obtain ⟨l1,l2,hR⟩ := List.append_of_mem hmem
   have hsorted : (((List.range ops.size).filter fun i => !listed.getD i true)).Pairwise (· < ·) := List.Pairwise.filter _ List.pairwise_lt_range
   rw [hR] at hsorted h
   have hl1 : ∀ j ∈ l1,j < i := by
    intro j hj
    rw [List.pairwise_append] at hsorted
    exact hsorted.2.2 j hj i (by simp)
   have hl1' : ∀ j ∈ l1,j < ops.size ∧ listed.getD j true = false := by
    intro j hj
    have : j ∈ ((List.range ops.size).filter fun i => !listed.getD i true) := by rw [hR]; simp [hj]
    rw [List.mem_filter] at this
    exact ⟨List.mem_range.1 this.1,by simpa using this.2⟩
   -- what must come before has run
   have before : ∀ n,∀ k,k ≤ n → (∀ o',ops[k]? = some o' → ∀ e ∈ o'.after,Region.binds .any e = true → listed.getD e.on false = true) → ∀ j,((msks ops.toList []).getD k 0).testBit j = true → listed.getD j false = true := by
    intro n
    induction n with
    | zero =>
     intro k hk hp j hj
     obtain ⟨o',ho',e,he,hb,h3⟩ := hms k j hj
     have ho'' : ops[k]? = some o' := by simpa using ho'
     have := hback' k o' ho'' e (by simpa using he) hb
     omega
    | succ n ihn =>
     intro k hk hp j hj
     obtain ⟨o',ho',e,he,hb,h3⟩ := hms k j hj
     have ho'' : ops[k]? = some o' := by simpa using ho'
     have hlt := hback' k o' ho'' e (by simpa using he) hb
     have hon := hp o' ho'' e (by simpa using he) hb
     rcases h3 with h3 | h3
     ·rw [← h3]; exact hon
     ·exact ihn e.on (by omega) (fun o2 ho2 e2 he2 hb2 => hd e.on o2 ho2 hon e2 he2 hb2) j h3
   have hfree : ∀ j ∈ l1,∃ p,ios[j]? = some p ∧ p.free io = true := by
    intro j hj
    obtain ⟨hj1,hj2⟩ := hl1' j hj
    have hji := hl1 j hj
    unfold pairsOk at hpairs
    rw [List.all_eq_true] at hpairs
    have := hpairs i (List.mem_range.2 (by omega))
    rw [List.all_eq_true] at this
    have := this j (List.mem_range.2 hji)
    rw [Bool.or_eq_true] at this
    rcases this with h4 | h4
    ·exfalso
     have h5 := before i i (Nat.le_refl _) (fun o2 ho2 => by rw [ho] at ho2; cases ho2; exact h2) j h4
     rw [getD_eq _ hj1,h5] at hj2
     cases hj2
    ·rw [hio] at h4
     split at h4
     ·rename_i p o2 hp ho2
      cases ho2
      exact ⟨p,hp,h4⟩
     ·cases h4
   have hT := exIdx_front ios hio l1 l2 S K hfree h
   have hfilter : ((List.range ops.size).filter fun k => !(listed.setIfInBounds i true).getD k true) = l1 ++ l2 := by
    have hnd : i ∉ l1 ++ l2 := by
     intro hm
     have hnodup : (l1 ++ i :: l2).Nodup := hsorted.imp (fun h => Nat.ne_of_lt h)
     rw [List.nodup_append] at hnodup
     rcases List.mem_append.1 hm with hm | hm
     ·exact hnodup.2.2 i hm i (by simp) rfl
     ·exact (List.nodup_cons.1 hnodup.2.1).1 hm
    have hcomp : ((List.range ops.size).filter fun k => !(listed.setIfInBounds i true).getD k true) = ((List.range ops.size).filter fun k => !listed.getD k true).filter (fun k => k != i) := by
     rw [List.filter_filter]
     apply List.filter_congr
     intro k hk
     have hk' := List.mem_range.1 hk
     by_cases hki : k = i
     ·subst hki; simp [Array.getD,hs,hk']
     ·simp [Array.getD,hs,hk',hki,Ne.symm hki]
    rw [hcomp,hR,List.filter_append,List.filter_cons]
    have e1 : l1.filter (fun k => k != i) = l1 := List.filter_eq_self.2 fun k hk => by
     have : k ≠ i := fun e => hnd (List.mem_append_left _ (e ▸ hk))
     simpa using this
    have e2 : l2.filter (fun k => k != i) = l2 := List.filter_eq_self.2 fun k hk => by
     have : k ≠ i := fun e => hnd (List.mem_append_right _ (e ▸ hk))
     simpa using this
    simp [e1,e2]
   refine wpOp_ok ho hr hat hT fun S' a' w' hk hat' => ?_
   refine ih (listed.setIfInBounds i true) S' a' w' (by simpa using hs) ?_ ?_ hat' (by rw [hfilter]; exact hk)
   ·intro k o2 ho2 hk2 e he hb
    have set_mono : ∀ m,listed.getD m false = true → (listed.setIfInBounds i true).getD m false = true := by
     intro m hm
     by_cases hmi : m = i
     ·subst hmi; simp [Array.getD,hs,hisz]
     ·simp only [Array.getD] at hm ⊢
      split at hm
      ·rename_i hlt
       simp [hlt,Ne.symm hmi]
       simpa using hm
      ·cases hm
    by_cases hki : k = i
    ·subst hki
     rw [ho] at ho2; cases ho2
     exact set_mono _ (h2 e he hb)
    ·have : listed.getD k false = true := by
      have hksz := (Array.getElem?_eq_some_iff.1 ho2).1
      simpa [Array.getD,hs,hksz,Array.getElem_setIfInBounds,Ne.symm hki] using hk2
     exact set_mono _ (hd k o2 ho2 this e he hb)
   ·rw [hfilter]
    rw [hR] at hl
    simp at hl ⊢
    omega

end region
end Qk

/-
  Regions in any order, where what the operations touch is looked at as they run.
-/
namespace Qk
open Go Go.RowKit

/-- The names that a value holds at once. -/
def nm1 : AV → List Nat
 | .ref n _ => [n]
 | .sl n _ _ => [n]
 | .vw n _ _ _ => [n]
 | .hnd n => [n]
 | _ => []
/-- With what a function value holds. -/
def nmV : AV → List Nat
 | .clo _ caps => caps.flatMap nm1
 | v => nm1 v
theorem nm1_V {v : AV} {n : Nat} (h : n ∈ nm1 v) : n ∈ nmV v := by
 cases v <;> first | exact h | cases h

def nmE (S : St) (l : List Nat) : List Nat := l.flatMap fun k => match S.env k with | some v => nmV v | none => []

/-- The slots whose objects an operation looks at. -/
def Ins.hr : Ins → List Nat
 | .load1 x => opd x
 | .loadN _ x => opd x
 | .b2s x => opd x
 | .idxL _ x _ => opd x
 | .slL _ x _ _ => opd x
 | .pcall _ args => args.flatMap opd
 | .vcall _ x args => opd x ++ args.flatMap opd
 | .pcallF _ args => args.flatMap opd
 | .pcallB _ args => args.flatMap opd
 | .stor1 a _ => opd a
 | .storN _ a _ => opd a
 | .app _ _ x y => opd x ++ opd y
 | .mlook _ _ _ _ x _ => opd x
 | .mput _ _ x _ _ => opd x
 | _ => []
/-- The slots whose objects it changes. -/
def Ins.hw : Ins → List Nat
 | .stor1 a _ => opd a
 | .storN _ a _ => opd a
 | .app _ _ x _ => opd x
 | .mput _ _ x _ _ => opd x
 | _ => []
def Ins.hn : Ins → Bool
 | .alloc _ => true
 | .box _ => true
 | .bslice .. => true
 | .s2b _ => true
 | .app .. => true
 | .mksl .. => true
 | .newb _ => true
 | .pcallF .. => true
 | .pcallB .. => true
 | .mkmap .. => true
 | _ => false

def fpR (o : Ins) (S : St) : List Nat := nmE S o.hr
def fpW (o : Ins) (nm : Nat) (S : St) : List Nat := bif o.hn then nm :: nmE S o.hw else nmE S o.hw

/-- Some names of the memory are written. -/
def puts : List (Nat × Option AO) → (Nat → Option AO) → Nat → Option AO
 | [],H => H
 | (n,o) :: r,H => puts r (upd H n o)

theorem puts_other : ∀ (D : List (Nat × Option AO)) (H : Nat → Option AO) (n : Nat),(∀ p ∈ D,p.1 ≠ n) → puts D H n = H n
 | [],_,_,_ => rfl
 | (m,o) :: r,H,n,h => by
  simp only [puts]
  rw [puts_other r _ n (fun p hp => h p (by simp [hp])),upd_ne _ _ (fun e => h (m,o) (by simp) e.symm)]
theorem puts_agree : ∀ (D : List (Nat × Option AO)) (H H' : Nat → Option AO) (n : Nat),(∃ p ∈ D,p.1 = n) → puts D H n = puts D H' n
 | [],_,_,_,h => by obtain ⟨p,h,_⟩ := h; cases h
 | (m,o) :: r,H,H',n,h => by
  simp only [puts]
  by_cases hr : ∃ p ∈ r,p.1 = n
  ·exact puts_agree r _ _ n hr
  ·have hr' : ∀ p ∈ r,p.1 ≠ n := fun p hp e => hr ⟨p,hp,e⟩
   rw [puts_other r _ n hr',puts_other r _ n hr']
   obtain ⟨p,hp,e⟩ := h
   rcases List.mem_cons.1 hp with rfl | hp
   ·simp only at e; subst e; rw [upd_same,upd_same]
   ·exact absurd e (hr' p hp)
theorem puts_comm (D E : List (Nat × Option AO)) (H : Nat → Option AO) (h : ∀ p ∈ D,∀ q ∈ E,p.1 ≠ q.1) : puts D (puts E H) = puts E (puts D H) := by
 funext n
 by_cases hD : ∃ p ∈ D,p.1 = n
 ·have hE : ∀ q ∈ E,q.1 ≠ n := by
   obtain ⟨p,hp,e⟩ := hD
   exact fun q hq e2 => h p hp q hq (e.trans e2.symm)
  rw [puts_other E _ n hE]
  exact puts_agree D _ _ n hD
 ·have hD' : ∀ p ∈ D,p.1 ≠ n := fun p hp e => hD ⟨p,hp,e⟩
  rw [puts_other D _ n hD']
  by_cases hE : ∃ q ∈ E,q.1 = n
  ·exact puts_agree E _ _ n hE
  ·have hE' : ∀ p ∈ E,p.1 ≠ n := fun p hp e => hE ⟨p,hp,e⟩
   rw [puts_other E _ n hE',puts_other E _ n hE',puts_other D _ n hD']

/-- What an operation does is settled by the slots that it reads and the objects that it looks at. -/
def DetF (o : Ins) : Prop := ∀ (S : St) K,ex1 o S K → ∃ r D n',(∀ p ∈ D,p.1 ∈ fpW o S.next S) ∧ K r { S with heap := puts D S.heap,next := n' } ∧
 ∀ (S2 : St) K2,S2.next = S.next → AgreeOn o.reads S S2 → (∀ n ∈ fpR o S,S2.heap n = S.heap n) → K2 r { S2 with heap := puts D S2.heap,next := n' } → ex1 o S2 K2

theorem nmE_of {S : St} {x : Operand} {v : AV} (hx : S.ev x = some v) {n : Nat} (hn : n ∈ nmV v) (hc : ∀ t,x ≠ .const t) : n ∈ nmE S (opd x) := by
 cases x with
 | tmp t =>
  simp only [St.ev] at hx
  simp only [nmE,opd,List.flatMap_cons,List.flatMap_nil,List.append_nil,hx]
  exact hn
 | const c => exact absurd rfl (hc c)
 | global g => simp [St.ev] at hx
 | func f =>
  simp only [St.ev,Option.some.injEq] at hx
  subst hx
  simp [nmV] at hn
theorem nmV_const (c : Value) : nmV (AV.ofConst c) = [] := by unfold AV.ofConst; split <;> rfl
theorem nmE_mem {S : St} {x : Operand} {v : AV} (hx : S.ev x = some v) {n : Nat} (hn : n ∈ nmV v) : n ∈ nmE S (opd x) := by
 cases x with
 | const c => simp only [St.ev,Option.some.injEq] at hx; subst hx; rw [nmV_const] at hn; cases hn
 | tmp t => exact nmE_of hx hn (by intro t e; cases e)
 | global g => exact nmE_of hx hn (by intro t e; cases e)
 | func f => exact nmE_of hx hn (by intro t e; cases e)
theorem nmE_append (S : St) (l m : List Nat) : nmE S (l ++ m) = nmE S l ++ nmE S m := by simp [nmE]
theorem nmE_evs {S : St} : ∀ {xs : List Operand} {vs : List AV},S.evs xs = some vs → ∀ v ∈ vs,∀ n ∈ nmV v,n ∈ nmE S (xs.flatMap opd)
 | [],vs,h,v,hv,n,hn => by simp only [St.evs,Option.some.injEq] at h; subst h; cases hv
 | x :: xs,vs,h,v,hv,n,hn => by
  simp only [St.evs] at h
  split at h
  ·cases h
  ·rename_i u hu
   split at h
   ·cases h
   ·rename_i us hus
    cases h
    rw [List.flatMap_cons,nmE_append,List.mem_append]
    rcases List.mem_cons.1 hv with rfl | hv
    ·exact .inl (nmE_mem hu hn)
    ·exact .inr (nmE_evs hus v hv n hn)

theorem lend_detF {H : Nat → Option AO} : ∀ {vs : List AV} {K : Bool → List AV → Prop},lend H vs K → ∃ b us,K b us ∧ ∀ (H2 : Nat → Option AO) K2,(∀ v ∈ vs,∀ n ∈ nm1 v,H2 n = H n) → K2 b us → lend H2 vs K2
 | [],K,h => ⟨false,[],h,fun H2 K2 _ h2 => h2⟩
 | v :: r,K,h => by
  simp only [lend] at h
  split at h
  case h_1 =>
   split at h
   ·rename_i hH
    obtain ⟨h0,h⟩ := h
    obtain ⟨b,us,h1,h2⟩ := lend_detF h
    exact ⟨_,_,h1,fun H2 K2 hg h3 => by simp only [lend,hg _ (List.mem_cons_self ..) _ (List.mem_cons_self ..),hH]; exact ⟨h0,h2 _ _ (fun v hv => hg v (List.mem_cons_of_mem _ hv)) h3⟩⟩
   ·exact h.elim
  case h_2 =>
   split at h
   ·rename_i hH
    obtain ⟨h0,h00,h⟩ := h
    obtain ⟨b,us,h1,h2⟩ := lend_detF h
    exact ⟨_,_,h1,fun H2 K2 hg h3 => by simp only [lend,hg _ (List.mem_cons_self ..) _ (List.mem_cons_self ..),hH]; exact ⟨h0,h00,h2 _ _ (fun v hv => hg v (List.mem_cons_of_mem _ hv)) h3⟩⟩
   ·exact h.elim
  case h_3 =>
   split at h
   ·rename_i hH
    obtain ⟨h0,h00,h⟩ := h
    obtain ⟨b,us,h1,h2⟩ := lend_detF h
    exact ⟨_,_,h1,fun H2 K2 hg h3 => by simp only [lend,hg _ (List.mem_cons_self ..) _ (List.mem_cons_self ..),hH]; exact ⟨h0,h00,h2 _ _ (fun v hv => hg v (List.mem_cons_of_mem _ hv)) h3⟩⟩
   ·exact h.elim
  case h_11 =>
   obtain ⟨h0,h⟩ := h
   obtain ⟨b,us,h1,h2⟩ := lend_detF h
   refine ⟨_,_,h1,fun H2 K2 hg h3 => ?_⟩
   simp only [lend]
   exact ⟨h0,h2 _ _ (fun v hv => hg v (List.mem_cons_of_mem _ hv)) h3⟩
  all_goals
   obtain ⟨b,us,h1,h2⟩ := lend_detF h
   exact ⟨_,_,h1,fun H2 K2 hg h3 => by simp only [lend]; exact h2 _ _ (fun v hv => hg v (List.mem_cons_of_mem _ hv)) h3⟩

theorem pcall_detF {C : PC} {vs : List AV} {S : St} {K : AV → St → Prop} (h : pcall C vs S K) : ∃ r,K r S ∧ ∀ (S2 : St) K2,(∀ v ∈ vs,∀ n ∈ nm1 v,S2.heap n = S.heap n) → K2 r S2 → pcall C vs S2 K2 := by
 unfold pcall at h
 obtain ⟨b,us,⟨x,h0,h1,h2⟩,h3⟩ := lend_detF h
 cases b with
 | false => exact ⟨_,h2,fun S2 K2 he hk => by unfold pcall; exact h3 _ _ he ⟨x,h0,h1,hk⟩⟩
 | true => exact ⟨_,h2.2,fun S2 K2 he hk => by unfold pcall; exact h3 _ _ he ⟨x,h0,h1,h2.1,hk⟩⟩

/-- An operation that leaves the memory alone. -/
theorem detF_pure {o : Ins} {S : St} {K : AV → St → Prop} (h : ∃ r,K r S ∧ ∀ (S2 : St) K2,AgreeOn o.reads S S2 → (∀ n ∈ fpR o S,S2.heap n = S.heap n) → K2 r S2 → ex1 o S2 K2) :
  ∃ r D n',(∀ p ∈ D,p.1 ∈ fpW o S.next S) ∧ K r { S with heap := puts D S.heap,next := n' } ∧
   ∀ (S2 : St) K2,S2.next = S.next → AgreeOn o.reads S S2 → (∀ n ∈ fpR o S,S2.heap n = S.heap n) → K2 r { S2 with heap := puts D S2.heap,next := n' } → ex1 o S2 K2 := by
 obtain ⟨r,h1,h2⟩ := h
 refine ⟨r,[],S.next,(fun p hp => by cases hp),h1,fun S2 K2 e ha hg hk => h2 S2 K2 ha hg ?_⟩
 simp only [puts] at hk
 rw [← e] at hk
 exact hk

theorem detF1 : ∀ (o : Ins),o.cls = 1 → DetF o := by
 intro o hc S K h
 refine detF_pure ?_
 cases o <;> simp only [Ins.cls] at hc <;> first | omega | skip
 case load1 x =>
  simp only [ex1] at h
  split at h
  case h_3 => exact h.elim
  case h_2 =>
   rename_i hx
   obtain ⟨v,hv,h⟩ := h
   refine ⟨_,h,fun S2 K2 ha hg hk => ?_⟩
   simp only [ex1,AgreeOn.ev (x := x) ha,hx]
   exact ⟨v,hv,hk⟩
  case h_1 =>
   rename_i hx
   split at h
   case h_3 => exact h.elim
   all_goals
    rename_i hH
    obtain ⟨v,hv,h⟩ := h
    refine ⟨_,h,fun S2 K2 ha hg hk => ?_⟩
    simp only [ex1,AgreeOn.ev (x := x) ha,hx,hg _ (nmE_mem hx (List.mem_cons_self ..)),hH]
    exact ⟨v,hv,hk⟩
 case loadN sz x =>
  simp only [ex1] at h
  split at h
  case h_3 => exact h.elim
  case h_2 =>
   rename_i hx
   obtain ⟨h0,v,hv,h⟩ := h
   refine ⟨_,h,fun S2 K2 ha hg hk => ?_⟩
   simp only [ex1,AgreeOn.ev (x := x) ha,hx]
   exact ⟨h0,v,hv,hk⟩
  case h_1 =>
   rename_i hx
   split at h
   case h_3 => exact h.elim
   all_goals
    rename_i hH
    obtain ⟨v,hv,h⟩ := h
    refine ⟨_,h,fun S2 K2 ha hg hk => ?_⟩
    simp only [ex1,AgreeOn.ev (x := x) ha,hx,hg _ (nmE_mem hx (List.mem_cons_self ..)),hH]
    exact ⟨v,hv,hk⟩
 case b2s x =>
  simp only [ex1] at h
  split at h
  case h_1 =>
   rename_i hx
   split at h
   case h_2 => exact h.elim
   rename_i hH
   obtain ⟨h0,v,hv,h⟩ := h
   refine ⟨_,h,fun S2 K2 ha hg hk => ?_⟩
   simp only [ex1,AgreeOn.ev (x := x) ha,hx,hg _ (nmE_mem hx (List.mem_cons_self ..)),hH]
   exact ⟨h0,v,hv,hk⟩
  case h_2 =>
   rename_i hx
   split at h
   case h_2 => exact h.elim
   rename_i hH
   obtain ⟨h0,v,hv,h⟩ := h
   refine ⟨_,h,fun S2 K2 ha hg hk => ?_⟩
   simp only [ex1,AgreeOn.ev (x := x) ha,hx,hg _ (nmE_mem hx (List.mem_cons_self ..)),hH]
   exact ⟨h0,v,hv,hk⟩
  case h_3 =>
   rename_i hx
   obtain ⟨h0,v,hv,h⟩ := h
   refine ⟨_,h,fun S2 K2 ha hg hk => ?_⟩
   simp only [ex1,AgreeOn.ev (x := x) ha,hx]
   exact ⟨h0,v,hv,hk⟩
  case h_4 =>
   rename_i hx
   refine ⟨_,h,fun S2 K2 ha hg hk => ?_⟩
   simp only [ex1,AgreeOn.ev (x := x) ha,hx]
   exact hk
  case h_5 => exact h.elim
 case idxL esz x i =>
  simp only [ex1] at h
  split at h
  case h_4 => exact h.elim
  case h_1 =>
   rename_i hx hy
   split at h
   case h_2 => exact h.elim
   rename_i hH
   refine ⟨_,h.2,fun S2 K2 ha hg hk => ?_⟩
   simp only [ex1,ha.left.ev,ha.right.ev,hx,hy,hg _ (nmE_mem hx (List.mem_cons_self ..)),hH]
   exact ⟨h.1,hk⟩
  all_goals
   rename_i hx hy
   refine ⟨_,h.2,fun S2 K2 ha hg hk => ?_⟩
   simp only [ex1,ha.left.ev,ha.right.ev,hx,hy]
   exact ⟨h.1,hk⟩
 case slL esz x lo hi =>
  simp only [ex1] at h
  split at h
  case h_3 => exact h.elim
  case h_1 =>
   rename_i hx
   split at h
   case h_2 => exact h.elim
   rename_i hH
   obtain ⟨i,h,hb1⟩ := bnd_det h
   obtain ⟨j,⟨h0,h⟩,hb2⟩ := bnd_det h
   refine ⟨_,h,fun S2 K2 ha hg hk => ?_⟩
   simp only [ex1,ha.left.left.ev,hx,hg _ (nmE_mem hx (List.mem_cons_self ..)),hH,ha.left.right.bnd,ha.right.bnd]
   exact hb1 _ (hb2 _ ⟨h0,hk⟩)
  case h_2 =>
   rename_i hx
   obtain ⟨i,h,hb1⟩ := bnd_det h
   obtain ⟨j,⟨h0,h⟩,hb2⟩ := bnd_det h
   refine ⟨_,h,fun S2 K2 ha hg hk => ?_⟩
   simp only [ex1,ha.left.left.ev,hx,ha.left.right.bnd,ha.right.bnd]
   exact hb1 _ (hb2 _ ⟨h0,hk⟩)
 case pcall C args =>
  simp only [ex1] at h
  split at h
  case h_2 => exact h.elim
  rename_i vs hx
  obtain ⟨r,h1,h2⟩ := pcall_detF h
  refine ⟨r,h1,fun S2 K2 ha hg hk => ?_⟩
  simp only [ex1,AgreeOn.evs (xs := args) ha,hx]
  exact h2 _ _ (fun v hv n hn => hg n (nmE_evs hx v hv n (nm1_V hn))) hk
 case vcall Γ x args =>
  have hsub : ∀ {vs : List AV},S.evs args = some vs → ∀ v ∈ vs,∀ n ∈ nmV v,n ∈ fpR (.vcall Γ x args) S := fun hv v hm n hn => by
   simp only [fpR,Ins.hr,nmE_append,List.mem_append]
   exact .inr (nmE_evs hv v hm n hn)
  simp only [ex1] at h
  split at h
  case h_3 => exact h.elim
  case h_1 =>
   rename_i t caps vs hx hv
   split at h
   case h_2 => exact h.elim
   rename_i C hC
   obtain ⟨r,h1,h2⟩ := pcall_detF h
   refine ⟨r,h1,fun S2 K2 ha hg hk => ?_⟩
   simp only [ex1,ha.left.ev,AgreeOn.evs (xs := args) ha.right,hx,hv,hC]
   refine h2 _ _ (fun v hm n hn => hg n ?_) hk
   rcases List.mem_append.1 hm with hm | hm
   ·exact hsub hv v hm n (nm1_V hn)
   ·simp only [fpR,Ins.hr,nmE_append,List.mem_append]
    exact .inl (nmE_mem hx (List.mem_flatMap.2 ⟨v,hm,hn⟩))
  case h_2 =>
   rename_i R vs hx hv
   obtain ⟨C,hR,h⟩ := h
   obtain ⟨r,h1,h2⟩ := pcall_detF h
   refine ⟨r,h1,fun S2 K2 ha hg hk => ?_⟩
   simp only [ex1,ha.left.ev,AgreeOn.evs (xs := args) ha.right,hx,hv]
   exact ⟨C,hR,h2 _ _ (fun v hm n hn => hg n (hsub hv v hm n (nm1_V hn))) hk⟩
 case mlook one ks z ok x i =>
  simp only [ex1] at h
  split at h
  case h_3 => exact h.elim
  case h_1 =>
   rename_i hx hy
   split at h
   case h_2 => exact h.elim
   rename_i hH
   obtain ⟨M,hR,hko,r,hr,h⟩ := h
   refine ⟨_,h,fun S2 K2 ha hg hk => ?_⟩
   simp only [ex1,ha.left.ev,ha.right.ev,hx,hy,hg _ (nmE_mem hx (List.mem_cons_self ..)),hH]
   exact ⟨M,hR,hko,r,hr,hk⟩
  case h_2 =>
   rename_i hx hy
   obtain ⟨M,hR,hko,r,hr,h⟩ := h
   refine ⟨_,h,fun S2 K2 ha hg hk => ?_⟩
   simp only [ex1,ha.left.ev,ha.right.ev,hx,hy]
   exact ⟨M,hR,hko,r,hr,hk⟩

theorem detF : ∀ (o : Ins),DetF o := by
 intro o
 by_cases h0 : o.cls = 0
 ·intro S K h
  obtain ⟨r,h1,h2⟩ := det0 o h0 S K h
  exact detF_pure ⟨r,h1,fun S2 K2 ha _ hk => h2 S2 K2 ha hk⟩
 by_cases h1 : o.cls = 1
 ·exact detF1 o h1
 intro S K h
 cases o <;> first | (exact absurd rfl h0) | (exact absurd rfl h1) | skip
 case alloc zs =>
  refine ⟨_,[(S.next,some (.cells zs))],S.next + 1,by simp [fpW,Ins.hn],h,fun S2 K2 e ha hg hk => ?_⟩
  simp only [ex1,e]; exact hk
 case newb zs =>
  refine ⟨_,[(S.next,some (.cl true zs))],S.next + 1,by simp [fpW,Ins.hn],h,fun S2 K2 e ha hg hk => ?_⟩
  simp only [ex1,e]; exact hk
 case pcallB C args =>
  simp only [ex1] at h
  split at h
  case h_2 => exact h.elim
  rename_i vs hx
  unfold pcallB at h
  obtain ⟨b,us,h0,h3⟩ := lend_detF h
  cases b with
  | true => exact h0.elim
  | false =>
  obtain ⟨x,h0,h1,h2⟩ := h0
  refine ⟨_,[(S.next,some (.cl false (C.cs x)))],S.next + 1,by simp [fpW,Ins.hn],h2,fun S2 K2 e ha hg hk => ?_⟩
  simp only [ex1,AgreeOn.evs (xs := args) ha,hx]
  unfold pcallB
  rw [e]
  exact h3 _ _ (fun v hv n hn => hg n (nmE_evs hx v hv n (nm1_V hn))) ⟨x,h0,h1,hk⟩
 case mkmap one ks =>
  refine ⟨_,[(S.next,some (.opq (mapR ⟨one,ks,noM⟩)))],S.next + 1,by simp [fpW,Ins.hn],h,fun S2 K2 e ha hg hk => ?_⟩
  simp only [ex1,e]; exact hk
 case mput one ks x k v =>
  simp only [ex1] at h
  split at h
  case h_2 => exact h.elim
  rename_i hx hk0 hv
  split at h
  case h_2 => exact h.elim
  rename_i hH
  obtain ⟨M,h0,h⟩ := h
  refine ⟨_,[(_,_)],S.next,?_,h,fun S2 K2 e ha hg hk => ?_⟩
  ·intro q hq
   rw [List.mem_singleton] at hq
   subst hq
   exact nmE_mem hx (List.mem_cons_self ..)
  ·simp only [ex1,ha.left.left.ev,ha.left.right.ev,ha.right.ev,hx,hk0,hv,hg _ (nmE_mem hx (List.mem_cons_self ..)),hH]
   rw [← e] at hk
   exact ⟨M,h0,hk⟩
 case pcallF C args =>
  simp only [ex1] at h
  split at h
  case h_2 => exact h.elim
  rename_i vs hx
  unfold pcallF at h
  obtain ⟨b,us,⟨x,h0,h1,h2⟩,h3⟩ := lend_detF h
  refine ⟨_,[(S.next,some (.ls false C.esz (C.cs x)))],S.next + 1,by simp [fpW,Ins.hn],h2,fun S2 K2 e ha hg hk => ?_⟩
  simp only [ex1,AgreeOn.evs (xs := args) ha,hx]
  unfold pcallF
  rw [e]
  exact h3 _ _ (fun v hv n hn => hg n (nmE_evs hx v hv n (nm1_V hn))) ⟨x,h0,h1,hk⟩
 case box x =>
  simp only [ex1] at h
  split at h
  case h_3 => exact h.elim
  case h_1 =>
   rename_i cs hx
   refine ⟨_,[(S.next,some (.cells cs))],S.next + 1,by simp [fpW,Ins.hn],h,fun S2 K2 e ha hg hk => ?_⟩
   simp only [ex1,e,AgreeOn.ev (x := x) ha,hx]
   exact hk
  case h_2 =>
   rename_i v hna hx
   split at h
   case h_2 => exact h.elim
   rename_i hv
   refine ⟨_,[(S.next,some (.cells [v]))],S.next + 1,by simp [fpW,Ins.hn],h,fun S2 K2 e ha hg hk => ?_⟩
   simp only [ex1,e,AgreeOn.ev (x := x) ha,hx,hv]
   exact hk
 case bslice esz zs n ps =>
  simp only [ex1] at h
  split at h
  case h_2 => exact h.elim
  rename_i cs hcs
  refine ⟨_,[(S.next,some (.lst esz cs))],S.next + 1,by simp [fpW,Ins.hn],h,fun S2 K2 e ha hg hk => ?_⟩
  simp only [ex1,AgreeOn.fill (zs := repl n zs) ha,hcs,e]
  exact hk
 case stor1 p x =>
  simp only [ex1] at h
  split at h
  case h_2 => exact h.elim
  rename_i hp hx
  split at h
  case h_2 => exact h.elim
  rename_i hv
  split at h
  case h_3 => exact h.elim
  all_goals
   rename_i hH
   refine ⟨_,[(_,_)],S.next,?_,h.2,fun S2 K2 e ha hg hk => ?_⟩
   ·intro q hq
    rw [List.mem_singleton] at hq
    subst hq
    exact nmE_mem hp (List.mem_cons_self ..)
   ·simp only [ex1,ha.left.ev,ha.right.ev,hp,hx,hv,hg _ (nmE_mem hp (List.mem_cons_self ..)),hH]
    rw [← e] at hk
    exact ⟨h.1,hk⟩
 case storN sz p x =>
  simp only [ex1] at h
  split at h
  case h_2 => exact h.elim
  rename_i hp hx
  obtain ⟨h0,h⟩ := h
  split at h
  case h_3 => exact h.elim
  all_goals
   rename_i hH
   obtain ⟨h00,l,hl,h⟩ := h
   refine ⟨_,[(_,_)],S.next,?_,h,fun S2 K2 e ha hg hk => ?_⟩
   ·intro q hq
    rw [List.mem_singleton] at hq
    subst hq
    exact nmE_mem hp (List.mem_cons_self ..)
   ·simp only [ex1,ha.left.ev,ha.right.ev,hp,hx,hg _ (nmE_mem hp (List.mem_cons_self ..)),hH]
    rw [← e] at hk
    exact ⟨h0,h00,l,hl,hk⟩
 case s2b x =>
  simp only [ex1] at h
  split at h
  case h_2 => exact h.elim
  rename_i hx
  refine ⟨_,[(S.next,_)],S.next + 1,by simp [fpW,Ins.hn],h,fun S2 K2 e ha hg hk => ?_⟩
  simp only [ex1,e,AgreeOn.ev (x := x) ha,hx]
  exact hk
 case app esz bytes x y =>
  have hmemx : ∀ {v : AV} {n : Nat},S.ev x = some v → n ∈ nmV v → n ∈ fpR (.app esz bytes x y) S ∧ n ∈ fpW (.app esz bytes x y) S.next S := fun hx hn =>
   ⟨by simp only [fpR,Ins.hr,nmE_append,List.mem_append]; exact .inl (nmE_mem hx hn),by simp only [fpW,Ins.hn,Ins.hw,cond_true]; exact List.mem_cons_of_mem _ (nmE_mem hx hn)⟩
  have hmemy : ∀ {v : AV} {n : Nat},S.ev y = some v → n ∈ nmV v → n ∈ fpR (.app esz bytes x y) S := fun hx hn => by
   simp only [fpR,Ins.hr,nmE_append,List.mem_append]; exact .inr (nmE_mem hx hn)
  have hnx : S.next ∈ fpW (.app esz bytes x y) S.next S := by simp [fpW,Ins.hn]
  simp only [ex1] at h
  split at h
  case h_5 => exact h.elim
  case h_1 =>
   rename_i n off len m o2 l2 hx hy
   split at h
   case h_2 => exact h.elim
   rename_i hH hM
   obtain ⟨h0,l,hl,h⟩ := h
   refine ⟨_,[(n,none),(S.next,_)],S.next + 1,?_,h,fun S2 K2 e ha hg hk => ?_⟩
   ·intro q hq
    rcases List.mem_cons.1 hq with rfl | hq
    ·exact (hmemx hx (List.mem_cons_self ..)).2
    ·rw [List.mem_singleton] at hq; subst hq; exact hnx
   ·simp only [ex1,e,ha.left.ev,ha.right.ev,hx,hy,hg _ (hmemx hx (List.mem_cons_self ..)).1,hg _ (hmemy hy (List.mem_cons_self ..)),hH,hM]
    exact ⟨h0,l,hl,hk⟩
  case h_2 =>
   rename_i n off len m o2 l2 e2 hx hy
   split at h
   case h_2 => exact h.elim
   rename_i hH hM
   obtain ⟨h0,l,hl,h⟩ := h
   refine ⟨_,[(n,none),(S.next,_)],S.next + 1,?_,h,fun S2 K2 e ha hg hk => ?_⟩
   ·intro q hq
    rcases List.mem_cons.1 hq with rfl | hq
    ·exact (hmemx hx (List.mem_cons_self ..)).2
    ·rw [List.mem_singleton] at hq; subst hq; exact hnx
   ·simp only [ex1,e,ha.left.ev,ha.right.ev,hx,hy,hg _ (hmemx hx (List.mem_cons_self ..)).1,hg _ (hmemy hy (List.mem_cons_self ..)),hH,hM]
    exact ⟨h0,l,hl,hk⟩
  all_goals
   rename_i hx hy
   split at h
   case h_2 => exact h.elim
   rename_i hH
   obtain ⟨h0,l,hl,h⟩ := h
   refine ⟨_,[(_,none),(S.next,_)],S.next + 1,?_,h,fun S2 K2 e ha hg hk => ?_⟩
   ·intro q hq
    rcases List.mem_cons.1 hq with rfl | hq
    ·exact (hmemx hx (List.mem_cons_self ..)).2
    ·rw [List.mem_singleton] at hq; subst hq; exact hnx
   ·simp only [ex1,e,ha.left.ev,ha.right.ev,hx,hy,hg _ (hmemx hx (List.mem_cons_self ..)).1,hH]
    exact ⟨h0,l,hl,hk⟩
 case mksl esz bytes zs l c =>
  simp only [ex1] at h
  split at h
  case h_2 => exact h.elim
  rename_i hx hy
  obtain ⟨h0,l,hl,h⟩ := h
  refine ⟨_,[(S.next,_)],S.next + 1,by simp [fpW,Ins.hn],h,fun S2 K2 e ha hg hk => ?_⟩
  simp only [ex1,e,ha.left.ev,ha.right.ev,hx,hy]
  exact ⟨h0,l,hl,hk⟩

/-- Whether the guard lets an operation run. -/
def IOp.runs (o : IOp) (S : St) : Bool :=
 match o.guard with
 | none => true
 | some (g,want) => match S.env g with
  | some (.bool b) => match want with
   | true => b
   | false => !b
  | _ => false

def fpRO (o : IOp) (S : St) : List Nat := bif o.runs S then fpR o.io S else []
def fpWO (o : IOp) (nm : Nat) (S : St) : List Nat := bif o.runs S then fpW o.io nm S else []

def St.nx (S : St) (n : Nat) : St := ⟨S.env,S.heap,n⟩
theorem nx_set (S : St) (d : Option Nat) (v : AV) (n : Nat) : (S.set d v).nx n = (S.nx n).set d v := by cases d <;> rfl

/-- The operation with a name of its own for what it makes. -/
def exN (o : IOp) (nm : Nat) (S : St) (K : St → Prop) : Prop := exO o (S.nx nm) (fun S' => K (S'.nx 0))

theorem nmE_agree {l : List Nat} {S S2 : St} (h : AgreeOn l S S2) : nmE S2 l = nmE S l := by
 induction l with
 | nil => rfl
 | cons k l ih =>
  have e := h k (by simp)
  have := ih (fun j hj => h j (by simp [hj]))
  simp only [nmE,List.flatMap_cons] at this ⊢
  rw [this,e]
theorem AgreeOn.sub {l m : List Nat} {S S2 : St} (h : AgreeOn m S S2) (hs : ∀ k ∈ l,k ∈ m) : AgreeOn l S S2 := fun k hk => h k (hs k hk)
theorem hr_sub (o : Ins) : ∀ k ∈ o.hr,k ∈ o.reads := by
 cases o <;> simp only [Ins.hr,Ins.reads] <;> intro k hk <;> first | exact hk | cases hk | (simp only [List.mem_append] at *; simp_all)
theorem hw_sub (o : Ins) : ∀ k ∈ o.hw,k ∈ o.reads := by
 cases o <;> simp only [Ins.hw,Ins.reads] <;> intro k hk <;> first | exact hk | cases hk | (simp only [List.mem_append] at *; simp_all)

theorem runs_agree {o : IOp} {S S2 : St} (h : AgreeOn o.reads S S2) : o.runs S2 = o.runs S := by
 unfold IOp.runs
 split
 ·rfl
 ·rename_i g want hg
  rw [h g (by simp [IOp.reads,hg])]
theorem fpRO_agree {o : IOp} {S S2 : St} (h : AgreeOn o.reads S S2) : fpRO o S2 = fpRO o S := by
 unfold fpRO fpR
 rw [runs_agree h,nmE_agree (h.left.sub (hr_sub o.io))]
theorem fpWO_agree {o : IOp} {S S2 : St} {nm : Nat} (h : AgreeOn o.reads S S2) : fpWO o nm S2 = fpWO o nm S := by
 unfold fpWO fpW
 rw [runs_agree h,nmE_agree (h.left.sub (hw_sub o.io))]

theorem exN_det {o : IOp} {nm : Nat} {S : St} {K : St → Prop} (h : exN o nm S K) : ∃ r D,(∀ p ∈ D,p.1 ∈ fpWO o nm S) ∧ K ((⟨S.env,puts D S.heap,0⟩ : St).set o.dst r) ∧
  ∀ (S2 : St) (K2 : St → Prop),AgreeOn o.reads S S2 → (∀ n ∈ fpRO o S,S2.heap n = S.heap n) → K2 ((⟨S2.env,puts D S2.heap,0⟩ : St).set o.dst r) → exN o nm S2 K2 := by
 have run : ∀ K : St → Prop,o.runs S = true → ex1 o.io (S.nx nm) (fun r S' => K ((S'.set o.dst r).nx 0)) → ∃ r D,(∀ p ∈ D,p.1 ∈ fpWO o nm S) ∧ K ((⟨S.env,puts D S.heap,0⟩ : St).set o.dst r) ∧
   ∀ (S2 : St) (K2 : St → Prop),AgreeOn o.reads S S2 → (∀ n ∈ fpRO o S,S2.heap n = S.heap n) → K2 ((⟨S2.env,puts D S2.heap,0⟩ : St).set o.dst r) → ex1 o.io (S2.nx nm) (fun r S' => K2 ((S'.set o.dst r).nx 0)) := by
  intro K hr h
  obtain ⟨r,D,n',h1,h2,h3⟩ := detF o.io _ _ h
  refine ⟨r,D,fun p hp => ?_,?_,fun S2 K2 ha hg hk => ?_⟩
  ·have := h1 p hp
   unfold fpWO
   rw [hr]
   exact this
  ·rw [nx_set] at h2
   exact h2
  ·refine h3 (S2.nx nm) _ rfl ha.left (fun n hn => hg n ?_) ?_
   ·unfold fpRO
    rw [hr]
    exact hn
   ·rw [nx_set]
    exact hk
 have skip : ∀ K : St → Prop,K (((S.nx nm).set o.dst (.raw undef)).nx 0) → ∃ r D,(∀ p ∈ D,p.1 ∈ fpWO o nm S) ∧ K ((⟨S.env,puts D S.heap,0⟩ : St).set o.dst r) ∧ D = [] ∧ r = .raw undef := by
  intro K h
  rw [nx_set] at h
  exact ⟨_,[],(fun p hp => by cases hp),h,rfl,rfl⟩
 have skipped : ∀ (S2 : St) (K2 : St → Prop),K2 ((⟨S2.env,puts [] S2.heap,0⟩ : St).set o.dst (.raw undef)) → K2 (((S2.nx nm).set o.dst (.raw undef)).nx 0) := by
  intro S2 K2 hk
  rw [nx_set]
  exact hk
 unfold exN exO at h
 split at h
 ·rename_i hg
  obtain ⟨r,D,h1,h2,h3⟩ := run K (by unfold IOp.runs; rw [hg]) h
  refine ⟨r,D,h1,h2,fun S2 K2 ha hh hk => ?_⟩
  unfold exN exO
  rw [hg]
  exact h3 S2 K2 ha hh hk
 ·rename_i g want hg
  have hgr : ∀ S2 : St,AgreeOn o.reads S S2 → (S2.nx nm).env g = S.env g := fun S2 ha => ha g (by simp [IOp.reads,hg])
  split at h
  ·rename_i b hb
   have hb' : S.env g = some (.bool b) := hb
   cases want <;> cases b <;> simp only [cond_true,cond_false] at h
   ·obtain ⟨r,D,h1,h2,h3⟩ := run K (by unfold IOp.runs; simp [hg,hb']) h
    refine ⟨r,D,h1,h2,fun S2 K2 ha hh hk => ?_⟩
    unfold exN exO
    rw [hg]
    simp only [hgr S2 ha,hb',cond_false]
    exact h3 S2 K2 ha hh hk
   ·obtain ⟨r,D,h1,h2,rfl,rfl⟩ := skip K h
    refine ⟨_,_,h1,h2,fun S2 K2 ha hh hk => ?_⟩
    unfold exN exO
    rw [hg]
    simp only [hgr S2 ha,hb',cond_true]
    exact skipped S2 K2 hk
   ·obtain ⟨r,D,h1,h2,rfl,rfl⟩ := skip K h
    refine ⟨_,_,h1,h2,fun S2 K2 ha hh hk => ?_⟩
    unfold exN exO
    rw [hg]
    simp only [hgr S2 ha,hb',cond_false]
    exact skipped S2 K2 hk
   ·obtain ⟨r,D,h1,h2,h3⟩ := run K (by unfold IOp.runs; simp [hg,hb']) h
    refine ⟨r,D,h1,h2,fun S2 K2 ha hh hk => ?_⟩
    unfold exN exO
    rw [hg]
    simp only [hgr S2 ha,hb',cond_true]
    exact h3 S2 K2 ha hh hk
  ·rename_i tv hb
   have hb' : S.env g = some (.raw (.tuple tv)) := hb
   obtain ⟨r,D,h1,h2,rfl,rfl⟩ := skip K h
   refine ⟨_,_,h1,h2,fun S2 K2 ha hh hk => ?_⟩
   unfold exN exO
   rw [hg]
   simp only [hgr S2 ha,hb']
   exact skipped S2 K2 hk
  ·exact h.elim

/-- The slots of two operations do not meet. -/
def IOp.sfree (a b : IOp) : Bool :=
 (match a.dst with
  | some d => !b.reads.contains d && b.dst != some d
  | none => true) &&
 (match b.dst with
  | some d => !a.reads.contains d
  | none => true)

def apart (l m : List Nat) : Bool := l.all fun x => !m.contains x
theorem apart_ne {l m : List Nat} (h : apart l m = true) {x y : Nat} (hx : x ∈ l) (hy : y ∈ m) : x ≠ y := by
 intro e
 subst e
 unfold apart at h
 rw [List.all_eq_true] at h
 have := h x hx
 rw [Bool.not_eq_true',List.contains_eq_mem] at this
 simp [hy] at this

/-- What the two touch lies apart. -/
def dfree (ra wa rb wb : List Nat) : Bool := apart wa rb && apart wa wb && apart wb ra

theorem exN_swap {a b : IOp} {na nb : Nat} {S : St} {K : St → Prop} (hf : a.sfree b = true) (hdis : dfree (fpRO a S) (fpWO a na S) (fpRO b S) (fpWO b nb S) = true)
  (h : exN a na S (fun S' => exN b nb S' K)) : exN b nb S (fun S' => exN a na S' K) := by
 simp only [IOp.sfree,Bool.and_eq_true] at hf
 obtain ⟨f1,f2⟩ := hf
 simp only [dfree,Bool.and_eq_true] at hdis
 obtain ⟨⟨g1,g2⟩,g3⟩ := hdis
 have d1 : ∀ d,a.dst = some d → d ∉ b.reads ∧ b.dst ≠ some d := by
  intro d hd
  rw [hd] at f1
  simp at f1
  exact f1
 have d2 : ∀ d,b.dst = some d → d ∉ a.reads := by
  intro d hd
  rw [hd] at f2
  simpa using f2
 obtain ⟨ra,Da,wa,h1,ha⟩ := exN_det h
 have ag : AgreeOn b.reads S ((⟨S.env,puts Da S.heap,0⟩ : St).set a.dst ra) := agree_set (S := S) (fun k hk => (d1 k hk).1)
 obtain ⟨rb,Db,wb,h2,hb⟩ := exN_det h1
 rw [fpWO_agree ag] at wb
 rw [fpRO_agree ag] at hb
 have hheap : ((⟨S.env,puts Da S.heap,0⟩ : St).set a.dst ra).heap = puts Da S.heap := by cases a.dst <;> rfl
 refine hb S _ (fun k hk => (ag k hk).symm) (fun n hn => ?_) ?_
 ·rw [hheap]
  exact (puts_other _ _ _ (fun p hp => apart_ne g1 (wa p hp) hn)).symm
 ·refine ha _ _ (agree_set (S := S) d2) (fun n hn => ?_) ?_
  ·have : ((⟨S.env,puts Db S.heap,0⟩ : St).set b.dst rb).heap = puts Db S.heap := by cases b.dst <;> rfl
   rw [this]
   exact puts_other _ _ _ (fun p hp => apart_ne g3 (wb p hp) hn)
  ·have e : ((⟨((⟨S.env,puts Da S.heap,0⟩ : St).set a.dst ra).env,puts Db ((⟨S.env,puts Da S.heap,0⟩ : St).set a.dst ra).heap,0⟩ : St)).set b.dst rb =
     ((⟨((⟨S.env,puts Db S.heap,0⟩ : St).set b.dst rb).env,puts Da ((⟨S.env,puts Db S.heap,0⟩ : St).set b.dst rb).heap,0⟩ : St)).set a.dst ra := by
    have hc := puts_comm Db Da S.heap (fun p hp q hq => (apart_ne g2 (wa q hq) (wb p hp)).symm)
    apply St.ext
    ·cases hda : a.dst with
     | none => cases hdb : b.dst <;> rfl
     | some da =>
      cases hdb : b.dst with
      | none => rfl
      | some db =>
       simp only [St.set]
       rw [upd_comm]
       intro e
       exact (d1 da hda).2 (by rw [hdb,e])
    ·cases a.dst <;> cases b.dst <;> exact hc
    ·cases a.dst <;> cases b.dst <;> rfl
   rw [← e]
   exact h2

/-- The operations in the order of a list of places, each with its own name, what they touch known. -/
def exD (ios : List IOp) (base : Nat) (fr fw : Nat → List Nat) : List Nat → St → (St → Prop) → Prop
 | [],S,K => K S
 | i :: r,S,K => match ios[i]? with
  | some o => (fpRO o S = fr i ∧ fpWO o (base + i) S = fw i) ∧ exN o (base + i) S (fun S' => exD ios base fr fw r S' K)
  | none => False

theorem exD_front {ios : List IOp} {base : Nat} {fr fw : Nat → List Nat} {i : Nat} {o : IOp} (hi : ios[i]? = some o) : ∀ (l1 l2 : List Nat) (S : St) (K : St → Prop),
  (∀ j ∈ l1,∃ p,ios[j]? = some p ∧ p.sfree o = true ∧ dfree (fr j) (fw j) (fr i) (fw i) = true) →
  exD ios base fr fw (l1 ++ i :: l2) S K → (fpRO o S = fr i ∧ fpWO o (base + i) S = fw i) ∧ exN o (base + i) S (fun S' => exD ios base fr fw (l1 ++ l2) S' K)
 | [],l2,S,K,_,h => by simpa [exD,hi] using h
 | j :: l1,l2,S,K,hf,h => by
  obtain ⟨p,hp,hs,hd⟩ := hf j (by simp)
  simp only [List.cons_append,exD,hp] at h ⊢
  obtain ⟨⟨f1,f2⟩,h⟩ := h
  obtain ⟨r,Dl,w1,h1,h2⟩ := exN_det h
  obtain ⟨⟨g1,g2⟩,h3⟩ := exD_front hi l1 l2 _ K (fun j hj => hf j (by simp [hj])) h1
  have hs' := hs
  simp only [IOp.sfree,Bool.and_eq_true] at hs'
  obtain ⟨s1,s2⟩ := hs'
  have d1 : ∀ d,p.dst = some d → d ∉ o.reads := by
   intro d hd
   rw [hd] at s1
   simp at s1
   exact s1.1
  have d2 : ∀ d,o.dst = some d → d ∉ p.reads := by
   intro d hd
   rw [hd] at s2
   simpa using s2
  have ag : AgreeOn o.reads S ((⟨S.env,puts Dl S.heap,0⟩ : St).set p.dst r) := agree_set (S := S) d1
  rw [fpRO_agree ag] at g1
  rw [fpWO_agree ag] at g2
  have hsw := exN_swap (a := p) (b := o) (na := base + j) (nb := base + i) hs (by rw [f1,f2,g1,g2]; exact hd) (h2 S _ (fun _ _ => rfl) (fun _ _ => rfl) h3)
  refine ⟨⟨g1,g2⟩,?_⟩
  obtain ⟨r2,D2,w2,h4,h5⟩ := exN_det hsw
  refine h5 S _ (fun _ _ => rfl) (fun _ _ => rfl) ⟨⟨?_,?_⟩,h4⟩
  ·rw [fpRO_agree (agree_set (S := S) d2)]; exact f1
  ·rw [fpWO_agree (agree_set (S := S) d2)]; exact f2

theorem exD_end {ios : List IOp} {base : Nat} {fr fw : Nat → List Nat} {p : Prop} (K : St → Prop) (hk : ∀ S,K S → p) : ∀ (l : List Nat) (S : St),exD ios base fr fw l S K → p
 | [],S,h => hk S h
 | i :: l,S,h => by
  simp only [exD] at h
  split at h
  ·obtain ⟨r,D,_,h1,_⟩ := exN_det h.2
   exact exD_end K hk l _ h1
  ·exact h.elim

section region
variable {G : Gl} {B : Nat} {X : Nat → Prop} {Φ0 : Phi} {w0 : World} {N : Nat} {D : Fl} {ops : Array Oper} {R : Option Nat} {n : Nat}

theorem any_okD {ios : List IOp} {base : Nat} {fr fw : Nat → List Nat} (hrel : ∀ (i : Nat) (o : Oper),ops[i]? = some o → ∃ io,ios[i]? = some io ∧ OpRel G ops N o io) (hlen : ios.length = ops.size)
  (hpairs : ∀ i j,i < ops.size → j < i → ((msks ops.toList []).getD i 0).testBit j = true ∨ ∃ p o,ios[j]? = some p ∧ ios[i]? = some o ∧ p.sfree o = true ∧ dfree (fr j) (fw j) (fr i) (fw i) = true) (hback : backOk ops.toList = true) {Q : Exit → Act → World → Prop} {K : St → Prop} (hq : ∀ S' a' w',K S' → AtF G B X Φ0 w0 N D (fun n => n < base + ops.size) S' a' w' → Q .normal a' w') :
  ∀ (fuel : Nat) (listed : Array Bool) (S : St) (a : Act) (w : World),listed.size = ops.size →
   (∀ (i : Nat) (o : Oper),ops[i]? = some o → listed.getD i false = true → ∀ e ∈ o.after,Region.binds .any e = true → listed.getD e.on false = true) →
   ((List.range ops.size).filter fun i => !listed.getD i true).length ≤ fuel →
   AtF G B X Φ0 w0 N D (fun n => n < base ∨ ∃ i,listed.getD i false = true ∧ n = base + i) S a w → exD ios base fr fw ((List.range ops.size).filter fun i => !listed.getD i true) S K → wpAnyIn (FR R) n G.P .any ops Q fuel listed a w := by
 have hback' : ∀ (i : Nat) (o : Oper),ops[i]? = some o → ∀ e ∈ o.after,Region.binds .any e = true → e.on < i := by
  intro i o hi e he hb
  unfold backOk at hback
  rw [List.all_eq_true] at hback
  have := hback (o,i) (by rw [List.mem_zipIdx_iff_getElem?]; simpa using hi)
  rw [List.all_eq_true] at this
  have := this e (by simpa using he)
  simpa [hb] using this
 obtain ⟨hml,hms⟩ := msks_spec ops.toList ops.toList [] ⟨[],by simp,rfl⟩ (fun i j hi => by simp at hi)
 intro fuel
 induction fuel with
 | zero =>
  intro listed S a w hs hd hl hat h
  have hR : ((List.range ops.size).filter fun i => !listed.getD i true) = [] := List.length_eq_zero_iff.1 (by omega)
  rw [hR] at h
  have hsz : ∀ i,listed.getD i false = true → i < ops.size := fun i hi => by
   by_cases hc : i < ops.size
   ·exact hc
   ·simp [Array.getD,hs,hc] at hi
  refine ⟨?_,hq _ _ _ h (hat.mono fun n hn => by rcases hn with hn | ⟨i,hi,rfl⟩; omega; have := hsz i hi; omega)⟩
  rw [List.eq_nil_iff_forall_not_mem]
  intro i hi
  have h1 := mem_ready.1 hi
  obtain ⟨h1,o,ho,_⟩ := h1
  have : i ∈ ((List.range ops.size).filter fun i => !listed.getD i true) := by
   rw [List.mem_filter]
   exact ⟨List.mem_range.2 (Array.getElem?_eq_some_iff.1 ho).1,by simp [h1]⟩
  rw [hR] at this
  cases this
 | succ fuel ih =>
  intro listed S a w hs hd hl hat h
  have hsz : ∀ i,listed.getD i false = true → i < ops.size := fun i hi => by
   by_cases hc : i < ops.size
   ·exact hc
   ·simp [Array.getD,hs,hc] at hi
  have getD_eq : ∀ k,k < ops.size → listed.getD k true = listed.getD k false := by
   intro k hk
   simp [Array.getD,hs,hk]
  refine ⟨?_,?_⟩
  ·-- nothing is ready: all has run
   intro hnil
   cases hR : ((List.range ops.size).filter fun i => !listed.getD i true) with
   | nil => rw [hR] at h; exact hq _ _ _ h (hat.mono fun n hn => by rcases hn with hn | ⟨i,hi,rfl⟩; omega; have := hsz i hi; omega)
   | cons i0 r0 =>
    exfalso
    -- the first that has not run is ready
    have hex : ∃ n,n < ops.size ∧ listed.getD n true = false := by
     have : i0 ∈ ((List.range ops.size).filter fun i => !listed.getD i true) := by rw [hR]; simp
     rw [List.mem_filter] at this
     exact ⟨i0,List.mem_range.1 this.1,by simpa using this.2⟩
    obtain ⟨n,⟨hn1,hn2⟩,hmin⟩ := exists_least hex
    have hop : ops[n]? = some ops[n] := Array.getElem?_eq_getElem hn1
    have : n ∈ Region.ready .any ops listed := by
     rw [mem_ready]
     refine ⟨hn2,_,hop,fun e he hb => ?_⟩
     have hlt := hback' n _ hop e he hb
     cases hc : listed.getD e.on false with
     | true => rfl
     | false =>
      exfalso
      have := hmin e.on ⟨by omega,by rw [getD_eq _ (by omega)]; exact hc⟩
      omega
    rw [hnil] at this
    cases this
  ·intro i hi
   obtain ⟨h1,o,ho,h2⟩ := mem_ready.1 hi
   have hisz : i < ops.size := (Array.getElem?_eq_some_iff.1 ho).1
   obtain ⟨io,hio,hr⟩ := hrel i o ho
   have hmem : i ∈ ((List.range ops.size).filter fun i => !listed.getD i true) := by
    rw [List.mem_filter]
    exact ⟨List.mem_range.2 hisz,by simp [h1]⟩
   obtain ⟨l1,l2,hR⟩ := List.append_of_mem hmem
   have hsorted : (((List.range ops.size).filter fun i => !listed.getD i true)).Pairwise (· < ·) := List.Pairwise.filter _ List.pairwise_lt_range
   rw [hR] at hsorted h
   have hl1 : ∀ j ∈ l1,j < i := by
    intro j hj
    rw [List.pairwise_append] at hsorted
    exact hsorted.2.2 j hj i (by simp)
   have hl1' : ∀ j ∈ l1,j < ops.size ∧ listed.getD j true = false := by
    intro j hj
    have : j ∈ ((List.range ops.size).filter fun i => !listed.getD i true) := by rw [hR]; simp [hj]
    rw [List.mem_filter] at this
    exact ⟨List.mem_range.1 this.1,by simpa using this.2⟩
   -- what must come before has run
   have before : ∀ n,∀ k,k ≤ n → (∀ o',ops[k]? = some o' → ∀ e ∈ o'.after,Region.binds .any e = true → listed.getD e.on false = true) → ∀ j,((msks ops.toList []).getD k 0).testBit j = true → listed.getD j false = true := by
    intro n
    induction n with
    | zero =>
     intro k hk hp j hj
     obtain ⟨o',ho',e,he,hb,h3⟩ := hms k j hj
     have ho'' : ops[k]? = some o' := by simpa using ho'
     have := hback' k o' ho'' e (by simpa using he) hb
     omega
    | succ n ihn =>
     intro k hk hp j hj
     obtain ⟨o',ho',e,he,hb,h3⟩ := hms k j hj
     have ho'' : ops[k]? = some o' := by simpa using ho'
     have hlt := hback' k o' ho'' e (by simpa using he) hb
     have hon := hp o' ho'' e (by simpa using he) hb
     rcases h3 with h3 | h3
     ·rw [← h3]; exact hon
     ·exact ihn e.on (by omega) (fun o2 ho2 e2 he2 hb2 => hd e.on o2 ho2 hon e2 he2 hb2) j h3
   have hfree : ∀ j ∈ l1,∃ p,ios[j]? = some p ∧ p.sfree io = true ∧ dfree (fr j) (fw j) (fr i) (fw i) = true := by
    intro j hj
    obtain ⟨hj1,hj2⟩ := hl1' j hj
    have hji := hl1 j hj
    rcases hpairs i j hisz hji with h4 | ⟨p,o2,hp,ho2,h5,h6⟩
    ·exfalso
     have h5 := before i i (Nat.le_refl _) (fun o2 ho2 => by rw [ho] at ho2; cases ho2; exact h2) j h4
     rw [getD_eq _ hj1,h5] at hj2
     cases hj2
    ·rw [hio] at ho2; cases ho2
     exact ⟨p,hp,h5,h6⟩
   have hT := (exD_front hio l1 l2 S K hfree h).2
   have hfilter : ((List.range ops.size).filter fun k => !(listed.setIfInBounds i true).getD k true) = l1 ++ l2 := by
    have hnd : i ∉ l1 ++ l2 := by
     intro hm
     have hnodup : (l1 ++ i :: l2).Nodup := hsorted.imp (fun h => Nat.ne_of_lt h)
     rw [List.nodup_append] at hnodup
     rcases List.mem_append.1 hm with hm | hm
     ·exact hnodup.2.2 i hm i (by simp) rfl
     ·exact (List.nodup_cons.1 hnodup.2.1).1 hm
    have hcomp : ((List.range ops.size).filter fun k => !(listed.setIfInBounds i true).getD k true) = ((List.range ops.size).filter fun k => !listed.getD k true).filter (fun k => k != i) := by
     rw [List.filter_filter]
     apply List.filter_congr
     intro k hk
     have hk' := List.mem_range.1 hk
     by_cases hki : k = i
     ·subst hki; simp [Array.getD,hs,hk']
     ·simp [Array.getD,hs,hk',hki,Ne.symm hki]
    rw [hcomp,hR,List.filter_append,List.filter_cons]
    have e1 : l1.filter (fun k => k != i) = l1 := List.filter_eq_self.2 fun k hk => by
     have : k ≠ i := fun e => hnd (List.mem_append_left _ (e ▸ hk))
     simpa using this
    have e2 : l2.filter (fun k => k != i) = l2 := List.filter_eq_self.2 fun k hk => by
     have : k ≠ i := fun e => hnd (List.mem_append_right _ (e ▸ hk))
     simpa using this
    simp [e1,e2]
   have hnot : ¬ (base + i < base ∨ ∃ i',listed.getD i' false = true ∧ base + i = base + i') := by
    rintro (hc | ⟨i',h3,h4⟩)
    ·omega
    ·have : i' = i := by omega
     rw [this,← getD_eq i hisz,h1] at h3; cases h3
   refine wpOpF_ok ho hr (S := S.nx (base + i)) (hat.next _) hnot hT fun S' a' w' hk _ hat' => ?_
   have hatn : AtF G B X Φ0 w0 N D (fun n => n < base ∨ ∃ i',(listed.setIfInBounds i true).getD i' false = true ∧ n = base + i') (S'.nx 0) a' w' := by
    refine AtF.next (hat'.mono fun n hn => ?_) 0
    rcases hn with (hn | ⟨i',h3,h4⟩) | ⟨hn,_⟩
    ·exact .inl hn
    ·refine .inr ⟨i',?_,h4⟩
     have hi' := hsz i' h3
     by_cases hmi : i' = i
     ·subst hmi; simp [Array.getD,hs,hi']
     ·simp [Array.getD,hs,hi',Ne.symm hmi] at h3 ⊢
      exact h3
    ·exact .inr ⟨i,by simp [Array.getD,hs,hisz],hn⟩
   refine ih (listed.setIfInBounds i true) (S'.nx 0) a' w' (by simpa using hs) ?_ ?_ hatn (by rw [hfilter]; exact hk)
   ·intro k o2 ho2 hk2 e he hb
    have set_mono : ∀ m,listed.getD m false = true → (listed.setIfInBounds i true).getD m false = true := by
     intro m hm
     by_cases hmi : m = i
     ·subst hmi; simp [Array.getD,hs,hisz]
     ·simp only [Array.getD] at hm ⊢
      split at hm
      ·rename_i hlt
       simp [hlt,Ne.symm hmi]
       simpa using hm
      ·cases hm
    by_cases hki : k = i
    ·subst hki
     rw [ho] at ho2; cases ho2
     exact set_mono _ (h2 e he hb)
    ·have : listed.getD k false = true := by
      have hksz := (Array.getElem?_eq_some_iff.1 ho2).1
      simpa [Array.getD,hs,hksz,Array.getElem_setIfInBounds,Ne.symm hki] using hk2
     exact set_mono _ (hd k o2 ho2 this e he hb)
   ·rw [hfilter]
    rw [hR] at hl
    simp at hl ⊢
    omega


end region

abbrev FPs := List (List Nat × List Nat)
/-- The operations in the text's order, each with its own name; what they touched. -/
def exRun (base : Nat) : Nat → List IOp → St → (St → FPs → Prop) → Prop
 | _,[],S,K => K S []
 | k,o :: r,S,K => exN o (base + k) S (fun S' => exRun base (k + 1) r S' (fun S2 fps => K S2 ((fpRO o S,fpWO o (base + k) S) :: fps)))

def okPairs (pairs : List (Nat × Nat)) (fps : FPs) : Bool :=
 pairs.all fun p => match fps[p.1]?,fps[p.2]? with
  | some a,some b => dfree a.1 a.2 b.1 b.2
  | _,_ => false

theorem exRun_D (ios : List IOp) (base : Nat) : ∀ (l : List IOp) (k : Nat) (S : St) (K : St → FPs → Prop),(∀ j,l[j]? = ios[k + j]?) → exRun base k l S K →
  ∃ fps : FPs,fps.length = l.length ∧ (∀ (j : Nat) (o : IOp),l[j]? = some o → ∃ T nm,fps[j]? = some (fpRO o T,fpWO o nm T)) ∧
   ∀ fr fw : Nat → List Nat,(∀ (j : Nat) (p : List Nat × List Nat),fps[j]? = some p → fr (k + j) = p.1 ∧ fw (k + j) = p.2) → exD ios base fr fw (List.range' k l.length) S (fun S' => K S' fps)
 | [],k,S,K,_,h => ⟨[],rfl,(fun j o hj => by simp at hj),fun fr fw _ => h⟩
 | o :: l,k,S,K,hl,h => by
  have h0 : ios[k]? = some o := by have := hl 0; simpa using this.symm
  simp only [exRun] at h
  obtain ⟨r,Dl,w1,h1,h2⟩ := exN_det h
  obtain ⟨fps,e1,e2,e3⟩ := exRun_D ios base l (k + 1) _ _ (fun j => by have := hl (j + 1); simp at this; rw [this]; congr 1; omega) h1
  refine ⟨(fpRO o S,fpWO o (base + k) S) :: fps,by simp [e1],?_,?_⟩
  ·intro j o' hj
   cases j with
   | zero => simp at hj; subst hj; exact ⟨S,base + k,rfl⟩
   | succ j => simp at hj; exact e2 j o' hj
  ·intro fr fw hfp
   have hf0 := hfp 0 _ rfl
   simp only [List.length_cons,List.range'_succ,exD,h0]
   refine ⟨⟨hf0.1.symm,hf0.2.symm⟩,?_⟩
   refine h2 S _ (fun _ _ => rfl) (fun _ _ => rfl) (e3 fr fw fun j p hj => ?_)
   have := hfp (j + 1) p (by simpa using hj)
   have e : k + 1 + j = k + (j + 1) := by omega
   rw [e]; exact this

theorem fp_cls {o : IOp} {S : St} {nm : Nat} : (o.io.cls = 0 → fpRO o S = [] ∧ fpWO o nm S = []) ∧ (o.io.cls = 1 → fpWO o nm S = []) := by
 have h1 : o.io.cls = 0 → o.io.hr = [] ∧ o.io.hw = [] ∧ o.io.hn = false := by
  intro h
  cases hi : o.io <;> rw [hi] at h <;> first | exact ⟨rfl,rfl,rfl⟩ | cases h
 have h2 : o.io.cls = 1 → o.io.hw = [] ∧ o.io.hn = false := by
  intro h
  cases hi : o.io <;> rw [hi] at h <;> first | exact ⟨rfl,rfl⟩ | cases h
 refine ⟨fun h => ?_,fun h => ?_⟩
 ·obtain ⟨a1,a2,a3⟩ := h1 h
  refine ⟨?_,?_⟩
  ·unfold fpRO fpR; rw [a1]; cases o.runs S <;> rfl
  ·unfold fpWO fpW; rw [a2,a3]; cases o.runs S <;> rfl
 ·obtain ⟨a2,a3⟩ := h2 h
  unfold fpWO fpW; rw [a2,a3]; cases o.runs S <;> rfl

theorem free_dfree {a b : IOp} (h : a.free b = true) {Sa Sb : St} {na nb : Nat} : a.sfree b = true ∧ dfree (fpRO a Sa) (fpWO a na Sa) (fpRO b Sb) (fpWO b nb Sb) = true := by
 simp only [IOp.free,Bool.and_eq_true] at h
 obtain ⟨⟨f1,f2⟩,f3⟩ := h
 refine ⟨by simp only [IOp.sfree,Bool.and_eq_true]; exact ⟨f1,f2⟩,?_⟩
 have hcl : a.io.cls = 0 ∨ b.io.cls = 0 ∨ (a.io.cls = 1 ∧ b.io.cls = 1) := by
  simp only [Bool.or_eq_true,beq_iff_eq,Bool.and_eq_true] at f3
  omega
 unfold dfree
 rcases hcl with h | h | ⟨h1,h2⟩
 ·obtain ⟨e1,e2⟩ := (fp_cls (o := a) (S := Sa) (nm := na)).1 h
  rw [e1,e2]; simp [apart]
 ·obtain ⟨e1,e2⟩ := (fp_cls (o := b) (S := Sb) (nm := nb)).1 h
  rw [e1,e2]; simp [apart]
 ·rw [(fp_cls (o := a) (S := Sa) (nm := na)).2 h1,(fp_cls (o := b) (S := Sb) (nm := nb)).2 h2]; simp [apart]

/-- The pairs that the run must look at. -/
def pairsX (ms : List Nat) (ios : List IOp) (pairs : List (Nat × Nat)) : Bool :=
 (List.range ios.length).all fun i => (List.range i).all fun j => (ms.getD i 0).testBit j ||
  (match ios[j]?,ios[i]? with | some p,some o => p.free o || (p.sfree o && pairs.contains (j,i)) | _,_ => false)

def badPairs (ms : List Nat) (ios : List IOp) : List (Nat × Nat) :=
 (List.range ios.length).flatMap fun i => (List.range i).filterMap fun j => match (ms.getD i 0).testBit j || (match ios[j]?,ios[i]? with | some p,some o => p.free o | _,_ => false) with
  | true => none
  | false => some (j,i)

theorem pairsX_spec {ms : List Nat} {ios : List IOp} {pairs : List (Nat × Nat)} (h : pairsX ms ios pairs = true) {fps : FPs}
  (hf : ∀ (j : Nat) (o : IOp),ios[j]? = some o → ∃ T nm,fps[j]? = some (fpRO o T,fpWO o nm T)) (hok : okPairs pairs fps = true) {i j : Nat} (hi : i < ios.length) (hj : j < i) :
  (ms.getD i 0).testBit j = true ∨ ∃ p o,ios[j]? = some p ∧ ios[i]? = some o ∧ p.sfree o = true ∧ dfree (fps.getD j ([],[])).1 (fps.getD j ([],[])).2 (fps.getD i ([],[])).1 (fps.getD i ([],[])).2 = true := by
 unfold pairsX at h
 rw [List.all_eq_true] at h
 have h1 := h i (List.mem_range.2 hi)
 rw [List.all_eq_true] at h1
 have h2 := h1 j (List.mem_range.2 hj)
 rw [Bool.or_eq_true] at h2
 refine h2.imp id fun h2 => ?_
 have ei : ios[i]? = some ios[i] := List.getElem?_eq_getElem hi
 have ej : ios[j]? = some ios[j] := List.getElem?_eq_getElem (by omega)
 rw [ei,ej] at h2
 simp only [Bool.or_eq_true,Bool.and_eq_true] at h2
 obtain ⟨Ti,ni,fi⟩ := hf i _ ei
 obtain ⟨Tj,nj,fj⟩ := hf j _ ej
 refine ⟨_,_,ej,ei,?_⟩
 rw [List.getD_eq_getElem?_getD,List.getD_eq_getElem?_getD,fi,fj]
 simp only [Option.getD_some]
 rcases h2 with h2 | ⟨h2,h3⟩
 ·exact free_dfree h2
 ·refine ⟨h2,?_⟩
  unfold okPairs at hok
  rw [List.all_eq_true] at hok
  have := hok (j,i) (by simpa using h3)
  simp only [fi,fj] at this
  exact this

end Qk

/-
  Code, functions and their contracts.
-/
namespace Qk
open Go Go.RowKit

abbrev Heap := Nat → Option AO
/-- What a call does whose callee shares the caller's memory. -/
abbrev HTran := List AV → Heap → Nat → (AV → Heap → Nat → Prop) → Prop
/-- What a call of yield does: by the loop's record; whether the loop goes on. -/
abbrev YT := Nat → List AV → Heap → Nat → (Bool → Heap → Nat → Prop) → Prop
/-- What an iterator does, by what its yield does. -/
abbrev ITran := (List AV → Heap → Nat → (Bool → Heap → Nat → Prop) → Prop) → List AV → Heap → Nat → (Heap → Nat → Prop) → Prop
/-- What is known of a loop's record, by the way in which its body was left. -/
abbrev RecF := Option Exit → World → Hd → Prop

abbrev Gd := Option (Nat × Bool)

/-- Operations in the order of the text: among them calls that share the memory, and calls of yield. -/
inductive SO where
 | op (o : IOp)
 | call (g : Gd) (d : Option Nat) (T : HTran) (args : List Operand)
 | dyn (o : IOp) (Γ : Nat → Option HTran) (x : Operand) (args : List Operand)
 | rng (d : Option Nat) (x : Operand)
 | nxt (d : Option Nat) (it : Operand)
 | ent (d : Option Nat) (it : Operand)
 | rngS (d : Option Nat) (x : Operand)
 | nxtS (d : Option Nat) (it : Operand)

inductive IC where
 | skip
 | ops (l : List IOp)
 | rops (pairs : List (Nat × Nat)) (l : List IOp)
 | sops (l : List SO)
 | seq (a b : IC)
 | cond (c : Operand) (t e : IC)
 | block (id : Nat) (b : IC)
 | loop (b : IC)
 | rfunc (its : Nat → Option ITran) (g : Operand) (ps : List Nat) (b : IC)
 | rfuncX (its : Nat → Option ITran) (g : Operand) (ps : List Nat) (a b : IC)
 | exit (id : Nat)
 | ret
 | jn (b : IC)
 | jnT (b : IC)

/-- What a code is walked in: the names below m keep their meaning; the yield at hand. -/
structure Cx where
 m : Nat
 Y : YT
  /-- the outermost code of a contract -/
 ot : Bool

def noY : YT := fun _ _ _ _ _ => False
def Cx.top : Cx := ⟨0,noY,true⟩

/-- Whatever frame and world stand to the one state stand to the other: it says less, or names things otherwise, those below m excepted. -/
def SubSt (m : Nat) (S S' : St) : Prop := ∀ G B X Φ0 w0 N D a w,D.m ≤ m → At G B X Φ0 w0 N D S a w → At G B X Φ0 w0 N D S' a w
theorem SubSt.refl {m : Nat} (S : St) : SubSt m S S := fun _ _ _ _ _ _ _ _ _ _ h => h
theorem SubSt.trans {m : Nat} {S T U : St} (h : SubSt m S T) (k : SubSt m T U) : SubSt m S U := fun _ _ _ _ _ _ _ _ _ hm e => k _ _ _ _ _ _ _ _ _ hm (h _ _ _ _ _ _ _ _ _ hm e)

def SubTop (S S' : St) : Prop := ∀ G B Φ0 w0 N D a w,D.m ≤ 0 → At G B (fun _ => False) Φ0 w0 N D S a w → At G B (fun _ => False) Φ0 w0 N D S' a w
theorem SubTop.refl (S : St) : SubTop S S := fun _ _ _ _ _ _ _ _ _ h => h
theorem SubTop.trans {S T U : St} (h : SubTop S T) (k : SubTop T U) : SubTop S U := fun _ _ _ _ _ _ _ _ hm e => k _ _ _ _ _ _ _ _ hm (h _ _ _ _ _ _ _ _ hm e)
theorem SubSt.top {S T : St} (h : SubSt 0 S T) : SubTop S T := fun _ _ _ _ _ _ _ _ hm e => h _ _ _ _ _ _ _ _ _ hm e

def grd (g : Gd) (S : St) (run skip : Prop) : Prop :=
 match g with
 | none => run
 | some (g,want) => match S.env g with
  | some (.bool b) => match want with
   | true => cond b run skip
   | false => cond b skip run
  | some (.raw (.tuple _)) => skip
  | _ => False

def sos (Y : YT) : List SO → St → (St → Prop) → Prop
 | [],S,K => K S
 | .op o :: r,S,K => exO o S (fun S' => sos Y r S' K)
 | .call g d T args :: r,S,K => grd g S
   (match S.evs args with
   | some vs => T vs S.heap S.next (fun v H nx => sos Y r (St.set ⟨S.env,H,nx⟩ d v) K)
   | none => False) (sos Y r (S.set d (.raw undef)) K)
 | .dyn o Γ x args :: r,S,K => match S.ev x with
  | some (.raw (.func (.yield l) f _)) => grd o.guard S
   (match S.evs args with
   | some vs => f = #[] ∧ Y l vs S.heap S.next (fun y H nx => sos Y r (St.set ⟨S.env,H,nx⟩ o.dst (.bool y)) K)
   | none => False) (sos Y r (S.set o.dst (.raw undef)) K)
  | some (.clo t caps) => match Γ t with
   | some T => grd o.guard S
    (match S.evs args with
    | some vs => T (vs ++ caps) S.heap S.next (fun v H nx => sos Y r (St.set ⟨S.env,H,nx⟩ o.dst v) K)
    | none => False) (sos Y r (S.set o.dst (.raw undef)) K)
   | none => exO o S (fun S' => sos Y r S' K)
  | _ => exO o S (fun S' => sos Y r S' K)
 | .rng d x :: r,S,K => match S.ev x with
  | some (.hnd n) => match S.heap n with
   | some (.opq R) => ∃ m,R = mapR m ∧ sos Y r (St.set ⟨S.env,upd (upd S.heap n none) S.next (some (.opq (rangeR n m (fun _ => False) none))),S.next + 1⟩ d (.ref S.next 0)) K
   | _ => False
  | _ => False
 | .nxt d it :: r,S,K => match S.ev it with
  | some (.ref j 0) => match S.heap j with
   | some (.opq R) => ∃ n m D cur,(R = rangeR n m D cur ∧ n ≠ j ∧ S.heap n = none) ∧
     (∀ k v,m.M k v → ¬ D k → sos Y r (St.set ⟨S.env,upd S.heap j (some (.opq (rangeR n m (fun x => x = k ∨ D x) (some (k,v))))),S.next⟩ d (.tup [.bool true,k,v])) K) ∧
     ((∀ k v,m.M k v → D k) → sos Y r (St.set ⟨S.env,upd (upd S.heap j none) n (some (.opq (mapR m))),S.next⟩ d (.tup [.bool false])) K)
   | _ => False
  | _ => False
 | .ent d it :: r,S,K => match S.ev it with
  | some (.ref j 0) => match S.heap j with
   | some (.opq R) => ∃ n m D k v,R = rangeR n m D (some (k,v)) ∧ sos Y r (S.set d (.tup [k,v])) K
   | _ => False
  | _ => False
 | .rngS d x :: r,S,K => match S.ev x with
  | some (.str l) => sos Y r (St.set ⟨S.env,upd S.heap S.next (some (.opq (strItR l 0))),S.next + 1⟩ d (.ref S.next 0)) K
  | _ => False
 | .nxtS d it :: r,S,K => match S.ev it with
  | some (.ref j 0) => match S.heap j with
   | some (.opq R) => ∃ l p,R = strItR l p ∧
     (p < l.length → sos Y r (St.set ⟨S.env,upd S.heap j (some (.opq (strItR l (p + (decU l p).2)))),S.next⟩ d (.tup [.bool true,.int .i64 p,.int .i32 (decU l p).1])) K) ∧
     (l.length ≤ p → sos Y r (S.set d (.tup [.bool false])) K)
   | _ => False
  | _ => False

/-- The slots ks hold the values. -/
def updL (env : Nat → Option AV) : List Nat → List AV → Nat → Option AV
 | k :: ks,v :: vs => updL (upd env k (some v)) ks vs
 | _,_ => env

/-- The end of a round, by whatever way. -/
def xK (n : Nat) (Rf : RecF) (J : Bool → Heap → Nat → Prop) : Exit → St → Prop := fun e S' => match e with
 | .normal => S'.heap n = none ∧ J true (upd S'.heap n (some (.opq (tokR (Rf none))))) S'.next
 | .exit id => S'.heap n = none ∧ J false (upd S'.heap n (some (.opq (tokR (Rf (some (.exit id))))))) S'.next
 | .ret => S'.heap n = none ∧ J false (upd S'.heap n (some (.opq (tokR (Rf (some .ret)))))) S'.next
 | _ => False

def awp (c : Cx) : IC → (Exit → St → Prop) → St → Prop
 | .skip,K,S => K .normal S
 | .ops l,K,S => exOs l S (K .normal)
 | .rops pairs l,K,S => exRun S.next 0 l (S.nx 0) (fun S' fps => okPairs pairs fps = true ∧ K .normal (S'.nx (S.next + l.length)))
 | .sops l,K,S => sos c.Y l S (K .normal)
 | .seq a b,K,S => awp c a (fun e S' => match e with | .normal => awp c b K S' | e => K e S') S
 | .cond x t e,K,S => match S.ev x with
  | some (.bool b) => cond b (awp c t K S) (awp c e K S)
  | _ => False
 | .block id b,K,S => awp c b (fun e S' => match e with | .exit j => cond (Nat.beq j id) (K .normal S') (K (.exit j) S') | e => K e S') S
 | .loop b,K,S => ∃ (X : Type) (ok : X → Prop) (I : X → St) (μ : X → Nat) (x0 : X),ok x0 ∧ SubSt c.m S (I x0) ∧
   ∀ x,ok x → awp c b (fun e S' => match e with | .normal => ∃ x',ok x' ∧ μ x' < μ x ∧ SubSt c.m S' (I x') | e => K e S') (I x)
 | .rfunc its g ps b,K,S => match S.ev g with
  | some (.clo t caps) => match its t with
   | some T => T (fun vs H nx J => vs.length = ps.length ∧ awp ⟨nx,c.Y,false⟩ b (fun e S' => match e with | .normal => J true S'.heap S'.next | _ => False) ⟨updL S.env ps vs,H,nx⟩)
     caps S.heap S.next (fun H nx => K .normal ⟨S.env,H,nx⟩)
   | none => False
  | _ => False
 | .rfuncX its g ps a b,K,S => match S.ev g with
  | some (.clo t caps) => match its t with
   | some T => ∀ Rf : RecF,T (fun vs H nx J => (vs.length = ps.length ∧ H S.next = some (.opq (tokR (Rf none)))) ∧
      awp ⟨nx,c.Y,false⟩ a (fun e S' => match e with | .normal => awp ⟨nx,c.Y,false⟩ b (xK S.next Rf J) S' | _ => False) ⟨updL S.env ps vs,upd H S.next none,nx⟩)
     caps (upd S.heap S.next (some (.opq (tokR (Rf none))))) (S.next + 1)
     (fun H nx => ∃ j,H S.next = some (.opq (tokR (Rf j))) ∧ K (match j with | some e => e | none => .normal) ⟨S.env,upd H S.next none,nx⟩)
   | none => False
  | _ => False
 | .exit id,K,S => K (.exit id) S
 | .ret,K,S => K .ret S
 | .jn b,K,S => ∃ K' : Exit → St → Prop,(∀ e S',K' e S' → ∃ S'',SubSt c.m S' S'' ∧ K e S'') ∧ awp c b K' S
 | .jnT b,K,S => (c.ot = true ∧ c.m = 0) ∧ ∃ K' : Exit → St → Prop,(∀ e S',K' e S' → ∃ S'',SubTop S' S'' ∧ K e S'') ∧ awp c b K' S

/-- Ways that meet again meet in the states I. -/
theorem jn_at {c : Cx} {b : IC} {K : Exit → St → Prop} {S : St} {X : Type} (I : X → St) (ok : X → Prop)
  (h : awp c b (fun e S' => match e with | .normal => ∃ x,ok x ∧ SubSt c.m S' (I x) | e => K e S') S) (hr : ∀ x,ok x → K .normal (I x)) : awp c (.jn b) K S := by
 refine ⟨_,?_,h⟩
 intro e S' hk
 cases e with
 | normal => obtain ⟨x,h1,h2⟩ := hk; exact ⟨I x,h2,hr x h1⟩
 | exit id => exact ⟨S',SubSt.refl _,hk⟩
 | goto l => exact ⟨S',SubSt.refl _,hk⟩
 | ret => exact ⟨S',SubSt.refl _,hk⟩
 | panic ch => exact ⟨S',SubSt.refl _,hk⟩
 | outgrown => exact ⟨S',SubSt.refl _,hk⟩
theorem jn_plain {c : Cx} {b : IC} {K : Exit → St → Prop} {S : St} (h : awp c b K S) : awp c (.jn b) K S := ⟨K,fun _ S' hk => ⟨S',SubSt.refl _,hk⟩,h⟩

/-- Yield does what is said of it. -/
def YOk (G : Gl) (Y : YT) (B : Nat) (X : Nat → Prop) (w0 : World) (Φ0 : Phi) (nm0 : Nm) : Prop :=
 ∀ l us vs H nx K B1 X1 w1 ρ Φ w n,Ext B X w0 B1 X1 w1 → B1 ≤ w1.heap.size → NmLe nm0 ρ → PhiLe Φ0 Φ → (∀ b o,Φ b = some o → Φ0 b = some o ∨ B ≤ b) →
  Wf G B1 X1 w1 ρ Φ H nx w → vs.size = us.length → RepAt G Φ us ρ vs 0 → Y l us H nx K →
  ∃ fn tmps asg body,(Instr.yield l vs).run G.P w = .ok (.round l fn tmps asg body) w ∧ RoundIn Fence.wide n G.P l fn tmps asg body w (fun e w' => ∃ y,e = .returned (.bool y) ∧
   ∃ H' nx' ρ' Φ',K y H' nx' ∧ NmLe ρ ρ' ∧ PhiLe Φ Φ' ∧ (∀ b o,Φ' b = some o → Φ b = some o ∨ B1 ≤ b) ∧ Wf G B1 X1 w1 ρ' Φ' H' nx' w')

theorem YOk.none {G : Gl} {B : Nat} {X : Nat → Prop} {w0 : World} {Φ0 : Phi} {nm0 : Nm} : YOk G noY B X w0 Φ0 nm0 := fun _ _ _ _ _ _ _ _ _ _ _ _ _ _ _ _ _ _ _ _ _ h => h.elim
theorem YOk.ext {G : Gl} {Y : YT} {B : Nat} {X : Nat → Prop} {w0 : World} {Φ0 : Phi} {nm0 : Nm} {B1 : Nat} {X1 : Nat → Prop} {w1 : World} {Φ1 : Phi} {nm1 : Nm} (h : YOk G Y B X w0 Φ0 nm0) (e : Ext B X w0 B1 X1 w1)
  (hm : NmLe nm0 nm1) (hle : PhiLe Φ0 Φ1) (hn : ∀ b o,Φ1 b = some o → Φ0 b = some o ∨ B ≤ b) : YOk G Y B1 X1 w1 Φ1 nm1 :=
 fun l us vs H nx K B2 X2 w2 ρ Φ w n e2 hb hm2 hle2 hn2 => h l us vs H nx K B2 X2 w2 ρ Φ w n (e.trans e2) hb (hm.trans hm2) (hle.trans hle2) (fun b o eq => (hn2 b o eq).elim (hn b o) (fun q => .inr (Nat.le_trans e.le q)))

/-- An iterator, whatever its yield does. -/
def KeepsI (G : Gl) (T : ITran) (f : FuncId) : Prop :=
 (∃ fn,G.P.funcs[f]? = some fn ∧ fn.body.isNone = false ∧ (fn.name == "runtime.NumGoroutine") = false) ∧
 ∀ l Y B X w0 ρ Φ H nx w us vs K,B ≤ w0.heap.size → YOk G (fun l' us H nx J => l' = l ∧ Y us H nx J) B X w0 Φ ρ → Wf G B X w0 ρ Φ H nx w → vs.size = us.length → RepAt G Φ us ρ vs 0 → T Y us H nx K →
  Calls G.P f (#[.func (.yield l) #[] #[]] ++ vs) w (fun e w' => ∃ v ρ' Φ' H' nx',e = .returned v ∧ K H' nx' ∧ NmLe ρ ρ' ∧ PhiLe Φ Φ' ∧ (∀ b o,Φ' b = some o → Φ b = some o ∨ B ≤ b) ∧
   Wf G B X w0 ρ' Φ' H' nx' w')

/-- A call of the function f shares the memory so. -/
def KeepsH (G : Gl) (T : HTran) (f : FuncId) : Prop :=
 (∃ fn,G.P.funcs[f]? = some fn ∧ fn.body.isNone = false ∧ (fn.name == "runtime.NumGoroutine") = false) ∧
 ∀ B X w0 ρ Φ H nx w us vs K,B ≤ w0.heap.size → Wf G B X w0 ρ Φ H nx w → vs.size = us.length → RepAt G Φ us ρ vs 0 → T us H nx K →
  Calls G.P f vs w (fun e w' => ∃ r v ρ' Φ' H' nx',e = .returned v ∧ K r H' nx' ∧ NmLe ρ ρ' ∧ PhiLe Φ Φ' ∧ (∀ b o,Φ' b = some o → Φ b = some o ∨ B ≤ b) ∧
   Wf G B X w0 ρ' Φ' H' nx' w' ∧ Rep G Φ' r ρ' v)

/-- What is known of the round at hand: its record lies in the base, and nothing touches it. -/
def RdOk (rd : Bool) (R : Option Nat) (B : Nat) (X : Nat → Prop) (w0 : World) : Prop := (rd = false → R = none) ∧ ∀ l,R = some l → l < B ∧ ¬ X l ∧ ∃ r,w0.heap[l]? = some (.loop r)
theorem RdOk.none {rd : Bool} {B : Nat} {X : Nat → Prop} {w0 : World} : RdOk rd none B X w0 := ⟨fun _ => rfl,fun _ e => by cases e⟩

def CodeOk (G : Gl) (N : Nat) (rd : Bool) (c : Code) (ic : IC) : Prop :=
 ∀ (x : Cx) (R : Option Nat) (n : Nat) (B : Nat) (X : Nat → Prop) (Φ0 : Phi) (w0 : World) (D : Fl) (K : Exit → St → Prop) (S : St) (a : Act) (w : World) (Q : Exit → Act → World → Prop),
  RdOk rd R B X w0 → (D.m ≤ x.m ∧ (x.ot = true → X = fun _ => False)) → YOk G x.Y B X w0 Φ0 D.nm →
  At G B X Φ0 w0 N D S a w → awp x ic K S → (∀ e S' a' w',K e S' → At G B X Φ0 w0 N D S' a' w' → Q e a' w') → c.wpIn (FR R) n G.P Q a w

section
variable {G : Gl} {N : Nat} {rd : Bool}

theorem CodeOk.skip : CodeOk G N rd .skip .skip := fun _ _ _ _ _ _ _ _ _ _ _ _ _ _ _ _ hat h hq => wpIn_skip (hq _ _ _ _ h hat)
theorem CodeOk.exit {id : Nat} : CodeOk G N rd (.exit id) (.exit id) := fun _ _ _ _ _ _ _ _ _ _ _ _ _ _ _ _ hat h hq => wpIn_exit (hq _ _ _ _ h hat)
theorem CodeOk.ret : CodeOk G N rd .ret .ret := fun _ _ _ _ _ _ _ _ _ _ _ _ _ _ _ _ hat h hq => wpIn_ret (hq _ _ _ _ h hat)
theorem CodeOk.label {l : Nat} : CodeOk G N rd (.label l) .skip := fun _ _ _ _ _ _ _ _ _ _ _ _ _ _ _ _ hat h hq => wpIn_label (hq _ _ _ _ h hat)

theorem CodeOk.seq {c d : Code} {ic id : IC} (h1 : CodeOk G N rd c ic) (h2 : CodeOk G N rd d id) : CodeOk G N rd (.seq c d) (.seq ic id) := by
 intro x R n B X Φ0 w0 D K S a w Q hR hm hY hat h hq
 refine wpIn_seq (h1 x R n B X Φ0 w0 D _ S a w _ hR hm hY hat h ?_)
 intro e S' a' w' hk hat'
 cases e with
 | normal => exact h2 x R n B X Φ0 w0 D K S' a' w' Q hR hm hY hat' hk hq
 | exit id => exact hq _ _ _ _ hk hat'
 | goto l => exact hq _ _ _ _ hk hat'
 | ret => exact hq _ _ _ _ hk hat'
 | panic ch => exact hq _ _ _ _ hk hat'
 | outgrown => exact hq _ _ _ _ hk hat'

theorem CodeOk.cond {x : Operand} {c d : Code} {ic jc : IC} (h1 : CodeOk G N rd c ic) (h2 : CodeOk G N rd d jc) : CodeOk G N rd (.cond x c d) (.cond x ic jc) := by
 intro cx R n B X Φ0 w0 D K S a w Q hR hm hY hat h hq
 simp only [awp] at h
 split at h
 case h_2 => exact h.elim
 rename_i b hb
 obtain ⟨B1,X1,w1,ρ,Φ,a1,a2,a3,a4,a5,a6⟩ := id hat
 have h0 := evRel a5 hb
 simp only [Rep] at h0
 refine wpIn_cond h0 ?_
 cases b
 ·exact h2 cx R n B X Φ0 w0 D K S a w Q hR hm hY hat h hq
 ·exact h1 cx R n B X Φ0 w0 D K S a w Q hR hm hY hat h hq

theorem CodeOk.block {id : Nat} {c : Code} {ic : IC} (h1 : CodeOk G N rd c ic) : CodeOk G N rd (.block id c) (.block id ic) := by
 intro x R n B X Φ0 w0 D K S a w Q hR hm hY hat h hq
 refine wpIn_block (h1 x R n B X Φ0 w0 D _ S a w _ hR hm hY hat h ?_)
 intro e S' a' w' hk hat'
 cases e with
 | exit j =>
  simp only [Exit.inBlock]
  simp only at hk
  by_cases hj : j = id
  ·subst hj
   have : Nat.beq j j = true := by simp
   rw [this] at hk
   rw [if_pos rfl]
   exact hq _ _ _ _ hk hat'
  ·have : Nat.beq j id = false := by
    cases hh : Nat.beq j id with
    | true => exact absurd (Nat.eq_of_beq_eq_true hh) hj
    | false => rfl
   rw [this] at hk
   rw [if_neg hj]
   exact hq _ _ _ _ hk hat'
 | normal => exact hq _ _ _ _ hk hat'
 | goto l => exact hq _ _ _ _ hk hat'
 | ret => exact hq _ _ _ _ hk hat'
 | panic ch => exact hq _ _ _ _ hk hat'
 | outgrown => exact hq _ _ _ _ hk hat'

theorem CodeOk.loop {c : Code} {ic : IC} (h1 : CodeOk G N rd c ic) : CodeOk G N rd (.loop c) (.loop ic) := by
 intro cx R n B X Φ0 w0 D K S a w Q hR hm hY hat h hq
 simp only [awp] at h
 obtain ⟨T,ok,I,μ,x0,hok,hsub,hround⟩ := h
 refine wpIn_loop_ghost (fun n a w => ∃ x,ok x ∧ μ x = n ∧ At G B X Φ0 w0 N D (I x) a w) (μ x0) ⟨x0,hok,rfl,hsub _ _ _ _ _ _ _ _ _ hm.1 hat⟩ ?_
 rintro k a' w' ⟨x,hokx,rfl,hat'⟩
 refine h1 cx R n B X Φ0 w0 D _ (I x) a' w' _ hR hm hY hat' (hround x hokx) ?_
 intro e S'' a'' w'' hk hat''
 cases e with
 | normal =>
  obtain ⟨x',hok',hlt,hs⟩ := hk
  exact ⟨μ x',hlt,x',hok',rfl,hs _ _ _ _ _ _ _ _ _ hm.1 hat''⟩
 | exit id => exact hq _ _ _ _ hk hat''
 | goto l => exact hq _ _ _ _ hk hat''
 | ret => exact hq _ _ _ _ hk hat''
 | panic ch => exact hq _ _ _ _ hk hat''
 | outgrown => exact hq _ _ _ _ hk hat''

theorem CodeOk.jn {c : Code} {ic : IC} (h1 : CodeOk G N rd c ic) : CodeOk G N rd c (.jn ic) := by
 intro x R n B X Φ0 w0 D K S a w Q hR hm hY hat h hq
 obtain ⟨K',h2,h3⟩ := h
 refine h1 x R n B X Φ0 w0 D K' S a w Q hR hm hY hat h3 ?_
 intro e S' a' w' hk hat'
 obtain ⟨S'',hs,hk'⟩ := h2 e S' hk
 exact hq _ _ _ _ hk' (hs _ _ _ _ _ _ _ _ _ hm.1 hat')

theorem CodeOk.jnT {c : Code} {ic : IC} (h1 : CodeOk G N rd c ic) : CodeOk G N rd c (.jnT ic) := by
 intro x R n B X Φ0 w0 D K S a w Q hR hm hY hat h hq
 obtain ⟨⟨ht,h0⟩,K',h2,h3⟩ := h
 obtain rfl := hm.2 ht
 refine h1 x R n B _ Φ0 w0 D K' S a w Q hR hm hY hat h3 ?_
 intro e S' a' w' hk hat'
 obtain ⟨S'',hs,hk'⟩ := h2 e S' hk
 exact hq _ _ _ _ hk' (hs _ _ _ _ _ _ _ _ (by have := hm.1; omega) hat')

theorem at_drew {B : Nat} {X : Nat → Prop} {Φ0 : Phi} {w0 : World} {D : Fl} {S : St} {a : Act} {w : World} (h : At G B X Φ0 w0 N D S a w) : At G B X Φ0 w0 N D S a { w with drawn := w.drawn + 1 } := by
 obtain ⟨B1,X1,w1,ρ,Φ,a1,a2,a3,a4,a5,a6⟩ := h
 exact ⟨B1,X1,w1,ρ,Φ,a1,a2,a3,a4,a5,a6.drew _⟩

theorem CodeOk.region {id : Nat} {ops : Array Oper} {ios : List IOp} (hrel : ∀ (i : Nat) (o : Oper),ops[i]? = some o → ∃ io,ios[i]? = some io ∧ OpRel G ops N o io) (hlen : ios.length = ops.size) :
  CodeOk G N rd (.region id ops false) (.ops ios) := by
 intro x R n B X Φ0 w0 D K S a w Q hR hm hY hat h hq
 refine wpIn_region ?_
 have h' := exIdx_of ios ios 0 S _ (fun j => by simp) h
 rw [hlen,← List.range_eq_range'] at h'
 exact wpOps_ok hrel _ S _ a w (fun i hi => List.mem_range.1 hi) hat h' fun S' a' w' hk hat' => hq _ _ _ _ hk hat'

theorem CodeOk.regionDraw {id : Nat} {ops : Array Oper} {ios : List IOp} (hm : G.P.follows .mixedOrders = true) (hrel : ∀ (i : Nat) (o : Oper),ops[i]? = some o → ∃ io,ios[i]? = some io ∧ OpRel G ops N o io)
  (hlen : ios.length = ops.size) (hpairs : pairsOk (msks ops.toList []) ios = true) (hback : backOk ops.toList = true) : CodeOk G N rd (.region id ops true) (.ops ios) := by
 intro x R n B X Φ0 w0 D K S a w Q hR _ hY hat h hq
 refine wpIn_region_any hm ?_
 have h' := exIdx_of ios ios 0 S _ (fun j => by simp) h
 rw [hlen,← List.range_eq_range'] at h'
 have hfil : ((List.range ops.size).filter fun i => !(Array.replicate ops.size false).getD i true) = List.range ops.size := by
  rw [List.filter_eq_self]
  intro k hk
  have := List.mem_range.1 hk
  simp [Array.getD,this]
 refine any_ok (K := K .normal) hrel hlen hpairs hback (fun S' a' w' hk hat' => hq _ _ _ _ hk hat') ops.size _ S a _ (by simp) ?_ ?_ (at_drew hat) (by rw [hfil]; exact h')
 ·intro i o _ hl
  simp [Array.getD] at hl
 ·rw [hfil]; simp

theorem CodeOk.regionD {id : Nat} {ops : Array Oper} {ios : List IOp} {pairs : List (Nat × Nat)} (hm : G.P.follows .mixedOrders = true) (hrel : ∀ (i : Nat) (o : Oper),ops[i]? = some o → ∃ io,ios[i]? = some io ∧ OpRel G ops N o io)
  (hlen : ios.length = ops.size) (hpairs : pairsX (msks ops.toList []) ios pairs = true) (hback : backOk ops.toList = true) : CodeOk G N rd (.region id ops true) (.rops pairs ios) := by
 intro x R n B X Φ0 w0 D K S a w Q hR _ hY hat h hq
 refine wpIn_region_any hm ?_
 simp only [awp] at h
 obtain ⟨fps,e1,e2,e3⟩ := exRun_D ios S.next ios 0 _ _ (fun j => by simp) h
 have h' := e3 (fun i => (fps.getD i ([],[])).1) (fun i => (fps.getD i ([],[])).2) (fun j p hj => by simp [List.getD_eq_getElem?_getD,hj])
 rw [hlen,← List.range_eq_range'] at h'
 have hfil : ((List.range ops.size).filter fun i => !(Array.replicate ops.size false).getD i true) = List.range ops.size := by
  rw [List.filter_eq_self]
  intro k hk
  have := List.mem_range.1 hk
  simp [Array.getD,this]
 by_cases hok : okPairs pairs fps = true
 ·refine any_okD (K := fun S' => okPairs pairs fps = true ∧ K .normal (S'.nx (S.next + ops.size))) hrel hlen (fun i j hi hj => pairsX_spec hpairs e2 hok (by omega) hj) hback
   (fun S' a' w' hk hat' => hq _ _ _ _ hk.2 (hat'.at fun n hn => hn)) ops.size _ (S.nx 0) a _ (by simp) ?_ ?_ ?_ (by rw [hfil]; exact h')
  ·intro i o _ hl
   simp [Array.getD] at hl
  ·rw [hfil]; simp
  ·exact AtF.next ((at_drew hat).f.mono fun n hn => .inl hn) 0
 ·-- the check is part of what is shown
  exfalso
  exact hok (exD_end _ (fun S' hk => hk.1) _ _ h')

end

/-- Where a result lies. -/
inductive RR where
 | tmp (t : Nat)
 | cell (t : Nat) (agg : Bool) (sz : Nat)

def rv (S : St) : RR → (AV → Prop) → Prop
 | .tmp t,K => match S.env t with | some v => K v | none => False
 | .cell t agg sz,K => match S.env t with
  | some (.ref n off) => match S.heap n with
   | some (.cells cs) => match agg with
    | true => ∃ l,(l = (cs.drop off).take sz ∧ l.length = sz ∧ off ≤ cs.length) ∧ K (.agg l)
    | false => ∃ v,cs[off]? = some v ∧ K v
   | _ => False
  | _ => False

def rvs (S : St) : List RR → (List AV → Prop) → Prop
 | [],K => K []
 | x :: r,K => rv S x (fun v => rvs S r (fun vs => K (v :: vs)))

def resK (S : St) (rs : List RR) (K : AV → Prop) : Prop :=
 match rs with
 | [x] => rv S x K
 | rs => rvs S rs (fun vs => K (AV.tup vs))

def retG (R : St → St → Prop) (rs : List RR) (K : AV → Heap → Nat → Prop) : Exit → St → Prop := fun e S => match e with
 | .normal => ∃ S',R S S' ∧ resK S' rs (fun r => K r S'.heap S'.next)
 | .ret => ∃ S',R S S' ∧ resK S' rs (fun r => K r S'.heap S'.next)
 | _ => False

def retH (m : Nat) (rs : List RR) (K : AV → Heap → Nat → Prop) : Exit → St → Prop := retG (SubSt m) rs K

/-- Whatever frame and world of a call that owns all that it names stand to the one state stand to the other. -/
def retK (rs : List RR) (r : AV) : Exit → St → Prop := retG SubTop rs (fun v _ _ => v = r)

/-- The state at a function's beginning. -/
def entry (us : List AV) : St := { env := fun k => us[k]?,heap := fun _ => none,next := 0 }

def RRel (P : Program) (x : ResultVar) (r : RR) : Prop :=
 match x,r with
 | .tmp t,.tmp t' => t = t'
 | .cell a t,.cell a' agg sz => a = a' ∧ ∃ d i,P.underlying t = some d ∧ P.info? t = some i ∧ aggOf d = agg ∧ i.size = sz
 | _,_ => False

def one (_P : Program) (tmps : Array Value) (x : ResultVar) : Sem Value :=
 match x with
 | .tmp t => pure (tmps.getD t undef)
 | .cell a t => do loadVar t (← asAddr (tmps.getD a undef))

theorem rv_ok {G : Gl} {B : Nat} {X : Nat → Prop} {Φ : Phi} {ρ : Nm} {w0 w : World} {S : St} {a : Act} (he : EnvRel G Φ ρ S.env a) (hw : Wf G B X w0 ρ Φ S.heap S.next w) {x : ResultVar} {r : RR} (hx : RRel G.P x r) {K : AV → Prop} (h : rv S r K) :
  ∃ v y,(one G.P a.tmps x).run G.P w = .ok y w ∧ Rep G Φ v ρ y ∧ K v := by
 cases r with
 | tmp t =>
  cases x with
  | cell => exact hx.elim
  | tmp t' =>
   simp only [RRel] at hx
   subst hx
   simp only [rv] at h
   split at h
   ·rename_i v hv
    obtain ⟨y,hy,hr⟩ := he _ _ hv
    exact ⟨v,y,by simp [one,hy],hr,h⟩
   ·exact h.elim
 | cell t agg sz =>
  cases x with
  | tmp => exact hx.elim
  | cell a' ty =>
   obtain ⟨rfl,d,i,hu,hi,hagg,hsz⟩ := hx
   simp only [rv] at h
   split at h
   case h_2 => exact h.elim
   rename_i n off hv
   obtain ⟨y,hy,hr⟩ := he _ _ hv
   simp only [Rep] at hr
   obtain ⟨hd,hρ,rfl⟩ := hr
   split at h
   case h_2 => exact h.elim
   rename_i cs hH
   obtain ⟨_,C,ty',fr,h2,h3,h4,h5⟩ := hw.zero.cellsAt hH hρ
   have hy' : a.tmps.getD a' undef = .pointer (some ⟨hd.b,off,none⟩) := by simp [hy]
   cases agg
   ·obtain ⟨v,hv1,h⟩ := h
    obtain ⟨z,hz,hrz⟩ := RepAt.get h5 hv1
    rw [Nat.zero_add] at hz
    refine ⟨v,z,?_,hrz,h⟩
    simp [one,hy',asAddr,loadVar,run_isAgg hu,hagg,cell_of h2,hz]
   ·obtain ⟨l,⟨hl,hlen,hoff⟩,h⟩ := h
    have hfit : off + sz ≤ cs.length := by
     by_cases hz : sz = 0
     ·omega
     ·rw [hl] at hlen; simp at hlen; omega
    obtain ⟨e1,e2⟩ := RepAt.extract h5 (by omega) off sz hfit
    refine ⟨_,.agg (C.extract off (off + sz)),?_,?_,h⟩
    ·have := load_row (P := G.P) h2 off sz (by omega)
     simp [one,hy',asAddr,loadVar,run_isAgg hu,hagg,Go.sizeOf,typeInfo,hi,hsz,this]
    ·simp only [Rep]
     exact ⟨_,rfl,by rw [e1,hlen],by rw [hl]; exact e2⟩

theorem rvs_ok {G : Gl} {B : Nat} {X : Nat → Prop} {Φ : Phi} {ρ : Nm} {w0 w : World} {S : St} {a : Act} (he : EnvRel G Φ ρ S.env a) (hw : Wf G B X w0 ρ Φ S.heap S.next w) :
  ∀ {xs : List ResultVar} {rs : List RR} {K : List AV → Prop},List.length xs = rs.length → (∀ (j : Nat) x r,xs[j]? = some x → rs[j]? = some r → RRel G.P x r) → rvs S rs K →
  ∃ vs ys,(xs.mapM (one G.P a.tmps)).run G.P w = .ok ys w ∧ ys.length = rs.length ∧ vs.length = rs.length ∧ RepAt G Φ vs ρ ys.toArray 0 ∧ K vs := by
 intro xs
 induction xs with
 | nil =>
  intro rs K hl _ h
  cases rs with
  | cons => simp at hl
  | nil => exact ⟨[],[],by simp,rfl,rfl,by simp [RepAt],h⟩
 | cons x xs ih =>
  intro rs K hl hrel h
  cases rs with
  | nil => simp at hl
  | cons r rs =>
   simp only [rvs] at h
   obtain ⟨v,y,h1,h2,h3⟩ := rv_ok he hw (hrel 0 x r rfl rfl) h
   obtain ⟨vs,ys,h4,h5,h6,h7,h8⟩ := ih (by simpa using hl) (fun j x r h1 h2 => hrel (j + 1) x r (by simpa using h1) (by simpa using h2)) h3
   refine ⟨v :: vs,y :: ys,?_,by simp [h5],by simp [h6],?_,h8⟩
   ·simp only [List.mapM_cons,Sem.run_bind,h1,h4,Result.andThen_ok,Sem.run_pure]
   ·refine RepAt.mk fun j c hj => ?_
    cases j with
    | zero => simp at hj; subst hj; exact ⟨y,by simp,h2⟩
    | succ j =>
     simp at hj
     obtain ⟨z,hz,hr⟩ := RepAt.get h7 hj
     exact ⟨z,by simpa using hz,hr⟩

theorem results_run {P : Program} {fn : Func} {tmps : Array Value} {w : World} {ys : List Value} (h : (fn.results.toList.mapM (one P tmps)).run P w = .ok ys w) :
  (results fn tmps).run P w = .ok (if h : ys.length = 1 then ys[0] else .tuple ys.toArray) w := by
 have e : (fn.results.mapM (one P tmps)).run P w = .ok ys.toArray w := by
  rw [Array.mapM_eq_mapM_toList]
  simp only [Sem.run_map,h,Result.andThen_ok]
 have e2 : results fn tmps = (do let vs ← fn.results.mapM (one P tmps); pure (if h : vs.size = 1 then vs[0] else .tuple vs)) := by
  unfold results
  congr 1
 rw [e2]
 simp only [Sem.run_bind,e,Result.andThen_ok,Sem.run_pure]
 rfl

/-- A block of the base that nothing names turns. -/
theorem Wf.putObj {G : Gl} {B : Nat} {X : Nat → Prop} {w0 : World} {ρ : Nm} {Φ : Phi} {H : Heap} {nx : Nat} {w : World} (h : Wf G B X w0 ρ Φ H nx w) {l : Nat} (hl : l < B) (hx : ¬ X l) (hphi : Φ l = none) (hw0 : B ≤ w0.heap.size) (o : Obj) :
  Wf G B X (w0.putObj l o) ρ Φ H nx (w.putObj l o) where
 os := h.os
 tape := h.tape
 output := h.output
 size := by simpa using h.size
 base := by simpa using h.base
 frame := fun k hk hxk => by
  by_cases e : k = l
  ·subst e
   rw [World.putObj_heap_same (Nat.lt_of_lt_of_le hl h.base),World.putObj_heap_same (Nat.lt_of_lt_of_le hl hw0)]
  ·rw [World.putObj_heap_other e,World.putObj_heap_other e]; exact h.frame k hk hxk
 gb := h.gb
 phi := fun b o' e => by
  have hne : b ≠ l := by rintro rfl; rw [hphi] at e; cases e
  rw [World.putObj_heap_other hne]; exact h.phi b o' e
 dom := h.dom
 objs := fun n o' e => by
  obtain ⟨hd,h1,h2,h3⟩ := h.objs n o' e
  have hne : ∀ b ∈ hd.fp,b ≠ l := by
   rintro b hb rfl
   rcases (h3 b hb).1 with h4 | h4
   ·omega
   ·exact hx h4
  refine ⟨hd,h1,ORep.mono (PhiLe.refl _) (NmLe.refl _) ?_ (fun b hb => World.putObj_heap_other (hne b hb)) h2,fun b hb => ?_⟩
  ·intro b o2 e2
   have hne : b ≠ l := by rintro rfl; rw [hphi] at e2; cases e2
   rw [World.putObj_heap_other hne]; exact h.phi b o2 e2
  ·obtain ⟨a1,a2,a3⟩ := h3 b hb
   exact ⟨a1,a2,by simpa using a3⟩
 disj := h.disj

theorem Ext.putObj {B : Nat} {X : Nat → Prop} {w0 : World} {B1 : Nat} {X1 : Nat → Prop} {w1 : World} (h : Ext B X w0 B1 X1 w1) {l : Nat} (hl : B ≤ l) (o : Obj) : Ext B X w0 B1 X1 (w1.putObj l o) where
 le := h.le
 fr := fun k hk hx => ⟨(h.fr k hk hx).1,by rw [World.putObj_heap_other (by omega)]; exact (h.fr k hk hx).2⟩
 x := h.x
 os := h.os
 tape := h.tape
 output := h.output
 size := by simpa using h.size

theorem Ext.putObj2 {B : Nat} {X : Nat → Prop} {w0 : World} {B1 : Nat} {X1 : Nat → Prop} {w1 : World} (h : Ext B X w0 B1 X1 w1) {l : Nat} (h0 : B ≤ w0.heap.size) (h1 : B1 ≤ w1.heap.size) (o : Obj) : Ext B X (w0.putObj l o) B1 X1 (w1.putObj l o) where
 le := h.le
 fr := fun k hk hx => ⟨(h.fr k hk hx).1,by
  by_cases e : k = l
  ·subst e
   rw [World.putObj_heap_same (Nat.lt_of_lt_of_le hk h0),World.putObj_heap_same (Nat.lt_of_lt_of_le hk (Nat.le_trans h.le h1))]
  ·rw [World.putObj_heap_other e,World.putObj_heap_other e]; exact (h.fr k hk hx).2⟩
 x := h.x
 os := h.os
 tape := h.tape
 output := h.output
 size := by simpa using h.size

end Qk

/-
  Functions and their contracts; calls that share the memory; ranges over functions.
-/
namespace Qk
open Go Go.RowKit

/-- The marks are taken one by one. -/
theorem leaves_marks {G : Gl} {B : Nat} {X : Nat → Prop} {w0 : World} {B1 : Nat} {X1 : Nat → Prop} {ρ : Nm} {Φ : Phi} {H : Heap} {nx : Nat} {F : Fence} {n : Nat} {fn : Func} {tmps : Array Value} {R : Ending → World → Prop} :
  ∀ (ms : List Nat) (w w1 : World),Ext B X w0 B1 X1 w1 → B1 ≤ w1.heap.size → Wf G B1 X1 w1 ρ Φ H nx w → ms.Nodup →
   (∀ b ∈ ms,B ≤ b ∧ b < B1 ∧ ¬ X1 b ∧ w1.heap[b]? = some (.deferred (some [])) ∧ Φ b = none) →
   (∀ w',Wf G B X w0 ρ Φ H nx w' → ∃ v,(results fn tmps).run G.P w' = .ok v w' ∧ R (.returned v) w') →
   LeavesInM F n G.P fn tmps R (ms.map mark) .returning w
 | [],w,w1,he,hb,hw,_,_,hR => hR w (hw.back he)
 | b :: ms,w,w1,he,hb,hw,hnd,hms,hR => by
  obtain ⟨q1,q2,q3,q4,q5⟩ := hms b (by simp)
  have hwb : w.heap[b]? = some (.deferred (some [])) := by rw [hw.frame b q2 q3]; exact q4
  rw [List.nodup_cons] at hnd
  refine ⟨by simp,.inl ⟨b,_,rfl,run_takeDeferred hwb,?_⟩⟩
  refine leaves_marks ms _ (w1.putObj b (.deferred none)) (he.putObj q1 _) (by simpa using hb) (hw.putObj q2 q3 q5 hb _) hnd.2 (fun b' hb' => ?_) hR
  obtain ⟨r1,r2,r3,r4,r5⟩ := hms b' (by simp [hb'])
  refine ⟨r1,r2,r3,?_,r5⟩
  rw [World.putObj_heap_other (by rintro rfl; exact hnd.1 hb')]
  exact r4

theorem post_ok {G : Gl} {B : Nat} {X : Nat → Prop} {Φ0 : Phi} {w0 : World} {N : Nat} {D : Fl} {T : St → St → Prop} {fn : Func} {rs : List RR} {K : AV → Heap → Nat → Prop} {R : Ending → World → Prop} {F : Fence} {n : Nat}
  (hlen : fn.results.toList.length = rs.length) (hrel : ∀ (j : Nat) x q,fn.results.toList[j]? = some x → rs[j]? = some q → RRel G.P x q)
  {e : Exit} {S : St} {a : Act} {w : World} (hk : retG T rs K e S) (hm : ∀ S',T S S' → At G B X Φ0 w0 N D S a w → At G B X Φ0 w0 N D S' a w) (hat : At G B X Φ0 w0 N D S a w)
  (hR : ∀ r v ρ Φ H nx w',K r H nx → NmLe D.nm ρ → PhiLe Φ0 Φ → (∀ b o,Φ b = some o → Φ0 b = some o ∨ B ≤ b) → Wf G B X w0 ρ Φ H nx w' → Rep G Φ r ρ v → R (.returned v) w') : bodyPostM F n G.P fn R e a w := by
 have fin : ∀ S',T S S' → resK S' rs (fun r => K r S'.heap S'.next) → LeavesInM F n G.P fn a.tmps R a.defers .returning w := by
  intro S' hs hres
  obtain ⟨B1,X1,w1,ρ,Φ,a1,a2,a3,a4,a5,a6⟩ := hm _ hs hat
  obtain ⟨ms,e1,e2,e3⟩ := a2.marks
  rw [e1]
  refine leaves_marks ms w w1 a2.ext a2.bs a6 e2 e3 fun w' hw' => ?_
  have two : ∀ K : List AV → Prop,rvs S' rs K → ∃ vs ys,(fn.results.toList.mapM (one G.P a.tmps)).run G.P w' = .ok ys w' ∧ ys.length = rs.length ∧ vs.length = rs.length ∧ RepAt G Φ vs ρ ys.toArray 0 ∧ K vs :=
   fun K h => rvs_ok a5 hw' hlen hrel h
  by_cases h1 : rs.length = 1
  ·obtain ⟨x,rfl⟩ := List.length_eq_one_iff.1 h1
   simp only [resK] at hres
   obtain ⟨z,hz⟩ := List.length_eq_one_iff.1 (show fn.results.toList.length = 1 by simpa using hlen)
   obtain ⟨v,y,h2,h3,h4⟩ := rv_ok a5 hw' (hrel 0 z x (by rw [hz]; rfl) rfl) hres
   have hr := results_run (P := G.P) (fn := fn) (tmps := a.tmps) (w := w') (ys := [y]) (by rw [hz]; simp only [List.mapM_cons,List.mapM_nil,Sem.run_bind,h2,Result.andThen_ok,Sem.run_pure])
   exact ⟨_,hr,hR v _ ρ Φ _ _ w' h4 a2.nm a3 a4 hw' (by simpa using h3)⟩
  ·have hres' : rvs S' rs (fun vs => K (AV.tup vs) S'.heap S'.next) := by
    unfold resK at hres
    split at hres
    ·exact absurd rfl h1
    ·exact hres
   obtain ⟨vs,ys,h2,h3,h4,h5,h6⟩ := two _ hres'
   have hr := results_run h2
   refine ⟨_,hr,?_⟩
   rw [dif_neg (by omega)]
   refine hR _ _ ρ Φ _ _ w' h6 a2.nm a3 a4 hw' ?_
   simp only [Rep]
   exact ⟨_,rfl,by simp [h3,h4],h5⟩
 cases e with
 | normal => obtain ⟨S',hs,hres⟩ := hk; exact fin S' hs hres
 | ret => obtain ⟨S',hs,hres⟩ := hk; exact fin S' hs hres
 | exit id => exact hk.elim
 | goto l => exact hk.elim
 | panic ch => exact hk.elim
 | outgrown => exact hk.elim

/-- The slots of a call's frame. -/
theorem entry_env {G : Gl} {Φ : Phi} {ρ : Nm} {us : List AV} {vs : Array Value} (hr : RepAt G Φ us ρ vs 0) (k : Nat) : EnvRel G Φ ρ (fun k => us[k]?) { tmps := vs ++ Array.replicate k undef,defers := [] } := by
 intro j v hj
 obtain ⟨x,hx,hrep⟩ := RepAt.get hr hj
 rw [Nat.zero_add] at hx
 have hlt := (Array.getElem?_eq_some_iff.1 hx).1
 exact ⟨x,by rw [Array.getElem?_append_left hlt]; exact hx,hrep⟩

theorem at_entry {G : Gl} {B : Nat} {X : Nat → Prop} {w0 : World} {ρ : Nm} {Φ : Phi} {H : Heap} {nx : Nat} {w : World} {us : List AV} {vs : Array Value} {N : Nat} {D : Fl} (hw : Wf G B X w0 ρ Φ H nx w) (hB : B ≤ w0.heap.size)
  (hD : NmLe D.nm ρ) (hs : vs.size = us.length) (hr : RepAt G Φ us ρ vs 0) (hN : us.length ≤ N) :
  At G B X Φ w0 N D ⟨fun k => us[k]?,H,nx⟩ { tmps := vs ++ Array.replicate (N - vs.size) undef,defers := [] } w :=
 ⟨B,X,w0,ρ,Φ,by simp; omega,⟨Ext.refl _ _ _,hB,hD,[],rfl,List.nodup_nil,fun b hb => by cases hb⟩,PhiLe.refl _,fun b o e => .inl e,entry_env hr _,hw⟩

/-- From a function's code in the executor's form to its contract. -/
theorem fn_ok {G : Gl} {f : FuncId} {fn : Func} {c : Code} {ic : IC} {C : PC} {rs : List RR} (hf : G.P.funcs[f]? = some fn) (hb : fn.body = some c) (hname : (fn.name == "runtime.NumGoroutine") = false)
  (hc : CodeOk G fn.ntmps false c ic) (hlen : fn.results.toList.length = rs.length) (hrel : ∀ (j : Nat) x q,fn.results.toList[j]? = some x → rs[j]? = some q → RRel G.P x q)
  (hN : ∀ x,(C.args x).length ≤ fn.ntmps) (hnn : ∀ x,C.ok x → NN (C.res x)) (hir : ∀ x,C.ok x → awp Cx.top ic (retK rs (C.res x)) (entry (C.args x))) : KeepsC G C (fun _ => none) f #[] := by
 rintro us w Φ vs _ hgb hphi hs hr x rfl hok
 rw [Array.append_empty]
 refine .inl ⟨⟨fn,hf,by rw [hb]; rfl,hname⟩,?_⟩
 refine (callsIn_wide (n := 0)).1 (callsIn_of_wp_marks hf hb trivial ?_)
 have hwf : Wf G w.heap.size (fun _ => False) w (fun _ => none) Φ (fun _ => none) 0 w :=
  ⟨rfl,rfl,rfl,Nat.le_refl _,Nat.le_refl _,fun _ _ _ => rfl,hphi,hgb,(fun n h e => by cases e),(fun n o e => by cases e),fun n m h g _ e => absurd rfl e⟩
 refine hc Cx.top none 0 w.heap.size (fun _ => False) Φ w Fl.free _ _ _ w _ RdOk.none ⟨Nat.le_refl _,fun _ => rfl⟩ YOk.none (at_entry hwf (Nat.le_refl _) (fun _ _ h => by cases h) hs hr (hN x)) (hir x hok) ?_
 intro e S' a' w' hk hat
 refine post_ok hlen hrel hk (fun S'' hs h => hs _ _ _ _ _ _ _ _ (Nat.le_refl _) h) hat ?_
 rintro r v ρ Φ' H nx w'' rfl p0 p1 p2 p3 p4
 exact ⟨_,v,Φ',rfl,rfl,p1,p3.phi,p2,hnn x hok _ _ _ _ _ p4,⟨p3.os,p3.tape,p3.output,p3.size,fun k hk => p3.frame k hk (fun h => h)⟩⟩

/-- What a function's code leaves that gives a new slice. -/
def retF (rs : List RR) (esz n : Nat) (cs : List AV) : Exit → St → Prop := retG SubTop rs (fun v H _ => ∃ m τ,v = .sl m 0 n ∧ H m = some (.ls τ esz cs) ∧ ∀ c ∈ cs,PlainV c)

theorem fnF_ok {G : Gl} {f : FuncId} {fn : Func} {c : Code} {ic : IC} {C : FC} {rs : List RR} (hf : G.P.funcs[f]? = some fn) (hb : fn.body = some c) (hname : (fn.name == "runtime.NumGoroutine") = false)
  (hc : CodeOk G fn.ntmps false c ic) (hlen : fn.results.toList.length = rs.length) (hrel : ∀ (j : Nat) x q,fn.results.toList[j]? = some x → rs[j]? = some q → RRel G.P x q)
  (hN : ∀ x,(C.args x).length ≤ fn.ntmps) (hir : ∀ x,C.ok x → awp Cx.top ic (retF rs C.esz (C.n x) (C.cs x)) (entry (C.args x))) : KeepsF G C f := by
 rintro us w Φ vs hgb hphi hs hr x rfl hok
 refine .inl ⟨⟨fn,hf,by rw [hb]; rfl,hname⟩,?_⟩
 refine (callsIn_wide (n := 0)).1 (callsIn_of_wp_marks hf hb trivial ?_)
 have hwf : Wf G w.heap.size (fun _ => False) w (fun _ => none) Φ (fun _ => none) 0 w :=
  ⟨rfl,rfl,rfl,Nat.le_refl _,Nat.le_refl _,fun _ _ _ => rfl,hphi,hgb,(fun n h e => by cases e),(fun n o e => by cases e),fun n m h g _ e => absurd rfl e⟩
 refine hc Cx.top none 0 w.heap.size (fun _ => False) Φ w Fl.free _ _ _ w _ RdOk.none ⟨Nat.le_refl _,fun _ => rfl⟩ YOk.none (at_entry hwf (Nat.le_refl _) (fun _ _ h => by cases h) hs hr (hN x)) (hir x hok) ?_
 intro e S' a' w' hk hat
 refine post_ok hlen hrel hk (fun S'' hs h => hs _ _ _ _ _ _ _ _ (Nat.le_refl _) h) hat ?_
 rintro r v ρ Φ' H nx w'' ⟨m,τ,rfl,hH,hpl⟩ p0 p1 p2 p3 p4
 refine ⟨v,rfl,⟨p3.os,p3.tape,p3.output,p3.size,fun k hk => p3.frame k hk (fun h => h)⟩,?_⟩
 simp only [Rep] at p4
 obtain ⟨hd,hρ,hv⟩ := p4
 obtain ⟨hd',e1,⟨⟨o1,o2⟩,_⟩,o3⟩ := p3.objs m _ hH
 rw [hρ] at e1; cases e1
 rcases hv with ⟨v1,_,v3,v4⟩ | ⟨v1,v2,v3 | ⟨v3,_⟩⟩
 ·rcases o2 with ⟨_,q2,_⟩ | ⟨q1,_⟩
  ·exact .inl ⟨v4,v3,q2⟩
  ·rw [v1] at q1; cases q1
 ·rcases o2 with ⟨q1,_⟩ | ⟨q1,q2,C',ty,fr,q3,q4,q5,q6,q7⟩
  ·rw [v1] at q1; cases q1
  ·refine .inr ⟨hd.b,C',ty,fr,hd.cap,by simpa using v3,?_,q3,q4,q5,by omega,q6,?_⟩
   ·rcases (o3 hd.b (by rw [q2]; simp)).1 with h | h
    ·exact h
    ·exact h.elim
   ·refine RepAt.mk fun j c' hj => ?_
    obtain ⟨x',hx',hrep⟩ := RepAt.get q7 hj
    exact ⟨x',hx',hpl c' (List.mem_of_getElem? hj) _ _ _ _ _ _ hrep⟩
 ·omega

/-- What a function's code leaves that gives a closure over a variable of its own. -/
def retB (rs : List RR) (t : Nat) (cs rest : List AV) : Exit → St → Prop := retG SubTop rs (fun v H _ => ∃ m τ,v = .clo t (.ref m 0 :: rest) ∧ H m = some (.cl τ cs) ∧ (∀ c ∈ cs,PlainV c) ∧ NNL rest)

theorem fnB_ok {G : Gl} {f : FuncId} {fn : Func} {c : Code} {ic : IC} {C : BC} {rs : List RR} (hf : G.P.funcs[f]? = some fn) (hb : fn.body = some c) (hname : (fn.name == "runtime.NumGoroutine") = false)
  (hc : CodeOk G fn.ntmps false c ic) (hlen : fn.results.toList.length = rs.length) (hrel : ∀ (j : Nat) x q,fn.results.toList[j]? = some x → rs[j]? = some q → RRel G.P x q)
  (hN : ∀ x,(C.args x).length ≤ fn.ntmps) (hir : ∀ x,C.ok x → awp Cx.top ic (retB rs C.tag (C.cs x) (C.rest x)) (entry (C.args x))) : KeepsB G C f := by
 rintro us w Φ vs hgb hphi hs hr x rfl hok
 refine .inl ⟨⟨fn,hf,by rw [hb]; rfl,hname⟩,?_⟩
 refine (callsIn_wide (n := 0)).1 (callsIn_of_wp_marks hf hb trivial ?_)
 have hwf : Wf G w.heap.size (fun _ => False) w (fun _ => none) Φ (fun _ => none) 0 w :=
  ⟨rfl,rfl,rfl,Nat.le_refl _,Nat.le_refl _,fun _ _ _ => rfl,hphi,hgb,(fun n h e => by cases e),(fun n o e => by cases e),fun n m h g _ e => absurd rfl e⟩
 refine hc Cx.top none 0 w.heap.size (fun _ => False) Φ w Fl.free _ _ _ w _ RdOk.none ⟨Nat.le_refl _,fun _ => rfl⟩ YOk.none (at_entry hwf (Nat.le_refl _) (fun _ _ h => by cases h) hs hr (hN x)) (hir x hok) ?_
 intro e S' a' w' hk hat
 refine post_ok hlen hrel hk (fun S'' hs h => hs _ _ _ _ _ _ _ _ (Nat.le_refl _) h) hat ?_
 rintro r v ρ Φ' H nx w'' ⟨m,τ,rfl,hH,hpl,hnn⟩ p0 p1 p2 p3 p4
 simp only [Rep] at p4
 obtain ⟨A,rfl,a1,a2⟩ := p4
 simp only [RepAt] at a2
 obtain ⟨⟨y,a2,a3⟩,a4⟩ := a2
 simp only [Rep] at a3
 obtain ⟨hd,hρ,rfl⟩ := a3
 obtain ⟨hd',e1,⟨⟨o1,C',ty,fr,o2,o3,o4,o5⟩,_⟩,o6⟩ := p3.objs m _ hH
 rw [hρ] at e1; cases e1
 obtain ⟨q1,q2,q3⟩ := o6 hd.b (by rw [o1]; simp)
 refine ⟨Φ',hd.b,C',ty,fr,A,rfl,⟨p3.os,p3.tape,p3.output,p3.size,fun k hk => p3.frame k hk (fun h => h)⟩,p1,p3.phi,p2,by simpa using a1,a2,?_,q2,o2,o3,o4,?_,hnn _ _ _ _ _ _ a4⟩
 ·rcases q1 with h | h
  ·exact h
  ·exact h.elim
 ·refine RepAt.mk fun j c' hj => ?_
  obtain ⟨x',hx',hrep⟩ := RepAt.get o5 hj
  exact ⟨x',hx',hpl c' (List.mem_of_getElem? hj) _ _ _ _ _ _ hrep⟩

/-- What a call of a function does that shares the caller's memory: its code, on that memory. -/
def inl (n : Nat) (ic : IC) (rs : List RR) : HTran := fun us H nx K => us.length = n ∧ awp ⟨nx,noY,false⟩ ic (retH nx rs K) ⟨fun k => us[k]?,H,nx⟩

theorem inl_ok {G : Gl} {f : FuncId} {fn : Func} {c : Code} {ic : IC} {rs : List RR} {n : Nat} (hf : G.P.funcs[f]? = some fn) (hb : fn.body = some c) (hname : (fn.name == "runtime.NumGoroutine") = false)
  (hc : CodeOk G fn.ntmps false c ic) (hlen : fn.results.toList.length = rs.length) (hrel : ∀ (j : Nat) x q,fn.results.toList[j]? = some x → rs[j]? = some q → RRel G.P x q) (hn : n ≤ fn.ntmps) :
  KeepsH G (inl n ic rs) f := by
 refine ⟨⟨fn,hf,by rw [hb]; rfl,hname⟩,?_⟩
 rintro B X w0 ρ Φ H nx w us vs K hB hw hs hr ⟨hl,h⟩
 refine (callsIn_wide (n := 0)).1 (callsIn_of_wp_marks hf hb trivial ?_)
 refine hc ⟨nx,noY,false⟩ none 0 B X Φ w0 ⟨nx,ρ,hw.dom⟩ _ _ _ w _ RdOk.none ⟨Nat.le_refl _,(fun e => by cases e)⟩ YOk.none (at_entry hw hB (NmLe.refl _) hs hr (by omega)) h ?_
 intro e S' a' w' hk hat
 refine post_ok hlen hrel hk (fun S'' hs h => hs _ _ _ _ _ _ _ _ _ (Nat.le_refl _) h) hat ?_
 intro r v ρ' Φ' H' nx' w'' hk p0 p1 p2 p3 p4
 exact ⟨r,v,ρ',Φ',H',nx',rfl,hk,p0,p1,p2,p3,p4⟩

/-- What an iterator does: its code. -/
def itr (n : Nat) (ic : IC) (rs : List RR) : ITran := fun Y caps H nx K => caps.length + 1 = n ∧
 ∀ l,awp ⟨nx,fun l' us H nx J => l' = l ∧ Y us H nx J,false⟩ ic (retH nx rs (fun _ H nx => K H nx)) ⟨fun k => (AV.raw (.func (.yield l) #[] #[]) :: caps)[k]?,H,nx⟩

theorem itr_ok {G : Gl} {f : FuncId} {fn : Func} {c : Code} {ic : IC} {rs : List RR} {n : Nat} (hf : G.P.funcs[f]? = some fn) (hb : fn.body = some c) (hname : (fn.name == "runtime.NumGoroutine") = false)
  (hc : CodeOk G fn.ntmps false c ic) (hlen : fn.results.toList.length = rs.length) (hrel : ∀ (j : Nat) x q,fn.results.toList[j]? = some x → rs[j]? = some q → RRel G.P x q) (hn : n ≤ fn.ntmps) :
  KeepsI G (itr n ic rs) f := by
 refine ⟨⟨fn,hf,by rw [hb]; rfl,hname⟩,?_⟩
 rintro l Y B X w0 ρ Φ H nx w us vs K hB hY hw hs hr ⟨hl,h⟩
 refine (callsIn_wide (n := 0)).1 (callsIn_of_wp_marks hf hb trivial ?_)
 have hr' : RepAt G Φ (AV.raw (.func (.yield l) #[] #[]) :: us) ρ (#[.func (.yield l) #[] #[]] ++ vs) 0 :=
  RepAt.cat (us := [AV.raw (.func (.yield l) #[] #[])]) (by simp [RepAt,Rep]) hr (by simp)
 refine hc ⟨nx,_,false⟩ none 0 B X Φ w0 ⟨nx,ρ,hw.dom⟩ _ _ _ w _ RdOk.none ⟨Nat.le_refl _,(fun e => by cases e)⟩ hY (at_entry hw hB (NmLe.refl _) (by simp [hs]; omega) hr' (by simp; omega)) (h l) ?_
 intro e S' a' w' hk hat
 refine post_ok hlen hrel hk (fun S'' hs h => hs _ _ _ _ _ _ _ _ _ (Nat.le_refl _) h) hat ?_
 intro r v ρ' Φ' H' nx' w'' hk p0 p1 p2 p3 p4
 exact ⟨v,ρ',Φ',H',nx',rfl,hk,p0,p1,p2,p3⟩

end Qk

/-
  Operations in the text's order, with calls that share the memory and calls of yield; ranges over functions.
-/
namespace Qk
open Go Go.RowKit

structure SBase (ops : Array Oper) (N : Nat) (o : Oper) (g : Gd) (d : Option Nat) : Prop where
 dst : d = o.dst
 lt : ∀ d,o.dst = some d → d < N
 grd : (o.guard = none ∧ g = none) ∨ ∃ j want k,o.guard = some (j,want) ∧ (ops[j]?).bind (·.dst) = some k ∧ g = some (k,want)

def SORel (G : Gl) (ops : Array Oper) (N : Nat) (o : Oper) : SO → Prop
 | .op io => OpRel G ops N o io
 | .call g d T args => SBase ops N o g d ∧ ∃ f ts,o.op = .call { callee := .value (.func f),args := args.toArray,argTypes := ts } ∧ KeepsH G T f
 | .rng d x => SBase ops N o none d ∧ ∃ t k e,o.op = .range t x ∧ G.P.underlying t = some (.map k e)
 | .nxt d it => SBase ops N o none d ∧ o.op = .next it false
 | .ent d it => SBase ops N o none d ∧ o.op = .entry it
 | .rngS d x => SBase ops N o none d ∧ ∃ t,o.op = .range t x ∧ G.P.underlying t = some .string
 | .nxtS d it => SBase ops N o none d ∧ o.op = .next it true
 | .dyn io Γ x args => OpRel G ops N o io ∧ ∃ ts,o.op = .call { callee := .value x,args := args.toArray,argTypes := ts } ∧ ∀ t T,Γ t = some T → KeepsH G T (G.tag t)

theorem OpRel.base {G : Gl} {ops : Array Oper} {N : Nat} {o : Oper} {io : IOp} (h : OpRel G ops N o io) : SBase ops N o io.guard io.dst := ⟨h.dst,h.lt,h.grd⟩

section
variable {G : Gl} {B : Nat} {X : Nat → Prop} {Φ0 : Phi} {w0 : World} {N : Nat} {D : Fl} {ops : Array Oper} {R : Option Nat} {n : Nat}

theorem grd_ok {i : Nat} {o : Oper} {g : Gd} {d : Option Nat} (hi : ops[i]? = some o) (hb : SBase ops N o g d) {S : St} {a : Act} {w : World} {Q : Exit → Act → World → Prop} {next : Act → World → Prop} {run skip : Prop}
  (hat : At G B X Φ0 w0 N D S a w) (hT : grd g S run skip) (hrun : run → o.wpIn (FR R) n G.P a w next Q) (hskip : skip → next (a.put o.dst undef) w) : wpOpIn (FR R) n G.P ops Q i next a w := by
 obtain ⟨B1,X1,w1,ρ,Φ,h1,h2,h3,h4,h5,h6⟩ := hat
 unfold wpOpIn
 simp only [hi]
 unfold grd at hT
 rcases hb.grd with ⟨g1,g2⟩ | ⟨j,want,k,g1,g2,g3⟩
 ·rw [g2] at hT
  have hw1 : Region.wanted o (yielded ops a.tmps) = true := by simp [Region.wanted,g1]
  rw [if_pos hw1]
  exact hrun hT
 ·rw [g3] at hT
  simp only at hT
  have hy : ∀ v x,S.env k = some v → a.tmps[k]? = some x → yielded ops a.tmps j = (match x with | .bool b => some b | _ => none) := by
   intro v x _ hx
   unfold yielded
   rw [g2]
   simp only [Option.bind_some,hx]
   cases x <;> rfl
  split at hT
  ·rename_i b hb
   obtain ⟨x,hx,hrep⟩ := h5 k _ hb
   simp only [Rep] at hrep
   subst hrep
   have hyb := hy _ _ hb hx
   simp only at hyb
   have hwant : Region.wanted o (yielded ops a.tmps) = (b == want) := by
    simp only [Region.wanted,g1,hyb]
    cases b <;> cases want <;> rfl
   rw [hwant]
   cases want <;> cases b <;> simp only [cond_true,cond_false] at hT
   ·rw [if_pos (by rfl)]; exact hrun hT
   ·rw [if_neg (by decide)]; exact ⟨fun _ _ => trivial,hskip hT⟩
   ·rw [if_neg (by decide)]; exact ⟨fun _ _ => trivial,hskip hT⟩
   ·rw [if_pos (by rfl)]; exact hrun hT
  ·rename_i tv hb
   obtain ⟨x,hx,hrep⟩ := h5 k _ hb
   simp only [Rep] at hrep
   subst hrep
   have hyb := hy _ _ hb hx
   simp only at hyb
   have hwant : Region.wanted o (yielded ops a.tmps) = false := by
    simp only [Region.wanted,g1,hyb]
    cases want <;> rfl
   rw [hwant,if_neg (by decide)]
   exact ⟨fun _ _ => trivial,hskip hT⟩
  ·exact hT.elim

theorem at_after {S : St} {a : Act} {w' : World} {B1 : Nat} {X1 : Nat → Prop} {w1 : World} {ρ ρ' : Nm} {Φ Φ' : Phi} {H' : Heap} {nx' : Nat} {d : Option Nat} {r : AV} {v : Value}
  (h1 : a.tmps.size = N) (h2 : Sd B X w0 D B1 X1 w1 ρ Φ a.defers) (h3 : PhiLe Φ0 Φ) (h4 : ∀ b o,Φ b = some o → Φ0 b = some o ∨ B ≤ b) (h5 : EnvRel G Φ ρ S.env a)
  (k1 : NmLe ρ ρ') (k2 : PhiLe Φ Φ') (k3 : ∀ b o,Φ' b = some o → Φ b = some o ∨ B1 ≤ b) (k4 : Wf G B1 X1 w1 ρ' Φ' H' nx' w') (k5 : Rep G Φ' r ρ' v) (hd : ∀ k,d = some k → k < N) :
  At G B X Φ0 w0 N D (St.set ⟨S.env,H',nx'⟩ d r) (a.put d v) w' := by
 have hnew : ∀ b o,Φ' b = some o → Φ0 b = some o ∨ B ≤ b := fun b o e => (k3 b o e).elim (h4 b o) (fun e => .inr (Nat.le_trans h2.ext.le e))
 have henv : EnvRel G Φ' ρ' S.env a := h5.mono k2 k1
 cases d with
 | none => exact ⟨B1,X1,w1,ρ',Φ',h1,h2.le k1 k3,h3.trans k2,hnew,henv,k4⟩
 | some k => exact ⟨B1,X1,w1,ρ',Φ',by simpa [Act.put] using h1,h2.le k1 k3,h3.trans k2,hnew,henv.put (by rw [h1]; exact hd k rfl) k5,k4⟩

theorem hcall_ok {a : Act} {w : World} {o : Oper} {f : FuncId} {vs : Array Value} {T : HTran} (hrun : (execOp a.eval o).run G.P w = .ok (.enter f vs) w) (hnd : ∀ c,o.op ≠ .defer c) (hk : KeepsH G T f)
  {S : St} {us : List AV} {K : AV → Heap → Nat → Prop} {B1 : Nat} {X1 : Nat → Prop} {w1 : World} {ρ : Nm} {Φ : Phi} (hB : B1 ≤ w1.heap.size) (hw : Wf G B1 X1 w1 ρ Φ S.heap S.next w)
  (hs : vs.size = us.length) (hr : RepAt G Φ us ρ vs 0) (hT : T us S.heap S.next K) {Q : Exit → Act → World → Prop} {next : Act → World → Prop}
  (hn : ∀ r v ρ' Φ' H' nx' w',K r H' nx' → NmLe ρ ρ' → PhiLe Φ Φ' → (∀ b o,Φ' b = some o → Φ b = some o ∨ B1 ≤ b) → Wf G B1 X1 w1 ρ' Φ' H' nx' w' → Rep G Φ' r ρ' v → next (a.put o.dst v) w') :
  o.wpIn (FR R) n G.P a w next Q := by
 refine wpIn_of_wp hnd ?_
 unfold Oper.wp
 rw [hrun,Oper.upon_enter]
 refine Calls.mono (hk.2 B1 X1 w1 ρ Φ S.heap S.next w us vs K hB hw hs hr hT) ?_
 rintro e w' ⟨r,v,ρ',Φ',H',nx',rfl,q1,q2,q3,q4,q5,q6⟩
 exact hn r v ρ' Φ' H' nx' w' q1 q2 q3 q4 q5 q6

theorem pw_eq {α β : Type} (f : α → β) : ∀ {l : List α},l.Pairwise (fun x y => f x ≠ f y) → ∀ {x y : α},x ∈ l → y ∈ l → f x = f y → x = y
 | [],_,_,_,hx,_,_ => by cases hx
 | z :: l,h,x,y,hx,hy,e => by
  obtain ⟨h1,h2⟩ := List.pairwise_cons.1 h
  rcases List.mem_cons.1 hx with hx1 | hx1 <;> rcases List.mem_cons.1 hy with hy1 | hy1
  ·rw [hx1,hy1]
  ·subst hx1; exact absurd e (h1 y hy1)
  ·subst hy1; exact absurd e.symm (h1 x hx1)
  ·exact pw_eq f h2 hx1 hy1 e

theorem rng_ok {a : Act} {w : World} {o : Oper} {t k e : TypeId} {x : Operand} {d : Option Nat} (ho : o.op = .range t x) (ht : G.P.underlying t = some (.map k e)) {S : St} {j : Nat} {m : MC} (hx : S.ev x = some (.hnd j)) (hH : S.heap j = some (.opq (mapR m)))
  (hat : At G B X Φ0 w0 N D S a w) (hd : ∀ k,d = some k → k < N) {Q : Exit → Act → World → Prop} {next : Act → World → Prop}
  (hn : ∀ v w',At G B X Φ0 w0 N D (St.set ⟨S.env,upd (upd S.heap j none) S.next (some (.opq (rangeR j m (fun _ => False) none))),S.next + 1⟩ d (.ref S.next 0)) (a.put d v) w' → next (a.put d v) w') (hdd : d = o.dst) :
  o.wpIn (FR R) n G.P a w next Q := by
 refine wpIn_of_wp (by rw [ho]; intro c hc; cases hc) ?_
 obtain ⟨B1,X1,w1,ρ,Φ,h1,h2,h3,h4,h5,h6⟩ := hat
 have hv := evRel h5 hx
 simp only [Rep] at hv
 obtain ⟨hm,hρ,hv,_⟩ := hv
 obtain ⟨a1,a2,a3,es,cl,a4,a5,a6,a7⟩ := mapAt h6.zero hH hρ
 have hlt : hm.b < w.heap.size := (Array.getElem?_eq_some_iff.1 a4).1
 let hdd' : Hd := ⟨w.heap.size,0,0,false,undef,[hm.b,w.heap.size]⟩
 have hfr := h6.none_next
 have hle := NmLe.upd hfr hdd'
 have hR : rangeR j m (fun _ => False) none G Φ (upd ρ S.next (some hdd')) { w with heap := w.heap.push (.mapIter (some hm.b) cl #[] cl) } hdd' :=
  ⟨hm,hle _ _ hρ,a1,a2,rfl,(by show hm.b ≠ w.heap.size; omega),a3,es,cl,#[],by rw [push_get w _ hlt]; exact a4,by simp [hdd'],a5,a6,a7,(fun e he k v hk hr => by simp),trivial⟩
 have hw := Wf0.join h6.zero hfr (hd := hdd') (o := .opq (rangeR j m (fun _ => False) none)) hH hρ (.mapIter (some hm.b) cl #[] cl) rfl a1 ⟨hR,rangeR_stay hR⟩
 have hnm := NmTo.new hfr hdd'
 refine wp_value (v := .pointer (some ⟨w.heap.size,0,none⟩)) (w' := { w with heap := w.heap.push (.mapIter (some hm.b) cl #[] cl) }) ?_ ?_
 ·simp [execOp,ho,hv,a2,Instr.range,run_underlying ht,MapKept.run_getObj_map a4,newObj,Sem.run,Result.andThen]
 ·rw [← hdd]
  exact hn _ _ (at_after h1 h2 h3 h4 h5 hle (PhiLe.refl _) (fun b o e => .inl e) (hw.up (hnm.dom h6.dom)) (by simp only [Rep]; exact ⟨hdd',upd_same _ _ _,rfl⟩) hd)

theorem nxt_ok {a : Act} {w : World} {o : Oper} {it : Operand} {d : Option Nat} (ho : o.op = .next it false) {S : St} {n' j : Nat} {m : MC} {Dn : AV → Prop} {cur : Option (AV × AV)} (hx : S.ev it = some (.ref j 0)) (hH : S.heap j = some (.opq (rangeR n' m Dn cur)))
  (hne : n' ≠ j) (hn0 : S.heap n' = none) (hat : At G B X Φ0 w0 N D S a w) (hd : ∀ k,d = some k → k < N) {Q : Exit → Act → World → Prop} {next : Act → World → Prop} (hdd : d = o.dst)
  (hn1 : ∀ k v x w',m.M k v → ¬ Dn k → At G B X Φ0 w0 N D (St.set ⟨S.env,upd S.heap j (some (.opq (rangeR n' m (fun x => x = k ∨ Dn x) (some (k,v))))),S.next⟩ d (.tup [.bool true,k,v])) (a.put d x) w' → next (a.put d x) w')
  (hn2 : ∀ x w',(∀ k v,m.M k v → Dn k) → At G B X Φ0 w0 N D (St.set ⟨S.env,upd (upd S.heap j none) n' (some (.opq (mapR m))),S.next⟩ d (.tup [.bool false])) (a.put d x) w' → next (a.put d x) w') :
  o.wpIn (FR R) n G.P a w next Q := by
 refine wpIn_of_wp (by rw [ho]; intro c hc; cases hc) ?_
 obtain ⟨B1,X1,w1,ρ,Φ,h1,h2,h3,h4,h5,h6⟩ := hat
 have hv := evRel h5 hx
 simp only [Rep] at hv
 obtain ⟨hi,hρ,hv⟩ := hv
 obtain ⟨hi',e1,⟨hR,_⟩,e3⟩ := h6.objs j _ hH
 rw [hρ] at e1; cases e1
 obtain ⟨hm,b0,b1,b2,b3,b4,b5,es,cl,seen,c1,c2,c3,c4,c5,c6,c7⟩ := hR
 have hst := (MapKept.stamped_iff es cl).1 c3
 rcases run_next_at (P := G.P) w o.type hi.b hm.b cl cl seen es cl c2 c1 hst.1 (Nat.le_refl _) with ⟨r1,r2⟩ | ⟨e,he,w2,hw2,r2⟩
 ·have hall : ∀ e ∈ es.toList,seen.contains e.born = true := by
   intro e he
   cases hc : seen.contains e.born with
   | true => rfl
   | false =>
    exfalso
    have : e ∈ (leftOf es seen) := by
     unfold leftOf
     rw [Array.mem_filter]
     exact ⟨by simpa using he,by rw [hc]; rfl⟩
    have := Array.size_pos_of_mem this
    omega
  have hmR : mapR m G Φ ρ w hm := ⟨b1,b2,b5,es,cl,c1,c3,c4,c5⟩
  have hw := Wf0.give h6.zero (o := .opq (mapR m)) hne hH hρ b0 hn0 (by intro b hb; rw [b1] at hb; rw [b3]; simp at hb ⊢; exact .inl hb) ⟨hmR,mapR_stay hmR⟩
  refine wp_value (v := .tuple #[.bool false]) (w' := w) (by simp [execOp,ho,hv,r2]) ?_
  rw [← hdd]
  refine hn2 _ _ (fun k v hk => ?_) (at_after h1 h2 h3 h4 h5 (NmLe.refl _) (PhiLe.refl _) (fun b o e => .inl e) (hw.up h6.dom) (by simp only [Rep]; exact ⟨_,rfl,rfl,by simp [RepAt,Rep]⟩) hd)
  obtain ⟨_,e,he,q1,q2⟩ := c5 k v hk
  exact (c6 e he k v hk q1).2 (hall e he)
 ·have he' : e ∈ es.toList ∧ seen.contains e.born = false := by
   unfold leftOf at he
   simp only [Array.toList_filter,List.mem_filter,Bool.not_eq_true'] at he
   exact he
  obtain ⟨k,v,q1,q2,q3,q4⟩ := c4 e he'.1
  have hnd : ¬ Dn k := fun h => by
   have := (c6 e he'.1 k v q1 q3).1 h
   rw [this] at he'
   cases he'.2
  have hw1 : Wf0 G B1 X1 w1 ρ Φ S.heap w2 := by
   rcases hw2 with rfl | rfl
   ·exact h6.zero
   ·exact h6.zero.drew _
  have hheap : w2.heap = w.heap := by rcases hw2 with rfl | rfl <;> rfl
  have hblt : hi.b < w.heap.size := (Array.getElem?_eq_some_iff.1 c2).1
  have hR' : rangeR n' m (fun x => x = k ∨ Dn x) (some (k,v)) G Φ ρ (ChangeMaps.setBlock w2 hi.b (.mapIter (some hm.b) cl (seen.push e.born) cl)) hi := by
   refine ⟨hm,b0,b1,b2,b3,b4,b5,es,cl,seen.push e.born,?_,?_,c3,c4,c5,fun e2 he2 k2 v2 hm2 hr2 => ?_,e,he'.1,seen,rfl,q3,q4⟩
   ·simp only [ChangeMaps.setBlock,hheap]
    rw [Array.getElem?_setIfInBounds_ne (Ne.symm b4)]
    exact c1
   ·simp only [ChangeMaps.setBlock,hheap]
    simp [hblt]
   ·rw [Array.contains_push,Bool.or_eq_true,← c6 e2 he2 k2 v2 hm2 hr2]
    have hk2 := (c5 k2 v2 hm2).1
    constructor
    ·rintro (rfl | h)
     ·have : e2.key = e.key := by rw [(kOk_rep hk2 _ _ _ _).1 hr2,(kOk_rep q2 _ _ _ _).1 q3]
      have hee : e2 = e := pw_eq (·.key) hst.2.2 he2 he'.1 this
      subst hee
      exact .inr (by simp)
     ·exact .inl h
    ·rintro (h | h)
     ·exact .inr h
     ·have hb : e2.born = e.born := by simpa using h
      have hp : es.toList.Pairwise (fun x y => x.born ≠ y.born) := List.pairwise_map.1 hst.2.1
      have hee : e2 = e := pw_eq (·.born) hp he2 he'.1 hb
      subst hee
      exact .inl (kv_inj hk2 q2 (by rw [← (kOk_rep hk2 _ _ _ _).1 hr2,← (kOk_rep q2 _ _ _ _).1 q3]))
  have hw := hw1.write (o := .opq (rangeR n' m (fun x => x = k ∨ Dn x) (some (k,v)))) (w' := ChangeMaps.setBlock w2 hi.b (.mapIter (some hm.b) cl (seen.push e.born) cl)) hH rfl hρ rfl rfl rfl (by simp [ChangeMaps.setBlock])
   (fun b hb => by
    simp only [ChangeMaps.setBlock]
    rw [Array.getElem?_setIfInBounds_ne]
    intro e1; subst e1; rw [b3] at hb; simp at hb) ⟨hR',rangeR_stay hR'⟩
  refine wp_value (v := .tuple #[.bool true,e.key,e.val]) (w' := ChangeMaps.setBlock w2 hi.b (.mapIter (some hm.b) cl (seen.push e.born) cl)) (by simp [execOp,ho,hv,r2]) ?_
  rw [← hdd]
  refine hn1 k v _ _ q1 hnd (at_after h1 h2 h3 h4 h5 (NmLe.refl _) (PhiLe.refl _) (fun b o e => .inl e) (hw.up h6.dom) ?_ hd)
  simp only [Rep]
  refine ⟨_,rfl,rfl,⟨.bool true,rfl,by simp [Rep]⟩,⟨e.key,rfl,Rep.mono (PhiLe.refl _) k (fun _ _ e => by cases e) q3⟩,⟨e.val,rfl,Rep.mono (PhiLe.refl _) v (fun _ _ e => by cases e) q4⟩,trivial⟩

theorem ent_ok {a : Act} {w : World} {o : Oper} {it : Operand} {d : Option Nat} (ho : o.op = .entry it) {S : St} {n' j : Nat} {m : MC} {Dn : AV → Prop} {k v : AV} (hx : S.ev it = some (.ref j 0)) (hH : S.heap j = some (.opq (rangeR n' m Dn (some (k,v)))))
  (hat : At G B X Φ0 w0 N D S a w) (hd : ∀ k,d = some k → k < N) {Q : Exit → Act → World → Prop} {next : Act → World → Prop} (hdd : d = o.dst)
  (hn1 : ∀ x w',At G B X Φ0 w0 N D (S.set d (.tup [k,v])) (a.put d x) w' → next (a.put d x) w') : o.wpIn (FR R) n G.P a w next Q := by
 refine wpIn_of_wp (by rw [ho]; intro c hc; cases hc) ?_
 obtain ⟨B1,X1,w1,ρ,Φ,h1,h2,h3,h4,h5,h6⟩ := hat
 have hv := evRel h5 hx
 simp only [Rep] at hv
 obtain ⟨hi,hρ,hv⟩ := hv
 obtain ⟨hi',e1,⟨hR,_⟩,e3⟩ := h6.objs j _ hH
 rw [hρ] at e1; cases e1
 obtain ⟨hm,b0,b1,b2,b3,b4,b5,es,cl,seen,c1,c2,c3,c4,c5,c6,e,he,s,rfl,q3,q4⟩ := hR
 have r2 := run_entry_at (P := G.P) w hi.b hm.b cl s es cl e c2 c1 he c3.2.1
 refine wp_value (v := .tuple #[e.key,e.val]) (w' := w) (by simp [execOp,ho,hv,r2]) ?_
 rw [← hdd]
 refine hn1 _ _ (at_after (H' := S.heap) (nx' := S.next) h1 h2 h3 h4 h5 (NmLe.refl _) (PhiLe.refl _) (fun b o e => .inl e) h6 ?_ hd)
 simp only [Rep]
 exact ⟨_,rfl,rfl,⟨e.key,rfl,Rep.mono (PhiLe.refl _) k (fun _ _ e => by cases e) q3⟩,⟨e.val,rfl,Rep.mono (PhiLe.refl _) v (fun _ _ e => by cases e) q4⟩,trivial⟩

theorem strItR_stay {l : List UInt8} {p : Nat} {Φ : Phi} {ρ : Nm} {w : World} {h : Hd} (hr : strItR l p G Φ ρ w h) : ∀ w' Φ' ρ',(∀ b ∈ h.fp,w'.heap[b]? = w.heap[b]?) → PhiLe Φ Φ' → NmLe ρ ρ' → (∀ b o,Φ' b = some o → w'.heap[b]? = some o) → strItR l p G Φ' ρ' w' h :=
 fun _ _ _ hw _ _ _ => ⟨hr.1,(hw _ (by rw [hr.1]; simp)).trans hr.2⟩

theorem rngS_ok {a : Act} {w : World} {o : Oper} {t : TypeId} {x : Operand} {d : Option Nat} (ho : o.op = .range t x) (ht : G.P.underlying t = some .string) {S : St} {l : List UInt8} (hx : S.ev x = some (.str l))
  (hat : At G B X Φ0 w0 N D S a w) (hd : ∀ k,d = some k → k < N) {Q : Exit → Act → World → Prop} {next : Act → World → Prop}
  (hn : ∀ v w',At G B X Φ0 w0 N D (St.set ⟨S.env,upd S.heap S.next (some (.opq (strItR l 0))),S.next + 1⟩ d (.ref S.next 0)) (a.put d v) w' → next (a.put d v) w') (hdd : d = o.dst) :
  o.wpIn (FR R) n G.P a w next Q := by
 refine wpIn_of_wp (by rw [ho]; intro c hc; cases hc) ?_
 obtain ⟨B1,X1,w1,ρ,Φ,h1,h2,h3,h4,h5,h6⟩ := hat
 have hv := evRel h5 hx
 simp only [Rep] at hv
 let hd' : Hd := ⟨w.heap.size,0,0,false,undef,[w.heap.size]⟩
 have hfr := h6.none_next
 have hR : strItR l 0 G Φ (upd ρ S.next (some hd')) { w with heap := w.heap.push (.stringIter ⟨l.toArray⟩ 0) } hd' := ⟨rfl,by simp [hd']⟩
 have hw := Wf0.push h6.zero hfr (.stringIter ⟨l.toArray⟩ 0) hd' (.opq (strItR l 0)) rfl rfl ⟨hR,strItR_stay hR⟩
 have hnm := NmTo.new hfr hd'
 refine wp_value (v := .pointer (some ⟨w.heap.size,0,none⟩)) (w' := { w with heap := w.heap.push (.stringIter ⟨l.toArray⟩ 0) }) ?_ ?_
 ·simp [execOp,ho,hv,Instr.range,run_underlying ht,newObj,Sem.run,Result.andThen]
 ·rw [← hdd]
  exact hn _ _ (at_after h1 h2 h3 h4 h5 (NmLe.upd hfr hd') (PhiLe.refl _) (fun b o e => .inl e) (hw.up (hnm.dom h6.dom)) (by simp only [Rep]; exact ⟨hd',upd_same _ _ _,rfl⟩) hd)

theorem nxtS_ok {a : Act} {w : World} {o : Oper} {it : Operand} {d : Option Nat} (ho : o.op = .next it true) {S : St} {j : Nat} {l : List UInt8} {p : Nat} (hx : S.ev it = some (.ref j 0)) (hH : S.heap j = some (.opq (strItR l p)))
  (hat : At G B X Φ0 w0 N D S a w) (hd : ∀ k,d = some k → k < N) {Q : Exit → Act → World → Prop} {next : Act → World → Prop} (hdd : d = o.dst)
  (hn1 : ∀ x w',p < l.length → At G B X Φ0 w0 N D (St.set ⟨S.env,upd S.heap j (some (.opq (strItR l (p + (decU l p).2)))),S.next⟩ d (.tup [.bool true,.int .i64 p,.int .i32 (decU l p).1])) (a.put d x) w' → next (a.put d x) w')
  (hn2 : ∀ x w',l.length ≤ p → At G B X Φ0 w0 N D (S.set d (.tup [.bool false])) (a.put d x) w' → next (a.put d x) w') :
  o.wpIn (FR R) n G.P a w next Q := by
 refine wpIn_of_wp (by rw [ho]; intro c hc; cases hc) ?_
 obtain ⟨B1,X1,w1,ρ,Φ,h1,h2,h3,h4,h5,h6⟩ := hat
 have hv := evRel h5 hx
 simp only [Rep] at hv
 obtain ⟨hi,hρ,hv⟩ := hv
 obtain ⟨hi',e1,⟨⟨b1,b2⟩,_⟩,e3⟩ := h6.objs j _ hH
 rw [hρ] at e1; cases e1
 have hblt : hi.b < w.heap.size := (Array.getElem?_eq_some_iff.1 b2).1
 have hsz : (⟨l.toArray⟩ : ByteArray).size = l.length := by simp [ByteArray.size]
 have hget : (getObj hi.b).run G.P w = .ok (.stringIter ⟨l.toArray⟩ p) w := by simp [getObj,Sem.run,b2]
 by_cases hp : p < l.length
 ·have hR' : strItR l (p + (decU l p).2) G Φ ρ (ChangeMaps.setBlock w hi.b (.stringIter ⟨l.toArray⟩ (p + (decU l p).2))) hi := by
   refine ⟨b1,?_⟩
   simp only [ChangeMaps.setBlock]
   simp [hblt]
  have hw := h6.zero.write (o := .opq (strItR l (p + (decU l p).2))) (w' := ChangeMaps.setBlock w hi.b (.stringIter ⟨l.toArray⟩ (p + (decU l p).2))) hH rfl hρ rfl rfl rfl (by simp [ChangeMaps.setBlock])
   (fun b hb => by
    simp only [ChangeMaps.setBlock]
    rw [Array.getElem?_setIfInBounds_ne]
    intro e1; subst e1; rw [b1] at hb; simp at hb) ⟨hR',strItR_stay hR'⟩
  refine wp_value (v := .tuple #[.bool true,.int .i64 p,.int .i32 (decU l p).1]) (w' := ChangeMaps.setBlock w hi.b (.stringIter ⟨l.toArray⟩ (p + (decU l p).2))) ?_ ?_
  ·simp [execOp,ho,hv,Instr.next,hget,hsz,hp,setObj,Sem.run,Result.andThen,ChangeMaps.setBlock,decU,goInt,b2]
  ·rw [← hdd]
   refine hn1 _ _ hp (at_after h1 h2 h3 h4 h5 (NmLe.refl _) (PhiLe.refl _) (fun b o e => .inl e) (hw.up h6.dom) ?_ hd)
   simp only [Rep]
   exact ⟨_,rfl,rfl,⟨_,rfl,by simp [Rep]⟩,⟨_,rfl,by simp [Rep]⟩,⟨_,rfl,by simp [Rep]⟩,trivial⟩
 ·refine wp_value (v := .tuple #[.bool false]) (w' := w) ?_ ?_
  ·simp [execOp,ho,hv,Instr.next,hget,hsz,hp,Result.andThen]
  ·rw [← hdd]
   refine hn2 _ _ (by omega) (at_after (H' := S.heap) (nx' := S.next) h1 h2 h3 h4 h5 (NmLe.refl _) (PhiLe.refl _) (fun b o e => .inl e) h6 ?_ hd)
   simp only [Rep]
   exact ⟨_,rfl,rfl,by simp [RepAt,Rep]⟩

theorem sops_ok {Y : YT} (hY : YOk G Y B X w0 Φ0 D.nm) {Q : Exit → Act → World → Prop} :
  ∀ (l : List SO) (k : Nat) (S : St) (K : St → Prop) (a : Act) (w : World),(∀ (j : Nat) so,l[j]? = some so → ∃ o,ops[k + j]? = some o ∧ SORel G ops N o so) → At G B X Φ0 w0 N D S a w → sos Y l S K →
   (∀ S' a' w',K S' → At G B X Φ0 w0 N D S' a' w' → Q .normal a' w') → wpOpsIn (FR R) n G.P ops Q (List.range' k l.length) a w
 | [],k,S,K,a,w,_,hat,h,hq => hq _ _ _ h hat
 | so :: l,k,S,K,a,w,hl,hat,h,hq => by
  obtain ⟨o,hi,hrel⟩ := hl 0 so rfl
  rw [Nat.add_zero] at hi
  have hl' : ∀ (j : Nat) so,l[j]? = some so → ∃ o,ops[k + 1 + j]? = some o ∧ SORel G ops N o so := fun j so hj => by
   have := hl (j + 1) so (by simpa using hj)
   rwa [show k + 1 + j = k + (j + 1) by omega]
  have ih := fun S' a' w' (hk : sos Y l S' K) hat' => sops_ok hY l (k + 1) S' K a' w' hl' hat' hk hq
  simp only [List.length_cons,List.range'_succ]
  rw [wpOpsIn_cons]
  cases so with
  | op io => exact wpOp_ok hi hrel hat h fun S' a' w' hk hat' => ih S' a' w' hk hat'
  | call g d T args =>
   obtain ⟨hb,f,ts,ho,hk⟩ := hrel
   simp only [sos] at h
   refine grd_ok hi hb hat h ?_ ?_
   ·intro h
    obtain ⟨B1,X1,w1,ρ,Φ,h1,h2,h3,h4,h5,h6⟩ := hat
    split at h
    case h_2 => exact h.elim
    rename_i vs hvs
    obtain ⟨e1,e2⟩ := evsRel h5 hvs
    obtain ⟨fn,f1,f2,f3⟩ := hk.1
    refine hcall_ok (vs := args.toArray.map a.eval) ?_ (by rw [ho]; intro c hc; cases hc) hk h2.bs h6 (by simp [e1]) e2 h ?_
    ·simp [execOp,ho,resolve,Act.eval,Deferred.ofValue,invoke,run_callFunc f1 f2 f3]
    ·intro r v ρ' Φ' H' nx' w' q1 q2 q3 q4 q5 q6
     exact ih _ _ _ q1 (by rw [hb.dst]; exact at_after h1 h2 h3 h4 h5 q2 q3 q4 q5 q6 hb.lt)
   ·intro h
    refine ih _ _ _ h ?_
    rw [hb.dst]
    exact at_put hat hb.lt (fun ρ Φ => by simp [Rep])
  | rng d x =>
   obtain ⟨hb,t,k',e,ho,ht⟩ := hrel
   simp only [sos] at h
   split at h
   case h_2 => exact h.elim
   rename_i j hx
   split at h
   case h_2 => exact h.elim
   rename_i R' hH
   obtain ⟨m,rfl,h⟩ := h
   refine grd_ok hi hb hat (run := True) (skip := False) trivial (fun _ => ?_) (fun h => h.elim)
   exact rng_ok ho ht hx hH hat (by rw [hb.dst]; exact hb.lt) (fun v w' hat' => by rw [hb.dst] at hat' h ⊢; exact ih _ _ _ h hat') hb.dst
  | nxt d it =>
   obtain ⟨hb,ho⟩ := hrel
   simp only [sos] at h
   split at h
   case h_2 => exact h.elim
   rename_i j hx
   split at h
   case h_2 => exact h.elim
   rename_i R' hH
   obtain ⟨n',m,Dn,cur,⟨rfl,hne,hn0⟩,g1,g2⟩ := h
   refine grd_ok hi hb hat (run := True) (skip := False) trivial (fun _ => ?_) (fun h => h.elim)
   exact nxt_ok ho hx hH hne hn0 hat (by rw [hb.dst]; exact hb.lt) hb.dst (fun k v x w' q1 q2 hat' => by have := g1 k v q1 q2; rw [hb.dst] at hat' this ⊢; exact ih _ _ _ this hat')
    (fun x w' q1 hat' => by have := g2 q1; rw [hb.dst] at hat' this ⊢; exact ih _ _ _ this hat')
  | ent d it =>
   obtain ⟨hb,ho⟩ := hrel
   simp only [sos] at h
   split at h
   case h_2 => exact h.elim
   rename_i j hx
   split at h
   case h_2 => exact h.elim
   rename_i R' hH
   obtain ⟨n',m,Dn,k',v,rfl,h⟩ := h
   refine grd_ok hi hb hat (run := True) (skip := False) trivial (fun _ => ?_) (fun h => h.elim)
   exact ent_ok ho hx hH hat (by rw [hb.dst]; exact hb.lt) hb.dst (fun x w' hat' => by rw [hb.dst] at hat' h ⊢; exact ih _ _ _ h hat')
  | rngS d x =>
   obtain ⟨hb,t,ho,ht⟩ := hrel
   simp only [sos] at h
   split at h
   case h_2 => exact h.elim
   rename_i l hx
   refine grd_ok hi hb hat (run := True) (skip := False) trivial (fun _ => ?_) (fun h => h.elim)
   exact rngS_ok ho ht hx hat (by rw [hb.dst]; exact hb.lt) (fun v w' hat' => by rw [hb.dst] at hat' h ⊢; exact ih _ _ _ h hat') hb.dst
  | nxtS d it =>
   obtain ⟨hb,ho⟩ := hrel
   simp only [sos] at h
   split at h
   case h_2 => exact h.elim
   rename_i j hx
   split at h
   case h_2 => exact h.elim
   rename_i R' hH
   obtain ⟨l,p,rfl,g1,g2⟩ := h
   refine grd_ok hi hb hat (run := True) (skip := False) trivial (fun _ => ?_) (fun h => h.elim)
   exact nxtS_ok ho hx hH hat (by rw [hb.dst]; exact hb.lt) hb.dst (fun x w' q1 hat' => by have := g1 q1; rw [hb.dst] at hat' this ⊢; exact ih _ _ _ this hat')
    (fun x w' q1 hat' => by have := g2 q1; rw [hb.dst] at hat' this ⊢; exact ih _ _ _ this hat')
  | dyn io Γ x args =>
   obtain ⟨hio,ts,ho,hΓ⟩ := hrel
   have hb := hio.base
   simp only [sos] at h
   split at h
   case h_1 l f c hx =>
    refine grd_ok hi hb hat h ?_ ?_
    ·intro h
     obtain ⟨B1,X1,w1,ρ,Φ,h1,h2,h3,h4,h5,h6⟩ := hat
     split at h
     case h_2 => exact h.elim
     rename_i vs hvs
     obtain ⟨e1,e2⟩ := evsRel h5 hvs
     have e3 := evRel h5 hx
     simp only [Rep] at e3
     obtain ⟨hf,hyy⟩ := h
     obtain ⟨fn,tmps,asg,body,y1,y2⟩ := hY l vs (args.toArray.map a.eval) S.heap S.next _ B1 X1 w1 ρ Φ w (n - 1) h2.ext h2.bs h2.nm h3 h4 h6 (by simp [e1]) e2 hyy
     rw [List.map_toArray] at y1
     have run : (execOp a.eval o).run G.P w = .ok (.round l fn tmps asg body) w := by
      simp [execOp,ho,resolve,e3,hf,Deferred.ofValue,invoke,y1]
     refine ⟨fun _ _ => trivial,?_⟩
     rw [Oper.semAt_eq _ _ _ (by rw [ho]; intro c hc; cases hc),run,Oper.uponIn_round]
     refine ⟨fun e => (by cases e),?_⟩
     refine RoundIn.mono (show RoundIn (FR R) (n - 1) G.P l fn tmps asg body w _ from y2) ?_
     rintro e w' ⟨y,rfl,H',nx',ρ',Φ',q1,q2,q3,q4,q5⟩
     exact ih _ _ _ q1 (by rw [hb.dst]; exact at_after h1 h2 h3 h4 h5 q2 q3 q4 q5 (by simp [Rep]) hb.lt)
    ·intro h
     refine ih _ _ _ h ?_
     rw [hb.dst]
     exact at_put hat hb.lt (fun ρ Φ => by simp [Rep])
   case h_2 t caps hx =>
    split at h
    case h_2 => exact wpOp_ok hi hio hat h fun S' a' w' hk hat' => ih S' a' w' hk hat'
    rename_i T hT
    have hk := hΓ t T hT
    refine grd_ok hi hb hat h ?_ ?_
    ·intro h
     obtain ⟨B1,X1,w1,ρ,Φ,h1,h2,h3,h4,h5,h6⟩ := hat
     split at h
     case h_2 => exact h.elim
     rename_i vs hvs
     obtain ⟨e1,e2⟩ := evsRel h5 hvs
     have e3 := evRel h5 hx
     simp only [Rep] at e3
     obtain ⟨A,e3,e4,e5⟩ := e3
     obtain ⟨fn,f1,f2,f3⟩ := hk.1
     refine hcall_ok (vs := (args.toArray.map a.eval) ++ A) ?_ (by rw [ho]; intro c hc; cases hc) hk h2.bs h6 (by simp [e1,e4]) (RepAt.cat e2 e5 (by simp [e1])) h ?_
     ·simp [execOp,ho,resolve,e3,Deferred.ofValue,invoke,run_callFunc f1 f2 f3]
     ·intro r v ρ' Φ' H' nx' w' q1 q2 q3 q4 q5 q6
      exact ih _ _ _ q1 (by rw [hb.dst]; exact at_after h1 h2 h3 h4 h5 q2 q3 q4 q5 q6 hb.lt)
    ·intro h
     refine ih _ _ _ h ?_
     rw [hb.dst]
     exact at_put hat hb.lt (fun ρ Φ => by simp [Rep])
   case h_3 => exact wpOp_ok hi hio hat h fun S' a' w' hk hat' => ih S' a' w' hk hat'
end

end Qk

/-
  Ranges over functions.
-/
namespace Qk
open Go Go.RowKit

theorem putObj_putObj {w : World} {l : Nat} {o o' : Obj} (h : w.heap[l]? = some o) : (w.putObj l o').putObj l o = w := by
 unfold World.putObj
 simp only [Array.setIfInBounds_setIfInBounds]
 have : w.heap.setIfInBounds l o = w.heap := by
  apply Array.ext
  ·simp
  ·intro i h1 h2
   rw [Array.getElem_setIfInBounds]
   split
   ·rename_i e
    subst e
    have := (Array.getElem?_eq_some_iff.1 h)
    exact this.2.symm
   ·rfl
 rw [this]

theorem updL_env {G : Gl} {Φ : Phi} {ρ : Nm} : ∀ (ps : List Nat) (us : List AV) (vs : List Value) (env : Nat → Option AV) (tmps : Array Value) (N : Nat),tmps.size = N → (∀ p ∈ ps,p < N) → us.length = ps.length → vs.length = ps.length →
  (∀ (j : Nat) u,us[j]? = some u → ∃ x,vs[j]? = some x ∧ Rep G Φ u ρ x) → EnvRel G Φ ρ env { tmps := tmps,defers := [] } →
  EnvRel G Φ ρ (updL env ps us) { tmps := (ps.zip vs).foldl (fun tmps (t,a) => tmps.setIfInBounds t a) tmps,defers := [] } ∧ ((ps.zip vs).foldl (fun tmps (t,a) => tmps.setIfInBounds t a) tmps).size = N
 | [],us,vs,env,tmps,N,hN,_,_,_,_,he => by simpa [updL] using ⟨he,hN⟩
 | p :: ps,[],vs,env,tmps,N,_,_,hu,_,_,_ => by simp at hu
 | p :: ps,u :: us,[],env,tmps,N,_,_,_,hv,_,_ => by simp at hv
 | p :: ps,u :: us,v :: vs,env,tmps,N,hN,hp,hu,hv,hr,he => by
  obtain ⟨x,hx,h0⟩ := hr 0 u rfl
  simp at hx
  subst hx
  simp only [updL,List.zip_cons_cons,List.foldl_cons]
  refine updL_env ps us vs (upd env p (some u)) (tmps.setIfInBounds p v) N (by simpa using hN) (fun q hq => hp q (by simp [hq])) (by simpa using hu) (by simpa using hv) (fun j w hj => ?_) ?_
  ·have := hr (j + 1) w (by simpa using hj)
   simpa using this
  ·have := he.put (d := p) (v := u) (x := v) (by rw [show ({ tmps := tmps,defers := [] } : Act).tmps = tmps from rfl,hN]; exact hp p (by simp)) h0
   simpa [Act.put] using this

section
variable {G : Gl} {N : Nat}

theorem at_putObj {B : Nat} {X : Nat → Prop} {Φ0 : Phi} {w0 : World} {D : Fl} {S : St} {a : Act} {w : World} (h : At G B X Φ0 w0 N D S a w) {l : Nat} (hl : l < B) (hx : ¬ X l) (hphi : Φ0 l = none) (hB : B ≤ w0.heap.size) (o : Obj) :
  At G B X Φ0 (w0.putObj l o) N D S a (w.putObj l o) := by
 obtain ⟨B1,X1,w1,ρ,Φ,a1,a2,a3,a4,a5,a6⟩ := h
 have hphi' : Φ l = none := by
  cases e : Φ l with
  | none => rfl
  | some o' =>
   rcases a4 l o' e with h | h
   ·rw [hphi] at h; cases h
   ·omega
 refine ⟨B1,X1,w1.putObj l o,ρ,Φ,a1,⟨a2.ext.putObj2 hB a2.bs o,by simpa using a2.bs,a2.nm,?_⟩,a3,a4,a5,a6.putObj (Nat.lt_of_lt_of_le hl a2.ext.le) (a2.ext.fr l hl hx).1 hphi' a2.bs o⟩
 obtain ⟨ms,h1,h2,h3⟩ := a2.marks
 refine ⟨ms,h1,h2,fun b hb => ?_⟩
 obtain ⟨q1,q2,q3,q4,q5⟩ := h3 b hb
 exact ⟨q1,q2,q3,by rw [World.putObj_heap_other (by omega)]; exact q4,q5⟩

/-- What the base protects lies as it lay. -/
theorem at_base {B : Nat} {X : Nat → Prop} {Φ0 : Phi} {w0 : World} {D : Fl} {S : St} {a : Act} {w : World} (h : At G B X Φ0 w0 N D S a w) {l : Nat} (hl : l < B) (hx : ¬ X l) : w.heap[l]? = w0.heap[l]? := by
 obtain ⟨B1,X1,w1,ρ,Φ,a1,a2,a3,a4,a5,a6⟩ := h
 exact (a6.back a2.ext).frame l hl hx

theorem rfunc_ok {g : Operand} {ps : Array Tmp} {assign body : Code} {ia ib : IC} {its : Nat → Option ITran} (h1 : CodeOk G N true assign ia) (h2 : CodeOk G N true body ib) (hps : ∀ p ∈ ps.toList,p < N)
  (hits : ∀ t T,its t = some T → KeepsI G T (G.tag t)) : CodeOk G N false (.rangeFunc g ps assign body) (.rfunc its g ps.toList (.seq ia ib)) := by
 intro x R n B X Φ0 w0 D K S a w Q hR hm hY hat h hq
 obtain rfl := hR.1 rfl
 simp only [awp] at h
 split at h
 case h_2 => exact h.elim
 rename_i t caps hg
 split at h
 case h_2 => exact h.elim
 rename_i T hT
 obtain ⟨B1,X1,w1,ρ,Φ,a1,a2,a3,a4,a5,a6⟩ := hat
 have hgr := evRel a5 hg
 simp only [Rep] at hgr
 obtain ⟨A,hA,hsz,hrep⟩ := hgr
 have hk := hits t T hT
 refine wpIn_rangeFunc (F := FR none) ?_
 intro fn _
 -- the two blocks
 obtain ⟨rec,hrec⟩ : ∃ rec : Loop,rec = { state := .ready,pending := none,fn,tmps := a.tmps,params := ps,assign,body,defers := w.heap.size } := ⟨_,rfl⟩
 obtain ⟨wl,hwl⟩ : ∃ wl : World,wl = (w.alloc (.deferred (some []))).alloc (.loop rec) := ⟨_,rfl⟩
 have hwsz : wl.heap.size = w.heap.size + 2 := by rw [hwl]; simp
 have hbelow : Below w.heap.size w wl := by
  rw [hwl]
  exact ((Below.refl _ w).alloc (Nat.le_refl _) _).alloc (by simp) _
 have hl0 : wl.heap[w.heap.size + 1]? = some (.loop rec) := by
  rw [hwl]
  have := World.alloc_heap_new (w.alloc (.deferred (some []))) (.loop rec)
  simpa using this
 have hd0 : wl.heap[w.heap.size]? = some (.deferred (some [])) := by
  have h3 := World.alloc_heap_new w (.deferred (some []))
  rw [hwl]
  exact (Below.heap_alloc (w.alloc (.deferred (some []))) (.loop rec) w.heap.size (by simp)).trans h3
 have hphiw : ∀ b o,Φ b = some o → b < w.heap.size := fun b o e => (Array.getElem?_eq_some_iff.1 (a6.phi b o e)).1
 have hwf1 : Wf G B1 X1 w1 ρ Φ S.heap S.next wl := a6.below hbelow (PhiLe.refl _) (fun b o e => by rw [hbelow.block b (hphiw b o e)]; exact a6.phi b o e) (fun b o e => .inl e)
 obtain ⟨X2,hX2⟩ : ∃ X2 : Nat → Prop,X2 = fun b => ∃ n hd,S.heap n ≠ none ∧ ρ n = some hd ∧ b ∈ hd.fp := ⟨_,rfl⟩
 have hX2' : ∀ b,X2 b → (B1 ≤ b ∨ X1 b) ∧ b < w.heap.size := by
  intro b hb
  rw [hX2] at hb
  obtain ⟨n,hd,h3,h4,h5⟩ := hb
  cases e : S.heap n with
  | none => exact absurd e h3
  | some o =>
   obtain ⟨hd',h6,_,h8⟩ := a6.objs n o e
   rw [h4] at h6; cases h6
   exact ⟨(h8 b h5).1,(h8 b h5).2.2⟩
 have hwf2 : Wf G wl.heap.size X2 wl ρ Φ S.heap S.next wl := by
  refine ⟨rfl,rfl,rfl,Nat.le_refl _,Nat.le_refl _,fun _ _ _ => rfl,hwf1.phi,hwf1.gb,hwf1.dom,?_,hwf1.disj⟩
  intro n o e
  obtain ⟨hd,h3,h4,h5⟩ := hwf1.objs n o e
  refine ⟨hd,h3,h4,fun b hb => ⟨.inr ?_,(h5 b hb).2⟩⟩
  rw [hX2]
  exact ⟨n,hd,by rw [e]; simp,h3,hb⟩
 have hext : Ext B1 X1 w1 wl.heap.size X2 wl := by
  refine ⟨hwf1.base,fun k hk hx => ⟨fun h3 => ?_,hwf1.frame k hk hx⟩,fun k hk hlt => ?_,hwf1.os,hwf1.tape,hwf1.output,hwf1.size⟩
  ·rcases (hX2' k h3).1 with h4 | h4
   ·omega
   ·exact hx h4
  ·rcases (hX2' k hk).1 with h4 | h4
   ·omega
   ·exact h4
 have hl2 : w.heap.size + 1 < wl.heap.size := by omega
 have hnx2 : ¬ X2 (w.heap.size + 1) := fun h3 => by have := (hX2' _ h3).2; omega
 have hnx2' : ¬ X2 w.heap.size := fun h3 => by have := (hX2' _ h3).2; omega
 have hphil : Φ (w.heap.size + 1) = none := by
  cases e : Φ (w.heap.size + 1) with
  | none => rfl
  | some o => have := hphiw _ _ e; omega
 have hphid : Φ w.heap.size = none := by
  cases e : Φ w.heap.size with
  | none => rfl
  | some o => have := hphiw _ _ e; omega
 have hBw : B ≤ w.heap.size := Nat.le_trans a2.ext.le a6.base
 have henter : (Instr.enterLoop fn a.tmps ps assign body (FR none).round).run G.P w = .ok (w.heap.size + 1,[mark w.heap.size]) wl := by
  rw [hwl,hrec]
  exact run_enterLoop_outer fn a.tmps ps assign body
 obtain ⟨fn',f1,f2,f3⟩ := hk.1
 refine ⟨w.heap.size + 1,[mark w.heap.size],wl,{ target := .fn (.func (G.tag t)) A,args := #[.func (.yield (w.heap.size + 1)) #[] #[]] },wl,G.tag t,#[.func (.yield (w.heap.size + 1)) #[] #[]] ++ A,wl,
  henter,?_,fun _ _ => trivial,?_,fun e => (by cases e),?_⟩
 ·have e0 : a.eval (.const (.func (.yield (w.heap.size + 1)) #[] #[])) = .func (.yield (w.heap.size + 1)) #[] #[] := rfl
  simp [resolve,hA,e0,Deferred.ofValue]
 ·simp [invoke,run_callFunc f1 f2 f3]
 refine (callsIn_wide (n := n - 1)).2 ?_
 refine Calls.mono (hk.2 (w.heap.size + 1) _ wl.heap.size X2 wl ρ Φ S.heap S.next wl caps A _ (Nat.le_refl _) ?_ hwf2 hsz hrep h) ?_
 ·-- a call of yield
  rintro l' us vs H nx J B3 X3 w3 ρ3 Φ3 w4 n' he3 hb3 hnm3 hle3 hn3 hwf3 hs3 hr3 ⟨rfl,hlen,hb⟩
  obtain ⟨p1,p2⟩ := he3.fr _ hl2 hnx2
  have hl3 : w.heap.size + 1 < B3 := Nat.lt_of_lt_of_le hl2 he3.le
  have hrec3 : w3.heap[w.heap.size + 1]? = some (.loop rec) := p2.trans hl0
  have hrec4 : w4.heap[w.heap.size + 1]? = some (.loop rec) := (hwf3.frame _ hl3 p1).trans hrec3
  have hphi3 : Φ3 (w.heap.size + 1) = none := by
   cases e : Φ3 (w.heap.size + 1) with
   | none => rfl
   | some o =>
    rcases hn3 _ o e with h3 | h3
    ·rw [hphil] at h3; cases h3
    ·omega
  have hvs : vs.size = rec.params.size := by rw [hs3,hlen,hrec]; simp
  have hBB : B ≤ w.heap.size + 1 := by omega
  have hchain : Ext B X w0 B3 X3 w3 := (a2.ext.trans hext).trans he3
  have hnewn : ∀ b o,Φ3 b = some o → Φ0 b = some o ∨ B ≤ b := fun b o e => (hn3 b o e).elim (a4 b o) (fun q => .inr (by omega))
  refine ⟨rec.fn,_,rec.assign,rec.body,run_yield hrec4 hvs,?_⟩
  refine roundIn_of_wpIn (F := Fence.wide) trivial ?_
  have henv := updL_env (G := G) (Φ := Φ3) (ρ := ρ3) ps.toList us vs.toList S.env a.tmps N a1 hps hlen (by simp [hs3,hlen]) (fun j u hj => by
   obtain ⟨y,hy,hrr⟩ := RepAt.get hr3 hj
   exact ⟨y,by rw [Nat.zero_add] at hy; simpa using hy,hrr⟩) (by
    have := a5.mono hle3 hnm3
    exact fun k v e => this k v e)
  have hfold : (rec.params.zip vs).foldl (fun tmps (t,a) => tmps.setIfInBounds t a) rec.tmps = (ps.toList.zip vs.toList).foldl (fun tmps (t,a) => tmps.setIfInBounds t a) a.tmps := by
   rw [hrec,← Array.foldl_toList,Array.toList_zip]
  rw [hfold]
  have hasg : rec.assign = assign := by rw [hrec]
  have hbod : rec.body = body := by rw [hrec]
  rw [hasg,hbod]
  have hY3 : YOk G x.Y B3 X3 w3 Φ3 ρ3 := hY.ext hchain ((a2.nm).trans hnm3) (a3.trans hle3) hnewn
  refine h1 ⟨nx,x.Y,false⟩ (some (w.heap.size + 1)) n' B3 X3 Φ3 w3 ⟨nx,ρ3,hwf3.dom⟩ _ ⟨updL S.env ps.toList us,H,nx⟩ _ w4 _ ⟨(fun e => by cases e),(fun l e => by cases e; exact ⟨hl3,p1,rec,hrec3⟩)⟩ ⟨Nat.le_refl _,(fun e => by cases e)⟩ hY3
   ⟨B3,X3,w3,ρ3,Φ3,henv.2,⟨Ext.refl _ _ _,hb3,NmLe.refl _,[],rfl,List.nodup_nil,fun b hb => by cases hb⟩,PhiLe.refl _,fun b o e => .inl e,henv.1,hwf3⟩ hb ?_
  intro e S' a' w' hk' hat'
  cases e with
  | normal =>
   have hrec' : w'.heap[w.heap.size + 1]? = some (.loop rec) := (at_base hat' hl3 p1).trans hrec3
   refine ⟨_,run_beginRound hrec' (by rw [hrec]),?_⟩
   have hY4 : YOk G x.Y B3 X3 (w3.putObj (w.heap.size + 1) (.loop { rec with state := .busy })) Φ3 ρ3 := hY.ext (hchain.putObj hBB _) ((a2.nm).trans hnm3) (a3.trans hle3) hnewn
   refine h2 ⟨nx,x.Y,false⟩ (some (w.heap.size + 1)) n' B3 X3 Φ3 (w3.putObj (w.heap.size + 1) (.loop { rec with state := .busy })) ⟨nx,ρ3,hwf3.dom⟩ _ S' a' _ _ ⟨(fun e => by cases e),(fun l e => by cases e; exact ⟨hl3,p1,_,World.putObj_heap_same (Nat.lt_of_lt_of_le hl3 hb3)⟩)⟩ ⟨Nat.le_refl _,(fun e => by cases e)⟩ hY4
    (at_putObj hat' hl3 p1 hphi3 hb3 _) hk' ?_
   intro e2 S2 a2' w2' hk2 hat2
   cases e2 with
   | normal =>
    have hrec2 : w2'.heap[w.heap.size + 1]? = some (.loop { rec with state := .busy }) := (at_base hat2 hl3 p1).trans (World.putObj_heap_same (Nat.lt_of_lt_of_le hl3 hb3))
    refine ⟨_,_,run_endRound none hrec2,_,rfl,?_⟩
    obtain ⟨B5,X5,w5,ρ5,Φ5,c1,c2,c3,c4,c5,c6⟩ := hat2
    have hphi5 : Φ5 (w.heap.size + 1) = none := by
     cases e : Φ5 (w.heap.size + 1) with
     | none => rfl
     | some o =>
      rcases c4 _ o e with h3 | h3
      ·rw [hphi3] at h3; cases h3
      ·omega
    refine ⟨S2.heap,S2.next,ρ5,Φ5,hk2,c2.nm,c3,c4,?_⟩
    have h7 := (c6.back c2.ext).putObj hl3 p1 hphi5 (by simpa using hb3) (.loop rec)
    rw [putObj_putObj hrec3] at h7
    have : ({ { rec with state := LoopState.busy } with state := if (none : Option Code).isNone = true then LoopState.ready else LoopState.done,pending := none } : Loop) = rec := by rw [hrec]; rfl
    rw [this]
    exact h7
   | exit id => exact hk2.elim
   | goto l => exact hk2.elim
   | ret => exact hk2.elim
   | panic ch => exact hk2.elim
   | outgrown => exact hk2.elim
  | exit id => exact hk'.elim
  | goto l => exact hk'.elim
  | ret => exact hk'.elim
  | panic ch => exact hk'.elim
  | outgrown => exact hk'.elim
 ·-- behind the loop
  rintro e w3 ⟨v,ρ',Φ',H',nx',rfl,q1,q2,q3,q4,q5⟩
  have hrec3 : w3.heap[w.heap.size + 1]? = some (.loop rec) := (q5.frame _ hl2 hnx2).trans hl0
  have hphi' : Φ' (w.heap.size + 1) = none := by
   cases e : Φ' (w.heap.size + 1) with
   | none => rfl
   | some o =>
    rcases q4 _ o e with h3 | h3
    ·rw [hphil] at h3; cases h3
    ·omega
  have hphid' : ∀ b,b < wl.heap.size → Φ b = none → Φ' b = none := by
   intro b hb hb2
   cases e : Φ' b with
   | none => rfl
   | some o =>
    rcases q4 _ o e with h3 | h3
    ·rw [hb2] at h3; cases h3
    ·omega
  have hend := run_endLoop (P := G.P) hrec3 (by rw [hrec]; simp)
  have hpend : rec.pending = none := by rw [hrec]
  rw [hpend] at hend
  refine ⟨none,_,hend,?_⟩
  refine hq .normal ⟨S.env,H',nx'⟩ _ _ q1 ⟨wl.heap.size,X2,wl.putObj (w.heap.size + 1) (.loop { rec with state := .exhausted,pending := none }),ρ',Φ',a1,⟨(a2.ext.trans hext).putObj (by omega) _,by simp,a2.nm.trans q2,?_⟩,a3.trans q3,
   fun b o e => (q4 b o e).elim (a4 b o) (fun e => .inr (by omega)),a5.mono q3 q2,q5.putObj hl2 hnx2 hphi' (Nat.le_refl _) _⟩
  obtain ⟨ms,m1,m2,m3⟩ := a2.marks
  refine ⟨w.heap.size :: ms,by simp [m1],?_,?_⟩
  ·rw [List.nodup_cons]
   refine ⟨fun hm => ?_,m2⟩
   have := (m3 _ hm).2.1
   have := a6.base
   omega
  ·intro b hb
   rcases List.mem_cons.1 hb with rfl | hb
   ·exact ⟨hBw,by omega,hnx2',by rw [World.putObj_heap_other (by omega)]; exact hd0,hphid' _ (by omega) hphid⟩
   ·obtain ⟨r1,r2,r3,r4,r5⟩ := m3 b hb
    have hbw : b < w.heap.size := Nat.lt_of_lt_of_le r2 a6.base
    refine ⟨r1,by omega,(hext.fr b r2 r3).1,?_,hphid' _ (by omega) r5⟩
    rw [World.putObj_heap_other (by omega),(hext.fr b r2 r3).2]
    exact r4
/-- A range over a function within a round of another. -/
theorem rfuncIn_ok {g : Operand} {ps : Array Tmp} {assign body : Code} {ia ib : IC} {its : Nat → Option ITran} (h1 : CodeOk G N true assign ia) (h2 : CodeOk G N true body ib) (hps : ∀ p ∈ ps.toList,p < N)
  (hits : ∀ t T,its t = some T → KeepsI G T (G.tag t)) : CodeOk G N true (.rangeFunc g ps assign body) (.rfunc its g ps.toList (.seq ia ib)) := by
 intro x R n B X Φ0 w0 D K S a w Q hR hm hY hat h hq
 cases R with
 | none => exact rfunc_ok h1 h2 hps hits x none n B X Φ0 w0 D K S a w Q RdOk.none hm hY hat h hq
 | some l0 =>
 simp only [awp] at h
 split at h
 case h_2 => exact h.elim
 rename_i t caps hg
 split at h
 case h_2 => exact h.elim
 rename_i T hT
 obtain ⟨q1,q2,r0,q3⟩ := hR.2 l0 rfl
 have hout : w.heap[l0]? = some (.loop r0) := (at_base hat q1 q2).trans q3
 obtain ⟨B1,X1,w1,ρ,Φ,a1,a2,a3,a4,a5,a6⟩ := hat
 have hgr := evRel a5 hg
 simp only [Rep] at hgr
 obtain ⟨A,hA,hsz,hrep⟩ := hgr
 have hk := hits t T hT
 refine wpIn_rangeFunc (F := FR (some l0)) ?_
 intro fn _
 -- the block
 obtain ⟨rec,hrec⟩ : ∃ rec : Loop,rec = { state := .ready,pending := none,fn,tmps := a.tmps,params := ps,assign,body,defers := r0.defers } := ⟨_,rfl⟩
 obtain ⟨wl,hwl⟩ : ∃ wl : World,wl = w.alloc (.loop rec) := ⟨_,rfl⟩
 have hwsz : wl.heap.size = w.heap.size + 1 := by rw [hwl]; simp
 have hbelow : Below w.heap.size w wl := by
  rw [hwl]
  exact (Below.refl _ w).alloc (Nat.le_refl _) _
 have hl0 : wl.heap[w.heap.size]? = some (.loop rec) := by
  rw [hwl]
  exact World.alloc_heap_new w (.loop rec)
 have hphiw : ∀ b o,Φ b = some o → b < w.heap.size := fun b o e => (Array.getElem?_eq_some_iff.1 (a6.phi b o e)).1
 have hwf1 : Wf G B1 X1 w1 ρ Φ S.heap S.next wl := a6.below hbelow (PhiLe.refl _) (fun b o e => by rw [hbelow.block b (hphiw b o e)]; exact a6.phi b o e) (fun b o e => .inl e)
 obtain ⟨X2,hX2⟩ : ∃ X2 : Nat → Prop,X2 = fun b => ∃ n hd,S.heap n ≠ none ∧ ρ n = some hd ∧ b ∈ hd.fp := ⟨_,rfl⟩
 have hX2' : ∀ b,X2 b → (B1 ≤ b ∨ X1 b) ∧ b < w.heap.size := by
  intro b hb
  rw [hX2] at hb
  obtain ⟨n,hd,h3,h4,h5⟩ := hb
  cases e : S.heap n with
  | none => exact absurd e h3
  | some o =>
   obtain ⟨hd',h6,_,h8⟩ := a6.objs n o e
   rw [h4] at h6; cases h6
   exact ⟨(h8 b h5).1,(h8 b h5).2.2⟩
 have hwf2 : Wf G wl.heap.size X2 wl ρ Φ S.heap S.next wl := by
  refine ⟨rfl,rfl,rfl,Nat.le_refl _,Nat.le_refl _,fun _ _ _ => rfl,hwf1.phi,hwf1.gb,hwf1.dom,?_,hwf1.disj⟩
  intro n o e
  obtain ⟨hd,h3,h4,h5⟩ := hwf1.objs n o e
  refine ⟨hd,h3,h4,fun b hb => ⟨.inr ?_,(h5 b hb).2⟩⟩
  rw [hX2]
  exact ⟨n,hd,by rw [e]; simp,h3,hb⟩
 have hext : Ext B1 X1 w1 wl.heap.size X2 wl := by
  refine ⟨hwf1.base,fun k hk hx => ⟨fun h3 => ?_,hwf1.frame k hk hx⟩,fun k hk hlt => ?_,hwf1.os,hwf1.tape,hwf1.output,hwf1.size⟩
  ·rcases (hX2' k h3).1 with h4 | h4
   ·omega
   ·exact hx h4
  ·rcases (hX2' k hk).1 with h4 | h4
   ·omega
   ·exact h4
 have hl2 : w.heap.size < wl.heap.size := by omega
 have hnx2 : ¬ X2 (w.heap.size) := fun h3 => by have := (hX2' _ h3).2; omega
 have hphil : Φ (w.heap.size) = none := by
  cases e : Φ (w.heap.size) with
  | none => rfl
  | some o => have := hphiw _ _ e; omega
 have hBw : B ≤ w.heap.size := Nat.le_trans a2.ext.le a6.base
 have henter : (Instr.enterLoop fn a.tmps ps assign body (FR (some l0)).round).run G.P w = .ok (w.heap.size,[]) wl := by
  rw [hwl,hrec]
  exact run_enterLoop_inner hout fn a.tmps ps assign body
 obtain ⟨fn',f1,f2,f3⟩ := hk.1
 refine ⟨w.heap.size,[],wl,{ target := .fn (.func (G.tag t)) A,args := #[.func (.yield (w.heap.size)) #[] #[]] },wl,G.tag t,#[.func (.yield (w.heap.size)) #[] #[]] ++ A,wl,
  henter,?_,fun _ _ => trivial,?_,fun e => (by cases e),?_⟩
 ·have e0 : a.eval (.const (.func (.yield (w.heap.size)) #[] #[])) = .func (.yield (w.heap.size)) #[] #[] := rfl
  simp [resolve,hA,e0,Deferred.ofValue]
 ·simp [invoke,run_callFunc f1 f2 f3]
 refine (callsIn_wide (n := n - 1)).2 ?_
 refine Calls.mono (hk.2 (w.heap.size) _ wl.heap.size X2 wl ρ Φ S.heap S.next wl caps A _ (Nat.le_refl _) ?_ hwf2 hsz hrep h) ?_
 ·-- a call of yield
  rintro l' us vs H nx J B3 X3 w3 ρ3 Φ3 w4 n' he3 hb3 hnm3 hle3 hn3 hwf3 hs3 hr3 ⟨rfl,hlen,hb⟩
  obtain ⟨p1,p2⟩ := he3.fr _ hl2 hnx2
  have hl3 : w.heap.size < B3 := Nat.lt_of_lt_of_le hl2 he3.le
  have hrec3 : w3.heap[w.heap.size]? = some (.loop rec) := p2.trans hl0
  have hrec4 : w4.heap[w.heap.size]? = some (.loop rec) := (hwf3.frame _ hl3 p1).trans hrec3
  have hphi3 : Φ3 (w.heap.size) = none := by
   cases e : Φ3 (w.heap.size) with
   | none => rfl
   | some o =>
    rcases hn3 _ o e with h3 | h3
    ·rw [hphil] at h3; cases h3
    ·omega
  have hvs : vs.size = rec.params.size := by rw [hs3,hlen,hrec]; simp
  have hBB : B ≤ w.heap.size := by omega
  have hchain : Ext B X w0 B3 X3 w3 := (a2.ext.trans hext).trans he3
  have hnewn : ∀ b o,Φ3 b = some o → Φ0 b = some o ∨ B ≤ b := fun b o e => (hn3 b o e).elim (a4 b o) (fun q => .inr (by omega))
  refine ⟨rec.fn,_,rec.assign,rec.body,run_yield hrec4 hvs,?_⟩
  refine roundIn_of_wpIn (F := Fence.wide) trivial ?_
  have henv := updL_env (G := G) (Φ := Φ3) (ρ := ρ3) ps.toList us vs.toList S.env a.tmps N a1 hps hlen (by simp [hs3,hlen]) (fun j u hj => by
   obtain ⟨y,hy,hrr⟩ := RepAt.get hr3 hj
   exact ⟨y,by rw [Nat.zero_add] at hy; simpa using hy,hrr⟩) (by
    have := a5.mono hle3 hnm3
    exact fun k v e => this k v e)
  have hfold : (rec.params.zip vs).foldl (fun tmps (t,a) => tmps.setIfInBounds t a) rec.tmps = (ps.toList.zip vs.toList).foldl (fun tmps (t,a) => tmps.setIfInBounds t a) a.tmps := by
   rw [hrec,← Array.foldl_toList,Array.toList_zip]
  rw [hfold]
  have hasg : rec.assign = assign := by rw [hrec]
  have hbod : rec.body = body := by rw [hrec]
  rw [hasg,hbod]
  have hY3 : YOk G x.Y B3 X3 w3 Φ3 ρ3 := hY.ext hchain ((a2.nm).trans hnm3) (a3.trans hle3) hnewn
  refine h1 ⟨nx,x.Y,false⟩ (some (w.heap.size)) n' B3 X3 Φ3 w3 ⟨nx,ρ3,hwf3.dom⟩ _ ⟨updL S.env ps.toList us,H,nx⟩ _ w4 _ ⟨(fun e => by cases e),(fun l e => by cases e; exact ⟨hl3,p1,rec,hrec3⟩)⟩ ⟨Nat.le_refl _,(fun e => by cases e)⟩ hY3
   ⟨B3,X3,w3,ρ3,Φ3,henv.2,⟨Ext.refl _ _ _,hb3,NmLe.refl _,[],rfl,List.nodup_nil,fun b hb => by cases hb⟩,PhiLe.refl _,fun b o e => .inl e,henv.1,hwf3⟩ hb ?_
  intro e S' a' w' hk' hat'
  cases e with
  | normal =>
   have hrec' : w'.heap[w.heap.size]? = some (.loop rec) := (at_base hat' hl3 p1).trans hrec3
   refine ⟨_,run_beginRound hrec' (by rw [hrec]),?_⟩
   have hY4 : YOk G x.Y B3 X3 (w3.putObj (w.heap.size) (.loop { rec with state := .busy })) Φ3 ρ3 := hY.ext (hchain.putObj hBB _) ((a2.nm).trans hnm3) (a3.trans hle3) hnewn
   refine h2 ⟨nx,x.Y,false⟩ (some (w.heap.size)) n' B3 X3 Φ3 (w3.putObj (w.heap.size) (.loop { rec with state := .busy })) ⟨nx,ρ3,hwf3.dom⟩ _ S' a' _ _ ⟨(fun e => by cases e),(fun l e => by cases e; exact ⟨hl3,p1,_,World.putObj_heap_same (Nat.lt_of_lt_of_le hl3 hb3)⟩)⟩ ⟨Nat.le_refl _,(fun e => by cases e)⟩ hY4
    (at_putObj hat' hl3 p1 hphi3 hb3 _) hk' ?_
   intro e2 S2 a2' w2' hk2 hat2
   cases e2 with
   | normal =>
    have hrec2 : w2'.heap[w.heap.size]? = some (.loop { rec with state := .busy }) := (at_base hat2 hl3 p1).trans (World.putObj_heap_same (Nat.lt_of_lt_of_le hl3 hb3))
    refine ⟨_,_,run_endRound none hrec2,_,rfl,?_⟩
    obtain ⟨B5,X5,w5,ρ5,Φ5,c1,c2,c3,c4,c5,c6⟩ := hat2
    have hphi5 : Φ5 (w.heap.size) = none := by
     cases e : Φ5 (w.heap.size) with
     | none => rfl
     | some o =>
      rcases c4 _ o e with h3 | h3
      ·rw [hphi3] at h3; cases h3
      ·omega
    refine ⟨S2.heap,S2.next,ρ5,Φ5,hk2,c2.nm,c3,c4,?_⟩
    have h7 := (c6.back c2.ext).putObj hl3 p1 hphi5 (by simpa using hb3) (.loop rec)
    rw [putObj_putObj hrec3] at h7
    have : ({ { rec with state := LoopState.busy } with state := if (none : Option Code).isNone = true then LoopState.ready else LoopState.done,pending := none } : Loop) = rec := by rw [hrec]; rfl
    rw [this]
    exact h7
   | exit id => exact hk2.elim
   | goto l => exact hk2.elim
   | ret => exact hk2.elim
   | panic ch => exact hk2.elim
   | outgrown => exact hk2.elim
  | exit id => exact hk'.elim
  | goto l => exact hk'.elim
  | ret => exact hk'.elim
  | panic ch => exact hk'.elim
  | outgrown => exact hk'.elim
 ·-- behind the loop
  rintro e w3 ⟨v,ρ',Φ',H',nx',rfl,q1,q2,q3,q4,q5⟩
  have hrec3 : w3.heap[w.heap.size]? = some (.loop rec) := (q5.frame _ hl2 hnx2).trans hl0
  have hphi' : Φ' (w.heap.size) = none := by
   cases e : Φ' (w.heap.size) with
   | none => rfl
   | some o =>
    rcases q4 _ o e with h3 | h3
    ·rw [hphil] at h3; cases h3
    ·omega
  have hphid' : ∀ b,b < wl.heap.size → Φ b = none → Φ' b = none := by
   intro b hb hb2
   cases e : Φ' b with
   | none => rfl
   | some o =>
    rcases q4 _ o e with h3 | h3
    ·rw [hb2] at h3; cases h3
    ·omega
  have hend := run_endLoop (P := G.P) hrec3 (by rw [hrec]; simp)
  have hpend : rec.pending = none := by rw [hrec]
  rw [hpend] at hend
  refine ⟨none,_,hend,?_⟩
  refine hq .normal ⟨S.env,H',nx'⟩ _ _ q1 ⟨wl.heap.size,X2,wl.putObj (w.heap.size) (.loop { rec with state := .exhausted,pending := none }),ρ',Φ',a1,⟨(a2.ext.trans hext).putObj (by omega) _,by simp,a2.nm.trans q2,?_⟩,a3.trans q3,
   fun b o e => (q4 b o e).elim (a4 b o) (fun e => .inr (by omega)),a5.mono q3 q2,q5.putObj hl2 hnx2 hphi' (Nat.le_refl _) _⟩
  obtain ⟨ms,m1,m2,m3⟩ := a2.marks
  refine ⟨ms,by simpa using m1,m2,?_⟩
  intro b hb
  obtain ⟨r1,r2,r3,r4,r5⟩ := m3 b hb
  have hbw : b < w.heap.size := Nat.lt_of_lt_of_le r2 a6.base
  refine ⟨r1,by omega,(hext.fr b r2 r3).1,?_,hphid' _ (by omega) r5⟩
  rw [World.putObj_heap_other (by omega),(hext.fr b r2 r3).2]
  exact r4
end

end Qk

/-
  Ranges over functions whose body may be left by a jump.
-/
namespace Qk
open Go Go.RowKit

/-- The record of a loop at the block l, by the way in which its body was left. -/
def recR (l : Nat) (rec : Loop) : RecF := fun j w h => h.fp = [l] ∧ h.b = l ∧ match j with
 | none => w.heap[l]? = some (.loop rec)
 | some (.exit id) => w.heap[l]? = some (.loop { rec with state := .done,pending := some (.exit id) })
 | some .ret => w.heap[l]? = some (.loop { rec with state := .done,pending := some .ret })
 | _ => False
theorem recR_stay {l : Nat} {rec : Loop} {j : Option Exit} {G : Gl} {Φ : Phi} {ρ : Nm} {w : World} {h : Hd} (hr : recR l rec j w h) : ORep G Φ ρ w h (.opq (tokR (recR l rec j))) := by
 refine ⟨hr,fun w' Φ' ρ' hw _ _ _ => ?_⟩
 obtain ⟨h1,h2,h3⟩ := hr
 refine ⟨h1,h2,?_⟩
 have e := hw l (by rw [h1]; simp)
 cases j with
 | none => exact e.trans h3
 | some x => cases x with
  | exit id => exact e.trans h3
  | ret => exact e.trans h3
  | normal => exact h3.elim
  | goto l => exact h3.elim
  | panic c => exact h3.elim
  | outgrown => exact h3.elim

/-- The memory, an object given away or kept back: a fresh base for a round. -/
theorem Wf.round {G : Gl} {B : Nat} {X : Nat → Prop} {w0 : World} {ρ : Nm} {Φ : Phi} {H : Heap} {nx : Nat} {w : World} (h : Wf G B X w0 ρ Φ H nx w) (n0 : Nat) :
  Wf G w.heap.size (fun b => ∃ m hd,m ≠ n0 ∧ H m ≠ none ∧ ρ m = some hd ∧ b ∈ hd.fp) w ρ Φ (upd H n0 none) nx w := by
 refine ⟨rfl,rfl,rfl,Nat.le_refl _,Nat.le_refl _,fun _ _ _ => rfl,h.phi,h.gb,h.dom,?_,?_⟩
 ·intro n o e
  have hne : n ≠ n0 := by rintro rfl; rw [upd_same] at e; cases e
  rw [upd_ne _ _ hne] at e
  obtain ⟨hd,h1,h2,h3⟩ := h.objs n o e
  exact ⟨hd,h1,h2,fun b hb => ⟨.inr ⟨n,hd,hne,by rw [e]; simp,h1,hb⟩,(h3 b hb).2⟩⟩
 ·intro n m hn hm e1 e2 e3 e4 e5
  have g1 : n ≠ n0 := by rintro rfl; exact e2 (upd_same _ _ _)
  have g2 : m ≠ n0 := by rintro rfl; exact e3 (upd_same _ _ _)
  rw [upd_ne _ _ g1] at e2
  rw [upd_ne _ _ g2] at e3
  exact h.disj n m hn hm e1 e2 e3 e4 e5
theorem Wf.roundExt {G : Gl} {B : Nat} {X : Nat → Prop} {w0 : World} {ρ : Nm} {Φ : Phi} {H : Heap} {nx : Nat} {w : World} (h : Wf G B X w0 ρ Φ H nx w) (n0 : Nat) :
  Ext B X w0 w.heap.size (fun b => ∃ m hd,m ≠ n0 ∧ H m ≠ none ∧ ρ m = some hd ∧ b ∈ hd.fp) w := by
 have hx : ∀ b,(∃ m hd,m ≠ n0 ∧ H m ≠ none ∧ ρ m = some hd ∧ b ∈ hd.fp) → B ≤ b ∨ X b := by
  rintro b ⟨m,hd,_,h2,h3,h4⟩
  cases e : H m with
  | none => exact absurd e h2
  | some o =>
   obtain ⟨hd',k1,_,k3⟩ := h.objs m o e
   rw [h3] at k1; cases k1
   exact (k3 b h4).1
 refine ⟨h.base,fun k hk hxk => ⟨fun h3 => ?_,h.frame k hk hxk⟩,fun k hk hlt => ?_,h.os,h.tape,h.output,h.size⟩
 ·rcases hx k h3 with h4 | h4
  ·omega
  ·exact hxk h4
 ·rcases hx k hk with h4 | h4
  ·omega
  ·exact h4
/-- Back from the round: the object lies again, turned. -/
theorem Wf.unround {G : Gl} {B : Nat} {X : Nat → Prop} {w0 : World} {ρ : Nm} {Φ : Phi} {H : Heap} {nx : Nat} {w : World} (h : Wf G B X w0 ρ Φ H nx w) {n0 l : Nat} {o0 : AO} {hd0 : Hd} (hH : H n0 = some o0) (hρ : ρ n0 = some hd0) (hfp : hd0.fp = [l])
  {ρ' : Nm} {Φ' : Phi} {H' : Heap} {nx' : Nat} {wl w' : World} (hwl : ∀ k,k ≠ l → wl.heap[k]? = w.heap[k]?) (hos : wl.os = w.os ∧ wl.tape = w.tape ∧ wl.output = w.output ∧ w.heap.size ≤ wl.heap.size)
  (h' : Wf G w.heap.size (fun b => ∃ m hd,m ≠ n0 ∧ H m ≠ none ∧ ρ m = some hd ∧ b ∈ hd.fp) wl ρ' Φ' H' nx' w') (hle : NmLe ρ ρ') (hphi : Φ' l = none) {o : AO} (ho : ORep G Φ' ρ' w' hd0 o) :
  Wf G B X w0 ρ' Φ' (upd H' n0 (some o)) nx' w' := by
 obtain ⟨hd0',k1,k2,k3⟩ := h.objs n0 o0 hH
 rw [hρ] at k1; cases k1
 have kl := k3 l (by rw [hfp]; simp)
 have hext := h.roundExt n0
 have hnl : ¬ (∃ m hd,m ≠ n0 ∧ H m ≠ none ∧ ρ m = some hd ∧ l ∈ hd.fp) := by
  rintro ⟨m,hd,q1,q2,q3,q4⟩
  exact h.disj m n0 hd hd0 q1 q2 (by rw [hH]; simp) q3 hρ l q4 (by rw [hfp]; simp)
 have hlw : l < w.heap.size := kl.2.2
 refine ⟨h'.os.trans (hos.1.trans h.os),h'.tape.trans (hos.2.1.trans h.tape),h'.output.trans (hos.2.2.1.trans h.output),Nat.le_trans h.size (Nat.le_trans hos.2.2.2 h'.size),Nat.le_trans h.base h'.base,?_,h'.phi,h'.gb,h'.dom,?_,?_⟩
 ·intro k hk hx
  have hkl : k ≠ l := by
   rintro rfl
   rcases kl.1 with q | q
   ·omega
   ·exact hx q
  have := hext.fr k hk hx
  rw [h'.frame k (Nat.lt_of_lt_of_le hk h.base) this.1,hwl k hkl]
  exact this.2
 ·intro n o2 e
  by_cases hn : n = n0
  ·subst hn
   rw [upd_same] at e; cases e
   refine ⟨hd0,hle _ _ hρ,ho,fun b hb => ?_⟩
   rw [hfp] at hb
   simp at hb
   subst hb
   exact ⟨kl.1,hphi,Nat.lt_of_lt_of_le hlw h'.base⟩
  ·rw [upd_ne _ _ hn] at e
   obtain ⟨hd,q1,q2,q3⟩ := h'.objs n o2 e
   refine ⟨hd,q1,q2,fun b hb => ⟨?_,(q3 b hb).2⟩⟩
   rcases (q3 b hb).1 with q | q
   ·exact .inl (Nat.le_trans h.base q)
   ·by_cases hb' : b < B
    ·exact .inr (hext.x b q hb')
    ·exact .inl (by omega)
 ·have hno : ∀ n hd o2,n ≠ n0 → H' n = some o2 → ρ' n = some hd → l ∉ hd.fp := by
   intro n hd o2 hn e e2 hl
   obtain ⟨hd',q1,_,q3⟩ := h'.objs n o2 e
   rw [e2] at q1; cases q1
   rcases (q3 l hl).1 with q | q
   ·omega
   ·exact hnl q
  intro n m hd g hnm e1 e2 e3 e4 b hb hb2
  by_cases hn : n = n0
  ·subst hn
   have hm : m ≠ n := fun e => hnm e.symm
   rw [upd_ne _ _ hm] at e2
   have : hd = hd0 := by have := hle _ _ hρ; rw [e3] at this; exact Option.some.inj this
   subst this
   rw [hfp] at hb; simp at hb; subst hb
   cases e : H' m with
   | none => exact e2 e
   | some o2 => exact hno m g o2 hm e e4 hb2
  ·rw [upd_ne _ _ hn] at e1
   by_cases hm : m = n0
   ·subst hm
    have : g = hd0 := by have := hle _ _ hρ; rw [e4] at this; exact Option.some.inj this
    subst this
    rw [hfp] at hb2; simp at hb2; subst hb2
    cases e : H' n with
    | none => exact e1 e
    | some o2 => exact hno n hd o2 hn e e3 hb
   ·rw [upd_ne _ _ hm] at e2
    exact h'.disj n m hd g hnm e1 e2 e3 e4 b hb hb2

section
variable {G : Gl} {N : Nat}

theorem rfuncX_ok {g : Operand} {ps : Array Tmp} {assign body : Code} {ia ib : IC} {its : Nat → Option ITran} (h1 : CodeOk G N true assign ia) (h2 : CodeOk G N true body ib) (hps : ∀ p ∈ ps.toList,p < N)
  (hits : ∀ t T,its t = some T → KeepsI G T (G.tag t)) : CodeOk G N false (.rangeFunc g ps assign body) (.rfuncX its g ps.toList ia ib) := by
 intro x R n B X Φ0 w0 D K S a w Q hR hm hY hat h hq
 obtain rfl := hR.1 rfl
 simp only [awp] at h
 split at h
 case h_2 => exact h.elim
 rename_i t caps hg
 split at h
 case h_2 => exact h.elim
 rename_i T hT
 obtain ⟨B1,X1,w1,ρ,Φ,a1,a2,a3,a4,a5,a6⟩ := hat
 have hgr := evRel a5 hg
 simp only [Rep] at hgr
 obtain ⟨A,hA,hsz,hrep⟩ := hgr
 have hk := hits t T hT
 refine wpIn_rangeFunc (F := FR none) ?_
 intro fn _
 -- the two blocks
 obtain ⟨rec,hrec⟩ : ∃ rec : Loop,rec = { state := .ready,pending := none,fn,tmps := a.tmps,params := ps,assign,body,defers := w.heap.size } := ⟨_,rfl⟩
 obtain ⟨wl,hwl⟩ : ∃ wl : World,wl = (w.alloc (.deferred (some []))).alloc (.loop rec) := ⟨_,rfl⟩
 have hwsz : wl.heap.size = w.heap.size + 2 := by rw [hwl]; simp
 have hbelow : Below w.heap.size w wl := by
  rw [hwl]
  exact ((Below.refl _ w).alloc (Nat.le_refl _) _).alloc (by simp) _
 have hl0 : wl.heap[w.heap.size + 1]? = some (.loop rec) := by
  rw [hwl]
  have := World.alloc_heap_new (w.alloc (.deferred (some []))) (.loop rec)
  simpa using this
 have hd0 : wl.heap[w.heap.size]? = some (.deferred (some [])) := by
  have h3 := World.alloc_heap_new w (.deferred (some []))
  rw [hwl]
  exact (Below.heap_alloc (w.alloc (.deferred (some []))) (.loop rec) w.heap.size (by simp)).trans h3
 have hphiw : ∀ b o,Φ b = some o → b < w.heap.size := fun b o e => (Array.getElem?_eq_some_iff.1 (a6.phi b o e)).1
 have hwf1 : Wf G B1 X1 w1 ρ Φ S.heap S.next wl := a6.below hbelow (PhiLe.refl _) (fun b o e => by rw [hbelow.block b (hphiw b o e)]; exact a6.phi b o e) (fun b o e => .inl e)
 have hold : ∀ n o hd,S.heap n = some o → ρ n = some hd → ∀ b ∈ hd.fp,(B1 ≤ b ∨ X1 b) ∧ b < w.heap.size := by
  intro n o hd e e2 b hb
  obtain ⟨hd',q1,_,q3⟩ := a6.objs n o e
  rw [e2] at q1; cases q1
  exact ⟨(q3 b hb).1,(q3 b hb).2.2⟩
 obtain ⟨X2,hX2⟩ : ∃ X2 : Nat → Prop,X2 = fun b => (∃ n hd,S.heap n ≠ none ∧ ρ n = some hd ∧ b ∈ hd.fp) ∨ b = w.heap.size + 1 := ⟨_,rfl⟩
 have hX2' : ∀ b,X2 b → ((B1 ≤ b ∨ X1 b) ∧ b < w.heap.size) ∨ b = w.heap.size + 1 := by
  intro b hb
  rw [hX2] at hb
  rcases hb with ⟨n,hd,h3,h4,h5⟩ | rfl
  ·cases e : S.heap n with
   | none => exact absurd e h3
   | some o => exact .inl (hold n o hd e h4 b h5)
  ·exact .inr rfl
 have hphil : Φ (w.heap.size + 1) = none := by
  cases e : Φ (w.heap.size + 1) with
  | none => rfl
  | some o => have := hphiw _ _ e; omega
 have hphid : Φ w.heap.size = none := by
  cases e : Φ w.heap.size with
  | none => rfl
  | some o => have := hphiw _ _ e; omega
 obtain ⟨hd,hhd⟩ : ∃ hd : Hd,hd = ⟨w.heap.size + 1,0,0,false,undef,[w.heap.size + 1]⟩ := ⟨_,rfl⟩
 have hfpd : hd.fp = [w.heap.size + 1] := by rw [hhd]
 have hbd : hd.b = w.heap.size + 1 := by rw [hhd]
 have hnone : ρ S.next = none := a6.none_next
 have hle0 : NmLe ρ (upd ρ S.next (some hd)) := NmLe.upd hnone hd
 have hwf2 : Wf G wl.heap.size X2 wl (upd ρ S.next (some hd)) Φ (upd S.heap S.next (some (.opq (tokR (recR (w.heap.size + 1) rec none))))) (S.next + 1) wl := by
  refine ⟨rfl,rfl,rfl,Nat.le_refl _,Nat.le_refl _,fun _ _ _ => rfl,hwf1.phi,hwf1.gb,?_,?_,?_⟩
  ·intro m hm' e
   by_cases hmn : m = S.next
   ·omega
   ·rw [upd_ne _ _ hmn] at e
    have := a6.dom m hm' e
    omega
  ·intro m o e
   by_cases hmn : m = S.next
   ·subst hmn
    rw [upd_same] at e; cases e
    refine ⟨hd,upd_same _ _ _,recR_stay ⟨hfpd,hbd,hl0⟩,fun b hb => ?_⟩
    rw [hfpd] at hb; simp at hb; subst hb
    exact ⟨.inr (by rw [hX2]; exact .inr rfl),hphil,by omega⟩
   ·rw [upd_ne _ _ hmn] at e
    obtain ⟨hd',h3,h4,h5⟩ := hwf1.objs m o e
    exact ⟨hd',hle0 _ _ h3,ORep.mono (PhiLe.refl _) hle0 hwf1.phi (fun _ _ => rfl) h4,fun b hb => ⟨.inr (by rw [hX2]; exact .inl ⟨m,hd',by rw [e]; simp,h3,hb⟩),(h5 b hb).2⟩⟩
  ·have hno : ∀ m hd',m ≠ S.next → S.heap m ≠ none → ρ m = some hd' → w.heap.size + 1 ∉ hd'.fp := by
    intro m hd' _ e1 e2 hl
    cases e : S.heap m with
    | none => exact e1 e
    | some o => have := (hold m o hd' e e2 _ hl).2; omega
   intro p q hp hq' hpq e1 e2 e3 e4 b hb hb2
   by_cases h3 : p = S.next
   ·subst h3
    have hq2 : q ≠ S.next := fun e => hpq e.symm
    rw [upd_same] at e3; cases e3
    rw [upd_ne _ _ hq2] at e2 e4
    rw [hfpd] at hb; simp at hb; subst hb
    exact hno q hq' hq2 e2 e4 hb2
   ·rw [upd_ne _ _ h3] at e1 e3
    by_cases h4 : q = S.next
    ·subst h4
     rw [upd_same] at e4; cases e4
     rw [hfpd] at hb2; simp at hb2; subst hb2
     exact hno p hp h3 e1 e3 hb
    ·rw [upd_ne _ _ h4] at e2 e4
     exact hwf1.disj p q hp hq' hpq e1 e2 e3 e4 b hb hb2
 have hext : Ext B1 X1 w1 wl.heap.size X2 wl := by
  have hb1 := a6.base
  refine ⟨hwf1.base,fun k hk hx => ⟨fun h3 => ?_,hwf1.frame k hk hx⟩,fun k hk hlt => ?_,hwf1.os,hwf1.tape,hwf1.output,hwf1.size⟩
  ·rcases hX2' k h3 with h4 | h4
   ·rcases h4.1 with h5 | h5
    ·omega
    ·exact hx h5
   ·omega
  ·rcases hX2' k hk with h4 | h4
   ·rcases h4.1 with h5 | h5
    ·omega
    ·exact h5
   ·omega
 have hl2 : w.heap.size + 1 < wl.heap.size := by omega
 have hnx2' : ¬ X2 w.heap.size := fun h3 => by
  rcases hX2' _ h3 with h4 | h4
  ·have := h4.2; omega
  ·omega
 have hBw : B ≤ w.heap.size := Nat.le_trans a2.ext.le a6.base
 have henter : (Instr.enterLoop fn a.tmps ps assign body (FR none).round).run G.P w = .ok (w.heap.size + 1,[mark w.heap.size]) wl := by
  rw [hwl,hrec]
  exact run_enterLoop_outer fn a.tmps ps assign body
 obtain ⟨fn',f1,f2,f3⟩ := hk.1
 refine ⟨w.heap.size + 1,[mark w.heap.size],wl,{ target := .fn (.func (G.tag t)) A,args := #[.func (.yield (w.heap.size + 1)) #[] #[]] },wl,G.tag t,#[.func (.yield (w.heap.size + 1)) #[] #[]] ++ A,wl,
  henter,?_,fun _ _ => trivial,?_,fun e => (by cases e),?_⟩
 ·have e0 : a.eval (.const (.func (.yield (w.heap.size + 1)) #[] #[])) = .func (.yield (w.heap.size + 1)) #[] #[] := rfl
  simp [resolve,hA,e0,Deferred.ofValue]
 ·simp [invoke,run_callFunc f1 f2 f3]
 refine (callsIn_wide (n := n - 1)).2 ?_
 refine Calls.mono (hk.2 (w.heap.size + 1) _ wl.heap.size X2 wl (upd ρ S.next (some hd)) Φ _ (S.next + 1) wl caps A _ (Nat.le_refl _) ?_ hwf2 hsz (RepAt.mono (PhiLe.refl _) caps hle0 hrep) (h (recR (w.heap.size + 1) rec))) ?_
 ·-- a call of yield
  rintro l' us vs H nx J B3 X3 w3 ρ3 Φ3 w4 n' he3 hb3 hnm3 hle3 hn3 hwf3 hs3 hr3 ⟨rfl,⟨hlen,hH0⟩,hb⟩
  have hρ3 : ρ3 S.next = some hd := hnm3 _ _ (upd_same _ _ _)
  obtain ⟨hd',g1,⟨⟨_,_,hrec4⟩,_⟩,g3⟩ := hwf3.objs _ _ hH0
  rw [hρ3] at g1; cases g1
  have gl := g3 (w.heap.size + 1) (by rw [hfpd]; simp)
  have hl3 : w.heap.size + 1 < w4.heap.size := gl.2.2
  have hphi3 : Φ3 (w.heap.size + 1) = none := gl.2.1
  have hvs : vs.size = rec.params.size := by rw [hs3,hlen,hrec]; simp
  have hBB : B ≤ w.heap.size + 1 := by omega
  have hchain3 : Ext B X w0 B3 X3 w3 := (a2.ext.trans hext).trans he3
  have hwf5 := hwf3.round S.next
  have hext5 := hwf3.roundExt S.next
  obtain ⟨X5,hX5⟩ : ∃ X5 : Nat → Prop,X5 = fun b => ∃ m hd,m ≠ S.next ∧ H m ≠ none ∧ ρ3 m = some hd ∧ b ∈ hd.fp := ⟨_,rfl⟩
  rw [← hX5] at hwf5 hext5
  have p1 : ¬ X5 (w.heap.size + 1) := by
   rw [hX5]
   rintro ⟨m,hd',q1,q2,q3,q4⟩
   exact hwf3.disj m S.next hd' hd q1 q2 (by rw [hH0]; simp) q3 hρ3 _ q4 (by rw [hfpd]; simp)
  have hchain : Ext B X w0 w4.heap.size X5 w4 := hchain3.trans hext5
  have hnewn : ∀ b o,Φ3 b = some o → Φ0 b = some o ∨ B ≤ b := fun b o e => (hn3 b o e).elim (a4 b o) (fun q => .inr (by omega))
  have hnmD : NmLe D.nm ρ3 := (a2.nm.trans hle0).trans hnm3
  refine ⟨rec.fn,_,rec.assign,rec.body,run_yield hrec4 hvs,?_⟩
  refine roundIn_of_wpIn (F := Fence.wide) trivial ?_
  have henv := updL_env (G := G) (Φ := Φ3) (ρ := ρ3) ps.toList us vs.toList S.env a.tmps N a1 hps hlen (by simp [hs3,hlen]) (fun j u hj => by
   obtain ⟨y,hy,hrr⟩ := RepAt.get hr3 hj
   exact ⟨y,by rw [Nat.zero_add] at hy; simpa using hy,hrr⟩) (by
    have := a5.mono hle3 (hle0.trans hnm3)
    exact fun k v e => this k v e)
  have hfold : (rec.params.zip vs).foldl (fun tmps (t,a) => tmps.setIfInBounds t a) rec.tmps = (ps.toList.zip vs.toList).foldl (fun tmps (t,a) => tmps.setIfInBounds t a) a.tmps := by
   rw [hrec,← Array.foldl_toList,Array.toList_zip]
  rw [hfold]
  have hasg : rec.assign = assign := by rw [hrec]
  have hbod : rec.body = body := by rw [hrec]
  rw [hasg,hbod]
  have hY3 : YOk G x.Y w4.heap.size X5 w4 Φ3 ρ3 := hY.ext hchain hnmD (a3.trans hle3) hnewn
  -- the end of a round,by whatever way
  have fin : ∀ (jump : Option Code) (j : Option Exit) (S2 : St) (a2' : Act) (w2' : World),(∀ (wx : World),wx.heap[w.heap.size + 1]? = some (.loop { rec with state := if jump.isNone then .ready else .done,pending := jump }) → recR (w.heap.size + 1) rec j wx hd) →
    At G w4.heap.size X5 Φ3 (w4.putObj (w.heap.size + 1) (.loop { rec with state := .busy })) N ⟨nx,ρ3,hwf3.dom⟩ S2 a2' w2' →
    S2.heap S.next = none → J jump.isNone (upd S2.heap S.next (some (.opq (tokR (recR (w.heap.size + 1) rec j))))) S2.next →
    ∃ v w',(Instr.endRound (w.heap.size + 1) jump).run G.P w2' = .ok v w' ∧ ∃ y,Ending.returned v = .returned (.bool y) ∧
     ∃ H' nx' ρ' Φ',J y H' nx' ∧ NmLe ρ3 ρ' ∧ PhiLe Φ3 Φ' ∧ (∀ b o,Φ' b = some o → Φ3 b = some o ∨ B3 ≤ b) ∧ Wf G B3 X3 w3 ρ' Φ' H' nx' w' := by
   intro jump j S2 a2' w2' hrj hat2 hno hJ
   have hrec2 : w2'.heap[w.heap.size + 1]? = some (.loop { rec with state := .busy }) := (at_base hat2 hl3 p1).trans (World.putObj_heap_same hl3)
   have hend := run_endRound (P := G.P) jump hrec2
   refine ⟨_,_,hend,_,rfl,?_⟩
   obtain ⟨B6,X6,w6,ρ6,Φ6,c1,c2,c3,c4,c5,c6⟩ := hat2
   have hphi6 : Φ6 (w.heap.size + 1) = none := by
    cases e : Φ6 (w.heap.size + 1) with
    | none => rfl
    | some o =>
     rcases c4 _ o e with h3 | h3
     ·rw [hphi3] at h3; cases h3
     ·omega
   have h7 := (c6.back c2.ext).putObj hl3 p1 hphi6 (by simp) (.loop { rec with state := if jump.isNone then .ready else .done,pending := jump })
   have hsz2 : w.heap.size + 1 < w2'.heap.size := (Array.getElem?_eq_some_iff.1 hrec2).1
   refine ⟨_,S2.next,ρ6,Φ6,hJ,c2.nm,c3,fun b o e => (c4 b o e).elim .inl (fun q => .inr (Nat.le_trans hwf3.base q)),?_⟩
   refine Wf.unround hwf3 hH0 hρ3 hfpd (wl := (w4.putObj (w.heap.size + 1) (.loop { rec with state := .busy })).putObj (w.heap.size + 1) (.loop { rec with state := if jump.isNone then .ready else .done,pending := jump })) (fun k hk => by rw [World.putObj_heap_other hk,World.putObj_heap_other hk]) ⟨rfl,rfl,rfl,by simp⟩ ?_ c2.nm hphi6 ?_
   ·rw [hX5] at h7
    exact h7
   ·exact recR_stay (hrj _ (World.putObj_heap_same hsz2))
  refine h1 ⟨nx,x.Y,false⟩ (some (w.heap.size + 1)) n' w4.heap.size X5 Φ3 w4 ⟨nx,ρ3,hwf3.dom⟩ _ ⟨updL S.env ps.toList us,upd H S.next none,nx⟩ _ w4 _ ⟨(fun e => by cases e),(fun l e => by cases e; exact ⟨hl3,p1,rec,hrec4⟩)⟩ ⟨Nat.le_refl _,(fun e => by cases e)⟩ hY3
   ⟨w4.heap.size,X5,w4,ρ3,Φ3,henv.2,⟨Ext.refl _ _ _,Nat.le_refl _,NmLe.refl _,[],rfl,List.nodup_nil,fun b hb => by cases hb⟩,PhiLe.refl _,fun b o e => .inl e,henv.1,hwf5⟩ hb ?_
  intro e S' a' w' hk' hat'
  cases e with
  | normal =>
   have hrec' : w'.heap[w.heap.size + 1]? = some (.loop rec) := (at_base hat' hl3 p1).trans hrec4
   refine ⟨_,run_beginRound hrec' (by rw [hrec]),?_⟩
   have hY4 : YOk G x.Y w4.heap.size X5 (w4.putObj (w.heap.size + 1) (.loop { rec with state := .busy })) Φ3 ρ3 := hY.ext (hchain.putObj hBB _) hnmD (a3.trans hle3) hnewn
   refine h2 ⟨nx,x.Y,false⟩ (some (w.heap.size + 1)) n' w4.heap.size X5 Φ3 (w4.putObj (w.heap.size + 1) (.loop { rec with state := .busy })) ⟨nx,ρ3,hwf3.dom⟩ _ S' a' _ _ ⟨(fun e => by cases e),(fun l e => by cases e; exact ⟨hl3,p1,_,World.putObj_heap_same hl3⟩)⟩ ⟨Nat.le_refl _,(fun e => by cases e)⟩ hY4
    (at_putObj hat' hl3 p1 hphi3 (Nat.le_refl _) _) hk' ?_
   intro e2 S2 a2' w2' hk2 hat2
   cases e2 with
   | normal =>
    refine fin none none S2 a2' w2' (fun wx hx => ⟨hfpd,hbd,?_⟩) hat2 hk2.1 hk2.2
    have : ({ rec with state := if (none : Option Code).isNone = true then LoopState.ready else LoopState.done,pending := none } : Loop) = rec := by rw [hrec]; rfl
    rw [this] at hx
    exact hx
   | exit id => exact fin (some (.exit id)) (some (.exit id)) S2 a2' w2' (fun wx hx => ⟨hfpd,hbd,hx⟩) hat2 hk2.1 hk2.2
   | ret => exact fin (some .ret) (some .ret) S2 a2' w2' (fun wx hx => ⟨hfpd,hbd,hx⟩) hat2 hk2.1 hk2.2
   | goto l => exact hk2.elim
   | panic ch => exact hk2.elim
   | outgrown => exact hk2.elim
  | exit id => exact hk'.elim
  | goto l => exact hk'.elim
  | ret => exact hk'.elim
  | panic ch => exact hk'.elim
  | outgrown => exact hk'.elim
 ·-- behind the loop
  rintro e w3 ⟨v,ρ',Φ',H',nx',rfl,⟨j,hj,q1⟩,q2,q3,q4,q5⟩
  have hρ3 : ρ' S.next = some hd := q2 _ _ (upd_same _ _ _)
  obtain ⟨hd',g1,⟨⟨_,_,hrj⟩,_⟩,g3⟩ := q5.objs _ _ hj
  rw [hρ3] at g1; cases g1
  have gl := g3 (w.heap.size + 1) (by rw [hfpd]; simp)
  have hphid' : ∀ b,b < wl.heap.size → Φ b = none → Φ' b = none := by
   intro b hb hb2
   cases e : Φ' b with
   | none => rfl
   | some o =>
    rcases q4 _ o e with h3 | h3
    ·rw [hb2] at h3; cases h3
    ·omega
  have hfinal : ∀ o,At G B X Φ0 w0 N D ⟨S.env,upd H' S.next none,nx'⟩ { a with defers := [mark w.heap.size] ++ a.defers } (w3.putObj (w.heap.size + 1) o) := by
   intro o
   refine ⟨wl.heap.size,X2,wl,ρ',Φ',a1,⟨a2.ext.trans hext,Nat.le_refl _,a2.nm.trans (hle0.trans q2),?_⟩,a3.trans q3,fun b o e => (q4 b o e).elim (a4 b o) (fun e => .inr (by omega)),a5.mono q3 (hle0.trans q2),?_⟩
   ·obtain ⟨ms,m1,m2,m3⟩ := a2.marks
    refine ⟨w.heap.size :: ms,by simp [m1],?_,?_⟩
    ·rw [List.nodup_cons]
     refine ⟨fun hm => ?_,m2⟩
     have := (m3 _ hm).2.1
     have := a6.base
     omega
    ·intro b hb
     rcases List.mem_cons.1 hb with rfl | hb
     ·exact ⟨hBw,by omega,hnx2',hd0,hphid' _ (by omega) hphid⟩
     ·obtain ⟨r1,r2,r3,r4,r5⟩ := m3 b hb
      have hbw : b < w.heap.size := Nat.lt_of_lt_of_le r2 a6.base
      refine ⟨r1,by omega,(hext.fr b r2 r3).1,?_,hphid' _ (by omega) r5⟩
      rw [(hext.fr b r2 r3).2]
      exact r4
   ·have hX2l : X2 (w.heap.size + 1) := by rw [hX2]; exact .inr rfl
    refine ⟨q5.os,q5.tape,q5.output,by simpa using q5.size,by simpa using q5.base,fun k hk hx => ?_,fun b o' e => ?_,q5.gb,q5.dom,fun m o' e => ?_,?_⟩
    ·have hkl : k ≠ w.heap.size + 1 := by rintro rfl; exact hx hX2l
     rw [World.putObj_heap_other hkl]
     exact q5.frame k hk hx
    ·have hkl : b ≠ w.heap.size + 1 := by rintro rfl; rw [gl.2.1] at e; cases e
     rw [World.putObj_heap_other hkl]
     exact q5.phi b o' e
    ·replace e : upd H' S.next none m = some o' := e
     have hne : m ≠ S.next := by rintro rfl; rw [upd_same] at e; cases e
     rw [upd_ne _ _ hne] at e
     obtain ⟨hd2,k1,k2,k3⟩ := q5.objs m o' e
     have hnl : ∀ b ∈ hd2.fp,b ≠ w.heap.size + 1 := by
      rintro b hb rfl
      exact q5.disj m S.next hd2 hd hne (by rw [e]; simp) (by rw [hj]; simp) k1 hρ3 _ hb (by rw [hfpd]; simp)
     refine ⟨hd2,k1,ORep.mono (PhiLe.refl _) (NmLe.refl _) (fun b o2 e2 => ?_) (fun b hb => World.putObj_heap_other (hnl b hb)) k2,fun b hb => ⟨(k3 b hb).1,(k3 b hb).2.1,by simpa using (k3 b hb).2.2⟩⟩
     have hkl : b ≠ w.heap.size + 1 := by rintro rfl; rw [gl.2.1] at e2; cases e2
     rw [World.putObj_heap_other hkl]
     exact q5.phi b o2 e2
    ·intro p q hp hq' hpq e1 e2 e3 e4
     replace e1 : upd H' S.next none p ≠ none := e1
     replace e2 : upd H' S.next none q ≠ none := e2
     have h3 : p ≠ S.next := by rintro rfl; exact e1 (upd_same _ _ _)
     have h4 : q ≠ S.next := by rintro rfl; exact e2 (upd_same _ _ _)
     rw [upd_ne _ _ h3] at e1
     rw [upd_ne _ _ h4] at e2
     exact q5.disj p q hp hq' hpq e1 e2 e3 e4
  cases j with
  | none =>
   have hend := run_endLoop (P := G.P) hrj (by rw [hrec]; simp)
   have hpend : rec.pending = none := by rw [hrec]
   rw [hpend] at hend
   exact ⟨none,_,hend,hq .normal _ _ _ q1 (hfinal _)⟩
  | some e => cases e with
   | exit id => exact ⟨some (.exit id),_,run_endLoop (P := G.P) hrj (by simp),wpIn_exit (hq (.exit id) _ _ _ q1 (hfinal _))⟩
   | ret => exact ⟨some .ret,_,run_endLoop (P := G.P) hrj (by simp),wpIn_ret (hq .ret _ _ _ q1 (hfinal _))⟩
   | normal => exact hrj.elim
   | goto l => exact hrj.elim
   | panic c => exact hrj.elim
   | outgrown => exact hrj.elim
end

end Qk
