/-
  A symbolic executor for the code of the model: values, memory, operations.
-/
import Derived.WalkKit
import Derived.MapKept
import Derived.ChangeKeysEq
import Derived.WideKeyRuns
import Derived.Maps.RangeRun

/-
  The abstract values and the abstract memory of the symbolic executor, and what it means that they stand for values and memory of the model.
-/
namespace Qk
open Go Go.RowKit

/-- What a literal name of the abstract memory stands for. -/
structure Hd where
 b : Nat
 esz : Nat
 cap : Nat
 isnil : Bool
 v : Value
 fp : List Nat

abbrev Nm := Nat → Option Hd
abbrev Phi := Nat → Option Obj

structure Gl where
 P : Program
  /-- the functions that closures stand for -/
 tb : Nat → FuncId
  /-- the type of bytes, that of builders of strings -/
 bt : TypeId
 bT : TypeId
  /-- what is known of the persistent memory from the start -/
 base : Phi → Prop
 mono : ∀ Φ Φ' : Phi,(∀ b o,Φ b = some o → Φ' b = some o) → base Φ → base Φ'

/-- The function of a tag: of a small one by the table, of another the function itself. -/
def Gl.tag (G : Gl) (t : Nat) : FuncId := if t < 1000000 then G.tb t else t - 1000000
theorem Gl.tag_fn (G : Gl) (f : FuncId) : G.tag (1000000 + f) = f := by unfold Gl.tag; rw [if_neg (Nat.not_lt.2 (Nat.le_add_right _ _))]; exact Nat.add_sub_cancel_left 1000000 f

inductive AV where
 | int (k : IntKind) (n : Int)
 | bool (b : Bool)
 | str (l : List UInt8)
 | raw (v : Value)
 | ref (n off : Nat)
 | sl (n off len : Nat)
 | vw (n off len esz : Nat)
 | hnd (n : Nat)
 | ilist (esz len : Nat) (cs : List AV)
 | iref (cs : List AV) (off : Nat)
 | sem (R : Gl → (Nat → Option Obj) → Value → Prop)
 | agg (cs : List AV)
 | tup (vs : List AV)
 | clo (tag : Nat) (caps : List AV)

instance : Inhabited AV := ⟨.bool false⟩

def AV.cells : AV → List AV
 | .agg cs => cs
 | v => [v]

def SlRep (h : Hd) (off len : Nat) (v : Value) : Prop :=
 (h.isnil = true ∧ off = 0 ∧ len = 0 ∧ v = .slice none 0 0) ∨
 (h.isnil = false ∧ off + len ≤ h.cap ∧
  (v = .slice (some ⟨h.b,off * h.esz,none⟩) len (h.cap - off) ∨ (0 < off ∧ len = 0 ∧ ∃ a c,v = .slice (some a) 0 c)))

mutual
def Rep (G : Gl) (Φ : Phi) : AV → Nm → Value → Prop
 | .int k n,_,v => v = .int k n
 | .bool b,_,v => v = .bool b
 | .str l,_,v => v = .string ⟨l.toArray⟩
 | .raw x,_,v => v = x
 | .ref n off,ρ,v => ∃ h,ρ n = some h ∧ v = .pointer (some ⟨h.b,off,none⟩)
 | .sl n off len,ρ,v => ∃ h,ρ n = some h ∧ SlRep h off len v
 | .vw n off len esz,ρ,v => ∃ h a c,ρ n = some h ∧ len ≤ c ∧ v = .slice (some a) len c ∧ (len * esz = 0 ∨ a = ⟨h.b,off,none⟩)
 | .hnd n,ρ,v => ∃ h,ρ n = some h ∧ v = h.v ∧ v.oneCell' = true
 | .ilist esz len cs,_,v => cs.length = len * esz ∧ ∃ a cap,len ≤ cap ∧ v = .slice a len cap ∧
   (cs = [] ∨ ∃ b off C ty fr,a = some ⟨b,off,none⟩ ∧ Φ b = some (.cells C ty fr) ∧ RepAt G Φ cs (fun _ => none) C off)
 | .iref cs off,_,v => ∃ b base C ty fr,v = .pointer (some ⟨b,base + off,none⟩) ∧ Φ b = some (.cells C ty fr) ∧ RepAt G Φ cs (fun _ => none) C base
 | .sem R,_,v => v.oneCell' = true ∧ ∃ Φ' : Phi,(∀ b o,Φ' b = some o → Φ b = some o) ∧ R G Φ' v
 | .agg cs,ρ,v => ∃ A,v = .agg A ∧ A.size = cs.length ∧ RepAt G Φ cs ρ A 0
 | .tup vs,ρ,v => ∃ A,v = .tuple A ∧ A.size = vs.length ∧ RepAt G Φ vs ρ A 0
 | .clo t caps,ρ,v => ∃ A,v = .func (.func (G.tag t)) #[] A ∧ A.size = caps.length ∧ RepAt G Φ caps ρ A 0
def RepAt (G : Gl) (Φ : Phi) : List AV → Nm → Array Value → Nat → Prop
 | [],_,_,_ => True
 | c :: cs,ρ,C,i => (∃ x,C[i]? = some x ∧ Rep G Φ c ρ x) ∧ RepAt G Φ cs ρ C (i + 1)
end

def NmLe (ρ ρ' : Nm) : Prop := ∀ n h,ρ n = some h → ρ' n = some h
def PhiLe (Φ Φ' : Phi) : Prop := ∀ b o,Φ b = some o → Φ' b = some o
theorem NmLe.refl (ρ : Nm) : NmLe ρ ρ := fun _ _ h => h
theorem PhiLe.refl (Φ : Phi) : PhiLe Φ Φ := fun _ _ h => h
theorem NmLe.trans {a b c : Nm} (h : NmLe a b) (k : NmLe b c) : NmLe a c := fun n x e => k n x (h n x e)
theorem PhiLe.trans {a b c : Phi} (h : PhiLe a b) (k : PhiLe b c) : PhiLe a c := fun n x e => k n x (h n x e)

mutual
theorem Rep.mono {G : Gl} {Φ Φ' : Phi} (hp : PhiLe Φ Φ') : ∀ (a : AV) {ρ ρ' : Nm} {v : Value},NmLe ρ ρ' → Rep G Φ a ρ v → Rep G Φ' a ρ' v
 | .int k n,_,_,_,_,h => by simpa [Rep] using h
 | .bool b,_,_,_,_,h => by simpa [Rep] using h
 | .str l,_,_,_,_,h => by simpa [Rep] using h
 | .raw x,_,_,_,_,h => by simpa [Rep] using h
 | .ref n off,_,_,_,hr,h => by
  simp only [Rep] at h ⊢; obtain ⟨x,h1,h2⟩ := h; exact ⟨x,hr _ _ h1,h2⟩
 | .sl n off len,_,_,_,hr,h => by
  simp only [Rep] at h ⊢; obtain ⟨x,h1,h2⟩ := h; exact ⟨x,hr _ _ h1,h2⟩
 | .vw n off len esz,_,_,_,hr,h => by
  simp only [Rep] at h ⊢; obtain ⟨x,a,c,h1,h2⟩ := h; exact ⟨x,a,c,hr _ _ h1,h2⟩
 | .hnd n,_,_,_,hr,h => by
  simp only [Rep] at h ⊢; obtain ⟨x,h1,h2⟩ := h; exact ⟨x,hr _ _ h1,h2⟩
 | .ilist esz len cs,_,_,_,_,h => by
  simp only [Rep] at h ⊢
  obtain ⟨h0,a,cap,hc,h1,h2⟩ := h
  refine ⟨h0,a,cap,hc,h1,?_⟩
  rcases h2 with h2 | ⟨b,off,C,ty,fr,h3,h4,h5⟩
  ·exact .inl h2
  ·exact .inr ⟨b,off,C,ty,fr,h3,hp _ _ h4,RepAt.mono hp cs (NmLe.refl _) h5⟩
 | .iref cs off,_,_,_,_,h => by
  simp only [Rep] at h ⊢
  obtain ⟨b,base,C,ty,fr,h1,h2,h4⟩ := h
  exact ⟨b,base,C,ty,fr,h1,hp _ _ h2,RepAt.mono hp cs (NmLe.refl _) h4⟩
 | .sem R,_,_,_,_,h => by
  simp only [Rep] at h ⊢
  obtain ⟨h0,Φ₀,h1,h2⟩ := h
  exact ⟨h0,Φ₀,fun b o e => hp _ _ (h1 b o e),h2⟩
 | .agg cs,_,_,_,hr,h => by
  simp only [Rep] at h ⊢
  obtain ⟨A,h1,h2,h3⟩ := h
  exact ⟨A,h1,h2,RepAt.mono hp cs hr h3⟩
 | .tup cs,_,_,_,hr,h => by
  simp only [Rep] at h ⊢
  obtain ⟨A,h1,h2,h3⟩ := h
  exact ⟨A,h1,h2,RepAt.mono hp cs hr h3⟩
 | .clo t cs,_,_,_,hr,h => by
  simp only [Rep] at h ⊢
  obtain ⟨A,h1,h2,h3⟩ := h
  exact ⟨A,h1,h2,RepAt.mono hp cs hr h3⟩
theorem RepAt.mono {G : Gl} {Φ Φ' : Phi} (hp : PhiLe Φ Φ') : ∀ (cs : List AV) {ρ ρ' : Nm} {C : Array Value} {i : Nat},NmLe ρ ρ' → RepAt G Φ cs ρ C i → RepAt G Φ' cs ρ' C i
 | [],_,_,_,_,_,_ => by simp [RepAt]
 | c :: cs,_,_,_,_,hr,h => by
  simp only [RepAt] at h ⊢
  obtain ⟨⟨x,h1,h2⟩,h3⟩ := h
  exact ⟨⟨x,h1,Rep.mono hp c hr h2⟩,RepAt.mono hp cs hr h3⟩
end

theorem RepAt.get {G : Gl} {Φ : Phi} {ρ : Nm} {C : Array Value} : ∀ {cs : List AV} {i j : Nat} {c : AV},RepAt G Φ cs ρ C i → cs[j]? = some c → ∃ x,C[i + j]? = some x ∧ Rep G Φ c ρ x := by
 intro cs
 induction cs with
 | nil => intro i j c _ h; simp at h
 | cons d cs ih =>
  intro i j c h hj
  simp only [RepAt] at h
  cases j with
  | zero => simp at hj; subst hj; exact h.1
  | succ j =>
   simp at hj
   obtain ⟨x,hx,hr⟩ := ih h.2 hj
   exact ⟨x,by rw [← hx]; congr 1; omega,hr⟩

theorem RepAt.mk {G : Gl} {Φ : Phi} {ρ : Nm} {C : Array Value} : ∀ {cs : List AV} {i : Nat},(∀ j c,cs[j]? = some c → ∃ x,C[i + j]? = some x ∧ Rep G Φ c ρ x) → RepAt G Φ cs ρ C i := by
 intro cs
 induction cs with
 | nil => intro i _; simp [RepAt]
 | cons d cs ih =>
  intro i h
  simp only [RepAt]
  refine ⟨h 0 d (by simp),ih fun j c hj => ?_⟩
  obtain ⟨x,hx,hr⟩ := h (j + 1) c (by simpa using hj)
  exact ⟨x,by rw [← hx]; congr 1; omega,hr⟩

/-- Objects of the abstract memory. -/
inductive AO where
 | cl (τ : Bool) (cs : List AV)
 | ls (τ : Bool) (esz : Nat) (cs : List AV)
 | opq (R : Gl → Phi → Nm → World → Hd → Prop)

/-- Of whatever type. -/
@[match_pattern,reducible] def AO.cells (cs : List AV) : AO := .cl false cs
@[match_pattern,reducible] def AO.lst (esz : Nat) (cs : List AV) : AO := .ls false esz cs

def AO.isLst : AO → Bool
 | .ls _ _ _ => true
 | _ => false

/-- The block is known to be of the type t. -/
def TyIf (τ : Bool) (t : TypeId) (w : World) (h : Hd) : Prop := τ = true → h.isnil = false → ∃ C fr,w.heap[h.b]? = some (.cells C t fr)
def TyC (τ : Bool) (t : TypeId) (w : World) (h : Hd) : Prop := τ = true → ∃ C,w.heap[h.b]? = some (.cells C t (0,0))
theorem TyIf.no (t : TypeId) (w : World) (h : Hd) : TyIf false t w h := fun e => by cases e

def unfrozen (fr : Nat × Nat) (n : Nat) : Prop := ∀ i,i < n → (decide (fr.1 ≤ i) && decide (i < fr.2)) = false

def ORep (G : Gl) (Φ : Phi) (ρ : Nm) (w : World) (h : Hd) : AO → Prop
 | .cl τ cs => (h.fp = [h.b] ∧ ∃ C ty fr,w.heap[h.b]? = some (.cells C ty fr) ∧ C.size = cs.length ∧ unfrozen fr C.size ∧ RepAt G Φ cs ρ C 0) ∧ TyC τ G.bT w h
 | .ls τ esz cs => (h.esz = esz ∧ ((h.isnil = true ∧ cs = [] ∧ h.fp = []) ∨
   (h.isnil = false ∧ h.fp = [h.b] ∧ ∃ C ty fr,w.heap[h.b]? = some (.cells C ty fr) ∧ C.size = h.cap * esz ∧ cs.length ≤ C.size ∧ unfrozen fr C.size ∧ RepAt G Φ cs ρ C 0))) ∧ TyIf τ G.bt w h
 | .opq R => R G Φ ρ w h ∧
   (∀ w' Φ' ρ',(∀ b ∈ h.fp,w'.heap[b]? = w.heap[b]?) → PhiLe Φ Φ' → NmLe ρ ρ' → (∀ b o,Φ' b = some o → w'.heap[b]? = some o) → R G Φ' ρ' w' h)

/-- The abstract state: what is known of the slots, and the memory that the call owns. -/
structure St where
 env : Nat → Option AV
 heap : Nat → Option AO
 next : Nat

def upd {α : Type} (f : Nat → Option α) (k : Nat) (v : Option α) : Nat → Option α := fun n => bif Nat.beq n k then v else f n

theorem upd_same {α : Type} (f : Nat → Option α) (k : Nat) (v : Option α) : upd f k v k = v := by simp [upd]
theorem upd_ne {α : Type} (f : Nat → Option α) {k n : Nat} (v : Option α) (h : n ≠ k) : upd f k v n = f n := by
 simp only [upd]
 have : Nat.beq n k = false := by
  cases hh : Nat.beq n k with
  | true => exact absurd (Nat.eq_of_beq_eq_true hh) h
  | false => rfl
 rw [this]; rfl

/-- The memory of the model stands to the abstract memory so: nothing below B but what X lets has turned since w0; the persistent blocks hold what they held. -/
structure Wf (G : Gl) (B : Nat) (X : Nat → Prop) (w0 : World) (ρ : Nm) (Φ : Phi) (H : Nat → Option AO) (nx : Nat) (w : World) : Prop where
 os : w.os = w0.os
 tape : w.tape = w0.tape
 output : w.output = w0.output
 size : w0.heap.size ≤ w.heap.size
 base : B ≤ w.heap.size
 frame : ∀ k,k < B → ¬ X k → w.heap[k]? = w0.heap[k]?
 phi : ∀ b o,Φ b = some o → w.heap[b]? = some o
 gb : G.base Φ
 dom : ∀ n h,ρ n = some h → n < nx
 objs : ∀ n o,H n = some o → ∃ h,ρ n = some h ∧ ORep G Φ ρ w h o ∧ ∀ b ∈ h.fp,(B ≤ b ∨ X b) ∧ Φ b = none ∧ b < w.heap.size
 disj : ∀ n m h g,n ≠ m → H n ≠ none → H m ≠ none → ρ n = some h → ρ m = some g → ∀ b ∈ h.fp,b ∉ g.fp

/-- The same, the next name aside. -/
structure Wf0 (G : Gl) (B : Nat) (X : Nat → Prop) (w0 : World) (ρ : Nm) (Φ : Phi) (H : Nat → Option AO) (w : World) : Prop where
 os : w.os = w0.os
 tape : w.tape = w0.tape
 output : w.output = w0.output
 size : w0.heap.size ≤ w.heap.size
 base : B ≤ w.heap.size
 frame : ∀ k,k < B → ¬ X k → w.heap[k]? = w0.heap[k]?
 phi : ∀ b o,Φ b = some o → w.heap[b]? = some o
 gb : G.base Φ
 objs : ∀ n o,H n = some o → ∃ h,ρ n = some h ∧ ORep G Φ ρ w h o ∧ ∀ b ∈ h.fp,(B ≤ b ∨ X b) ∧ Φ b = none ∧ b < w.heap.size
 disj : ∀ n m h g,n ≠ m → H n ≠ none → H m ≠ none → ρ n = some h → ρ m = some g → ∀ b ∈ h.fp,b ∉ g.fp
theorem Wf.zero {G : Gl} {B : Nat} {X : Nat → Prop} {w0 : World} {ρ : Nm} {Φ : Phi} {H : Nat → Option AO} {nx : Nat} {w : World} (h : Wf G B X w0 ρ Φ H nx w) : Wf0 G B X w0 ρ Φ H w :=
 ⟨h.os,h.tape,h.output,h.size,h.base,h.frame,h.phi,h.gb,h.objs,h.disj⟩
theorem Wf0.up {G : Gl} {B : Nat} {X : Nat → Prop} {w0 : World} {ρ : Nm} {Φ : Phi} {H : Nat → Option AO} {nx : Nat} {w : World} (h : Wf0 G B X w0 ρ Φ H w) (hd : ∀ n h,ρ n = some h → n < nx) : Wf G B X w0 ρ Φ H nx w :=
 ⟨h.os,h.tape,h.output,h.size,h.base,h.frame,h.phi,h.gb,hd,h.objs,h.disj⟩
/-- New names: the next one at most. -/
def NmTo (nx nx' : Nat) (ρ ρ' : Nm) : Prop := NmLe ρ ρ' ∧ nx ≤ nx' ∧ ∀ n h,ρ' n = some h → ρ n = some h ∨ (n = nx ∧ nx < nx')
theorem NmTo.refl (nx : Nat) (ρ : Nm) : NmTo nx nx ρ ρ := ⟨NmLe.refl _,Nat.le_refl _,fun _ _ e => .inl e⟩
theorem NmTo.dom {nx nx' : Nat} {ρ ρ' : Nm} (h : NmTo nx nx' ρ ρ') (hd : ∀ n h,ρ n = some h → n < nx) : ∀ n h,ρ' n = some h → n < nx' := fun n x e => by
 have h1 := h.2.1
 rcases h.2.2 n x e with h2 | ⟨h2,h3⟩
 ·have := hd n x h2; omega
 ·omega

def EnvRel (G : Gl) (Φ : Phi) (ρ : Nm) (env : Nat → Option AV) (a : Act) : Prop :=
 ∀ k v,env k = some v → ∃ x,a.tmps[k]? = some x ∧ Rep G Φ v ρ x

theorem EnvRel.mono {G : Gl} {Φ Φ' : Phi} {ρ ρ' : Nm} {env : Nat → Option AV} {a : Act} (hp : PhiLe Φ Φ') (hr : NmLe ρ ρ') (h : EnvRel G Φ ρ env a) : EnvRel G Φ' ρ' env a :=
 fun k v e => let ⟨x,h1,h2⟩ := h k v e; ⟨x,h1,Rep.mono hp v hr h2⟩

theorem EnvRel.put {G : Gl} {Φ : Phi} {ρ : Nm} {env : Nat → Option AV} {a : Act} {d : Nat} {v : AV} {x : Value} (h : EnvRel G Φ ρ env a) (hd : d < a.tmps.size) (hv : Rep G Φ v ρ x) :
  EnvRel G Φ ρ (upd env d (some v)) (a.put (some d) x) := by
 intro k u hk
 by_cases hkd : k = d
 ·subst hkd
  rw [upd_same] at hk
  cases hk
  exact ⟨x,by simp [Act.put,hd],hv⟩
 ·rw [upd_ne _ _ hkd] at hk
  obtain ⟨y,hy,hr⟩ := h k u hk
  exact ⟨y,by simp [Act.put]; rw [Array.getElem?_setIfInBounds_ne (by omega)]; exact hy,hr⟩

theorem ORep.mono {G : Gl} {Φ Φ' : Phi} {ρ ρ' : Nm} {w w' : World} {h : Hd} {o : AO} (hp : PhiLe Φ Φ') (hr : NmLe ρ ρ')
  (hphi : ∀ b o,Φ' b = some o → w'.heap[b]? = some o) (hw : ∀ b ∈ h.fp,w'.heap[b]? = w.heap[b]?) (ho : ORep G Φ ρ w h o) : ORep G Φ' ρ' w' h o := by
 cases o with
 | cl τ cs =>
  obtain ⟨⟨h1,C,ty,fr,h2,h3,h4,h5⟩,ht⟩ := ho
  exact ⟨⟨h1,C,ty,fr,by rw [hw _ (by simp [h1])]; exact h2,h3,h4,RepAt.mono hp _ hr h5⟩,fun e1 => by rw [hw _ (by simp [h1])]; exact ht e1⟩
 | ls τ esz cs =>
  obtain ⟨⟨h0,h1⟩,ht⟩ := ho
  rcases h1 with h1 | ⟨h1,h2,C,ty,fr,h3,h4,h5,h6,h7⟩
  ·exact ⟨⟨h0,.inl h1⟩,fun _ e2 => by rw [h1.1] at e2; cases e2⟩
  ·exact ⟨⟨h0,.inr ⟨h1,h2,C,ty,fr,by rw [hw _ (by simp [h2])]; exact h3,h4,h5,h6,RepAt.mono hp _ hr h7⟩⟩,fun e1 e2 => by rw [hw _ (by simp [h2])]; exact ht e1 e2⟩
 | opq R =>
  refine ⟨ho.2 w' Φ' ρ' hw hp hr hphi,fun w'' Φ'' ρ'' h1 h2 h3 h4 => ho.2 w'' Φ'' ρ'' (fun b hb => (h1 b hb).trans (hw b hb)) (hp.trans h2) (hr.trans h3) h4⟩

end Qk

/-
  The operations of the executor's own form, and what each asks of and does to the abstract state.
-/
namespace Qk
open Go Go.RowKit

def AV.ofConst : Value → AV
 | .int k n => .int k n
 | .bool b => .bool b
 | .string s => .str s.data.toList
 | v => .raw v

def AV.isOne : AV → Bool
 | .agg _ => false
 | .tup _ => false
 | .raw v => v.oneCell'
 | _ => true

def St.ev (S : St) : Operand → Option AV
 | .tmp t => S.env t
 | .const v => some (AV.ofConst v)
 | .func f => some (.clo (1000000 + f) [])
 | _ => none

def St.set (S : St) (d : Option Nat) (v : AV) : St :=
 match d with
 | some d => { S with env := upd S.env d (some v) }
 | none => S

def St.evs (S : St) : List Operand → Option (List AV)
 | [] => some []
 | x :: r => match S.ev x with
  | none => none
  | some v => match St.evs S r with
   | none => none
   | some vs => some (v :: vs)

/-- An integer of kind k: a signed one must lie in its range, an unsigned one wraps. -/
def sgn (k : IntKind) (x : Int) (K : AV → Prop) : Prop :=
 match k with
 | .i64 => (-9223372036854775808 ≤ x ∧ x ≤ 9223372036854775807) ∧ K (.int .i64 x)
 | .i32 => (-2147483648 ≤ x ∧ x ≤ 2147483647) ∧ K (.int .i32 x)
 | .i16 => (-32768 ≤ x ∧ x ≤ 32767) ∧ K (.int .i16 x)
 | .i8 => (-128 ≤ x ∧ x ≤ 127) ∧ K (.int .i8 x)
 | .u8 => K (.int .u8 (x % 256))
 | .u16 => K (.int .u16 (x % 65536))
 | .u32 => K (.int .u32 (x % 4294967296))
 | .u64 => K (.int .u64 (x % 18446744073709551616))

def andI (k : IntKind) (a b : Int) : Int := k.wrap ((BitVec.ofInt k.bits a &&& BitVec.ofInt k.bits b).toNat)
def orI (k : IntKind) (a b : Int) : Int := k.wrap ((BitVec.ofInt k.bits a ||| BitVec.ofInt k.bits b).toNat)
def xorI (k : IntKind) (a b : Int) : Int := k.wrap ((BitVec.ofInt k.bits a ^^^ BitVec.ofInt k.bits b).toNat)
def andNotI (k : IntKind) (a b : Int) : Int := k.wrap ((BitVec.ofInt k.bits a &&& ~~~ BitVec.ofInt k.bits b).toNat)

def shlI (k : IntKind) (a b : Int) : Int := k.wrap (a * 2 ^ (min b.toNat k.bits))
def shrI (k : IntKind) (a b : Int) : Int := a.fdiv (2 ^ (min b.toNat k.bits))

def arith (op : BinOp) (k : IntKind) (a b : Int) (K : AV → Prop) : Prop :=
 match op with
 | .add => sgn k (a + b) K
 | .sub => sgn k (a - b) K
 | .mul => sgn k (a * b) K
 | .quo => b ≠ 0 ∧ sgn k (a.tdiv b) K
 | .rem => b ≠ 0 ∧ K (.int k (a.tmod b))
 | .and => K (.int k (andI k a b))
 | .or => K (.int k (orI k a b))
 | .xor => K (.int k (xorI k a b))
 | .andNot => K (.int k (andNotI k a b))
 | .eql => K (.bool (decide (a = b)))
 | .neq => K (.bool (!decide (a = b)))
 | .lss => K (.bool (decide (a < b)))
 | .leq => K (.bool (decide (a ≤ b)))
 | .gtr => K (.bool (decide (b < a)))
 | .geq => K (.bool (decide (b ≤ a)))
 | .shl => 0 ≤ b ∧ K (.int k (shlI k a b))
 | .shr => 0 ≤ b ∧ K (.int k (shrI k a b))

def kindEq : IntKind → IntKind → Bool
 | .i8,.i8 => true
 | .i16,.i16 => true
 | .i32,.i32 => true
 | .i64,.i64 => true
 | .u8,.u8 => true
 | .u16,.u16 => true
 | .u32,.u32 => true
 | .u64,.u64 => true
 | _,_ => false

def isShift : BinOp → Bool
 | .shl => true
 | .shr => true
 | _ => false

def strOp (op : BinOp) (a b : List UInt8) (K : AV → Prop) : Prop :=
 match op with
 | .add => a.length + b.length ≤ 9223372036854775807 ∧ K (.str (a ++ b))
 | .eql => K (.bool (decide (a = b)))
 | .neq => K (.bool (!decide (a = b)))
 | .lss => K (.bool (Op.bytesLess a b))
 | _ => False

/-- The kind of a plain cell: an integer's kind, a string, a bool. -/
abbrev CK := Option (Option IntKind)
def AV.isK : CK → AV → Bool
 | some (some k),.int j _ => kindEq j k
 | some none,.str _ => true
 | none,.bool _ => true
 | _,_ => false

def AreK : List CK → List AV → Prop
 | [],[] => True
 | k :: ks,c :: cs => c.isK k = true ∧ AreK ks cs
 | _,_ => False

/-- Two rows of plain cells are equal or not. -/
def EqRel (ks : List CK) (cs ds : List AV) (r : Bool) : Prop := AreK ks cs ∧ AreK ks ds ∧ (r = true ↔ cs = ds)

def NNL (cs : List AV) : Prop := ∀ (G : Gl) (Φ : Phi) (ρ ρ' : Nm) (C : Array Value) (i : Nat),RepAt G Φ cs ρ C i → RepAt G Φ cs ρ' C i
def NN (a : AV) : Prop := ∀ (G : Gl) (Φ : Phi) (ρ ρ' : Nm) (v : Value),Rep G Φ a ρ v → Rep G Φ a ρ' v
/-- Neither names nor persistent memory. -/
def PlainV (a : AV) : Prop := ∀ (G : Gl) (Φ Φ' : Phi) (ρ ρ' : Nm) (v : Value),Rep G Φ a ρ v → Rep G Φ' a ρ' v

def AllOne (cs : List AV) : Prop := ∀ c ∈ cs,c.isOne = true

/-- Contract of a function whose arguments are values, or memory that it only reads, and whose result holds no memory that can be written: the arguments of which it speaks, what it asks of them, and the result. -/
structure PC where
 α : Type
 args : α → List AV
 ok : α → Prop
 res : α → AV

/-- A local variable's memory is lent to a callee that only reads it. -/
def lend (H : Nat → Option AO) : List AV → (Bool → List AV → Prop) → Prop
 | [],K => K false []
 | v :: r,K => match v with
  | .ref n off => match H n with
   | some (.cl _τ cs) => NNL cs ∧ lend H r (fun _ vs => K true (.iref cs off :: vs))
   | _ => False
  | .sl n off len => match H n with
   | some (.ls _ esz cs) => (off + len) * esz ≤ cs.length ∧ NNL cs ∧ lend H r (fun _ vs => K true (.ilist esz len ((cs.drop (off * esz)).take (len * esz)) :: vs))
   | _ => False
  | .vw n off len esz => match H n with
   | some (.cl _τ cs) => off + len * esz ≤ cs.length ∧ NNL cs ∧ lend H r (fun _ vs => K true (.ilist esz len ((cs.drop off).take (len * esz)) :: vs))
   | _ => False
  | .int k n => lend H r (fun b vs => K b (.int k n :: vs))
  | .bool x => lend H r (fun b vs => K b (.bool x :: vs))
  | .str x => lend H r (fun b vs => K b (.str x :: vs))
  | .ilist e l cs => lend H r (fun b vs => K b (.ilist e l cs :: vs))
  | .iref cs o => lend H r (fun b vs => K b (.iref cs o :: vs))
  | .sem R => lend H r (fun b vs => K b (.sem R :: vs))
  | .raw x => lend H r (fun b vs => K b (.raw x :: vs))
  | v => NN v ∧ lend H r (fun b vs => K b (v :: vs))

/-- What a call of a function brings: its result, and new memory. -/
def CallPost (G : Gl) (Φ : Phi) (w : World) (K : AV → Prop) (e : Ending) (w' : World) : Prop :=
 ∃ r v Φ',K r ∧ e = .returned v ∧ PhiLe Φ Φ' ∧ (∀ b o,Φ' b = some o → w'.heap[b]? = some o) ∧ (∀ b o,Φ' b = some o → Φ b = some o ∨ w.heap.size ≤ b) ∧
  Rep G Φ' r (fun _ => none) v ∧ Below w.heap.size w w'

/-- A call of a function, be it one of the text, be it one of the model's own. -/
def CallX (P : Program) (f : FuncId) (args : Array Value) (w : World) (Post : Ending → World → Prop) : Prop :=
 ((∃ fn,P.funcs[f]? = some fn ∧ fn.body.isNone = false ∧ (fn.name == "runtime.NumGoroutine") = false) ∧ Calls P f args w Post) ∨
 ∃ v w',(callFunc f args).run P w = .ok (.value v) w' ∧ Post (.returned v) w'

/-- A function with what it has captured keeps its contract. -/
def KeepsC (G : Gl) (C : PC) (Φ₀ : Phi) (f : FuncId) (A : Array Value) : Prop :=
 ∀ (us : List AV) (w : World) (Φ : Phi) (vs : Array Value),PhiLe Φ₀ Φ → G.base Φ → (∀ b o,Φ b = some o → w.heap[b]? = some o) → vs.size = us.length → RepAt G Φ us (fun _ => none) vs 0 → ∀ x,us = C.args x → C.ok x →
  CallX G.P f (vs ++ A) w (CallPost G Φ w (fun r => r = C.res x))

def FnR (C : PC) : Gl → Phi → Value → Prop := fun G Φ v => ∃ f A,v = .func (.func f) #[] A ∧ KeepsC G C Φ f A

def pcall (C : PC) (vs : List AV) (S : St) (K : AV → St → Prop) : Prop :=
 lend S.heap vs (fun b us => ∃ x,us = C.args x ∧ C.ok x ∧ match b with | true => PlainV (C.res x) ∧ K (C.res x) S | false => K (C.res x) S)

/-- Contract of a function that gives a new slice, which nobody else holds: n elements of esz cells each. -/
structure FC where
 α : Type
 args : α → List AV
 ok : α → Prop
 esz : Nat
 n : α → Nat
 cs : α → List AV

/-- The value is a slice in memory that was not there before. -/
def FreshL (G : Gl) (esz n : Nat) (cs : List AV) (B : Nat) (w : World) (v : Value) : Prop :=
 (v = .slice none 0 0 ∧ n = 0 ∧ cs = []) ∨ ∃ b C ty fr cap,v = .slice (some ⟨b,0,none⟩) n cap ∧ B ≤ b ∧ w.heap[b]? = some (.cells C ty fr) ∧ C.size = cap * esz ∧ cs.length ≤ C.size ∧ n ≤ cap ∧
  unfrozen fr C.size ∧ RepAt G (fun _ => none) cs (fun _ => none) C 0

def KeepsF (G : Gl) (C : FC) (f : FuncId) : Prop :=
 ∀ (us : List AV) (w : World) (Φ : Phi) (vs : Array Value),G.base Φ → (∀ b o,Φ b = some o → w.heap[b]? = some o) → vs.size = us.length → RepAt G Φ us (fun _ => none) vs 0 → ∀ x,us = C.args x → C.ok x →
  CallX G.P f vs w (fun e w' => ∃ v,e = .returned v ∧ Below w.heap.size w w' ∧ FreshL G C.esz (C.n x) (C.cs x) w.heap.size w' v)

def pcallF (C : FC) (vs : List AV) (S : St) (K : AV → St → Prop) : Prop :=
 lend S.heap vs (fun _ us => ∃ x,us = C.args x ∧ C.ok x ∧ K (.sl S.next 0 (C.n x)) { S with heap := upd S.heap S.next (some (.ls false C.esz (C.cs x))),next := S.next + 1 })

/-- Contract of a function that gives a closure, of whose captured variables the first is its own, in new memory; the others are only read. -/
structure BC where
 α : Type
 args : α → List AV
 ok : α → Prop
 tag : Nat
 cs : α → List AV
 rest : α → List AV

def KeepsB (G : Gl) (C : BC) (f : FuncId) : Prop :=
 ∀ (us : List AV) (w : World) (Φ : Phi) (vs : Array Value),G.base Φ → (∀ b o,Φ b = some o → w.heap[b]? = some o) → vs.size = us.length → RepAt G Φ us (fun _ => none) vs 0 → ∀ x,us = C.args x → C.ok x →
  CallX G.P f vs w (fun e w' => ∃ Φ' b C' ty fr A,e = .returned (.func (.func (G.tag C.tag)) #[] A) ∧ Below w.heap.size w w' ∧ PhiLe Φ Φ' ∧ (∀ b o,Φ' b = some o → w'.heap[b]? = some o) ∧
   (∀ b o,Φ' b = some o → Φ b = some o ∨ w.heap.size ≤ b) ∧ A.size = (C.rest x).length + 1 ∧ A[0]? = some (.pointer (some ⟨b,0,none⟩)) ∧ w.heap.size ≤ b ∧ Φ' b = none ∧ w'.heap[b]? = some (.cells C' ty fr) ∧
   C'.size = (C.cs x).length ∧ unfrozen fr C'.size ∧ RepAt G Φ' (C.cs x) (fun _ => none) C' 0 ∧ RepAt G Φ' (C.rest x) (fun _ => none) A 1)

def pcallB (C : BC) (vs : List AV) (S : St) (K : AV → St → Prop) : Prop :=
 lend S.heap vs (fun b us => match b with
  | true => False
  | false => ∃ x,us = C.args x ∧ C.ok x ∧ K (.clo C.tag (.ref S.next 0 :: C.rest x)) { S with heap := upd S.heap S.next (some (.cl false (C.cs x))),next := S.next + 1 })

/-- Maps: whether a key is one cell, what the cells of keys are, and what stands at which key. -/
structure MC where
 one : Bool
 ks : List CK
 M : AV → AV → Prop

def kOk : Bool → List CK → AV → Prop
 | true,ks,k => ∃ c,ks = [c] ∧ AV.isK c k = true
 | false,ks,k => ∃ cs,k = .agg cs ∧ AreK ks cs

/-- The block of a map. -/
def mapR (m : MC) : Gl → Phi → Nm → World → Hd → Prop := fun G Φ _ w h =>
 h.fp = [h.b] ∧ h.v = .map (some h.b) ∧ (∀ k v v',m.M k v → m.M k v' → v = v') ∧ ∃ es clock,w.heap[h.b]? = some (.map es clock) ∧ MapKept.Stamped es clock ∧
  (∀ e ∈ es.toList,∃ k v,m.M k v ∧ kOk m.one m.ks k ∧ Rep G Φ k (fun _ => none) e.key ∧ Rep G Φ v (fun _ => none) e.val) ∧
  (∀ k v,m.M k v → kOk m.one m.ks k ∧ ∃ e ∈ es.toList,Rep G Φ k (fun _ => none) e.key ∧ Rep G Φ v (fun _ => none) e.val)

/-- A map that is only read, in memory that lasts. -/
def mapS (m : MC) : Gl → Phi → Value → Prop := fun G Φ v =>
 ∃ b es clock,v = .map (some b) ∧ Φ b = some (.map es clock) ∧ (∀ k v v',m.M k v → m.M k v' → v = v') ∧
  (∀ e ∈ es.toList,∃ k v,m.M k v ∧ kOk m.one m.ks k ∧ Rep G Φ k (fun _ => none) e.key ∧ Rep G Φ v (fun _ => none) e.val) ∧
  (∀ k v,m.M k v → kOk m.one m.ks k ∧ ∃ e ∈ es.toList,Rep G Φ k (fun _ => none) e.key ∧ Rep G Φ v (fun _ => none) e.val)

/-- A map that is ranged over (the map of the name n), with its iterator: the keys D have been, cur is at hand. -/
def rangeR (n : Nat) (m : MC) (D : AV → Prop) (cur : Option (AV × AV)) : Gl → Phi → Nm → World → Hd → Prop := fun G Φ ρ w h =>
 ∃ hm,ρ n = some hm ∧ hm.fp = [hm.b] ∧ hm.v = .map (some hm.b) ∧ h.fp = [hm.b,h.b] ∧ hm.b ≠ h.b ∧ (∀ k v v',m.M k v → m.M k v' → v = v') ∧
 ∃ es clock seen,w.heap[hm.b]? = some (.map es clock) ∧ w.heap[h.b]? = some (.mapIter (some hm.b) clock seen clock) ∧ MapKept.Stamped es clock ∧
  (∀ e ∈ es.toList,∃ k v,m.M k v ∧ kOk m.one m.ks k ∧ Rep G Φ k (fun _ => none) e.key ∧ Rep G Φ v (fun _ => none) e.val) ∧
  (∀ k v,m.M k v → kOk m.one m.ks k ∧ ∃ e ∈ es.toList,Rep G Φ k (fun _ => none) e.key ∧ Rep G Φ v (fun _ => none) e.val) ∧
  (∀ e ∈ es.toList,∀ k v,m.M k v → Rep G Φ k (fun _ => none) e.key → (D k ↔ seen.contains e.born = true)) ∧
  (match cur with | none => True | some (k,v) => ∃ e ∈ es.toList,∃ s : Array Nat,seen = s.push e.born ∧ Rep G Φ k (fun _ => none) e.key ∧ Rep G Φ v (fun _ => none) e.val)

/-- A block of which something is known that hangs on no name. -/
def tokR (P : World → Hd → Prop) : Gl → Phi → Nm → World → Hd → Prop := fun _ _ _ w h => P w h
/-- An iterator over the string l, at the place p. -/
def strItR (l : List UInt8) (p : Nat) : Gl → Phi → Nm → World → Hd → Prop := fun _ _ _ w h => h.fp = [h.b] ∧ w.heap[h.b]? = some (.stringIter ⟨l.toArray⟩ p)
/-- The rune at the place p of the string l, and how many bytes it takes. -/
def decU (l : List UInt8) (p : Nat) : Nat × Nat := Utf8.decode ⟨l.toArray⟩ p

/-- What stands at which key when v has been stored at k. -/
def putM (M : AV → AV → Prop) (k v : AV) : AV → AV → Prop := fun k' v' => (k' = k ∧ v' = v) ∨ (k' ≠ k ∧ M k' v')
def noM : AV → AV → Prop := fun _ _ => False

inductive Ins where
 | mov (x : Operand)
 | pick (c a b : Operand)
 | alloc (zs : List AV)
 | box (x : Operand)
 | build (sz : Nat) (zs : List AV) (parts : List (Nat × Nat × Operand))
 | bslice (esz : Nat) (zs : List AV) (n : Nat) (parts : List (Nat × Nat × Operand))
 | load1 (x : Operand)
 | loadN (sz : Nat) (x : Operand)
 | stor1 (a x : Operand)
 | storN (sz : Nat) (a x : Operand)
 | nilck (x : Operand)
 | bin (op : BinOp) (x y : Operand)
 | beq (neg : Bool) (x y : Operand)
 | aeq (neg : Bool) (ks : List CK) (x y : Operand)
 | neg (x : Operand)
 | cpl (x : Operand)
 | not (x : Operand)
 | conv (k : IntKind) (x : Operand)
 | s2b (x : Operand)
 | b2s (x : Operand)
 | lenS (x : Operand)
 | lenL (x : Operand)
 | lenA (n : Nat)
 | idxA (esz n : Nat) (x i : Operand)
 | idxL (esz : Nat) (x i : Operand)
 | fldA (off : Nat) (x : Operand)
 | idxV (n esz : Nat) (agg : Bool) (x i : Operand)
 | idxS (x i : Operand)
 | fldV (off sz : Nat) (agg : Bool) (x : Operand)
 | slS (x : Operand) (lo hi : Option Operand)
 | slA (esz n : Nat) (x : Operand) (lo hi : Option Operand)
 | slL (esz : Nat) (x : Operand) (lo hi : Option Operand)
 | app (esz bytes : Nat) (x y : Operand)
 | mksl (esz bytes : Nat) (zs : List AV) (l c : Operand)
 | extr (x : Operand) (i : Nat)
 | mkclo (tag : Nat) (caps : List Operand)
 | pcall (C : PC) (args : List Operand)
 | vcall (Γ : Nat → Option PC) (x : Operand) (args : List Operand)
 | newb (zs : List AV)
 | pcallF (C : FC) (args : List Operand)
 | pcallB (C : BC) (args : List Operand)
 | mkmap (one : Bool) (ks : List CK)
 | mlook (one : Bool) (ks : List CK) (z : AV) (ok : Bool) (x i : Operand)
 | mput (one : Bool) (ks : List CK) (x k v : Operand)
 | panic

def repl {α : Type} (n : Nat) (l : List α) : List α := match n with | 0 => [] | n + 1 => l ++ repl n l

/-- The cells cs with the row vs laid at off. -/
def lay (cs : List AV) (off : Nat) (vs : List AV) : List AV := cs.take off ++ vs ++ cs.drop (off + vs.length)

def fillA (S : St) (zs : List AV) : List (Nat × Nat × Operand) → Option (List AV)
 | [] => some zs
 | (off,sz,x) :: r => match S.ev x with
  | none => none
  | some v => match v with
   | .agg cs => bif cs.length == sz && Nat.ble (off + sz) zs.length then fillA S (lay zs off cs) r else none
   | v => bif v.isOne && sz == 1 && Nat.ble (off + 1) zs.length then fillA S (zs.set off v) r else none

def bnd (S : St) (x : Option Operand) (d : Int) (K : Int → Prop) : Prop :=
 match x with
 | none => K d
 | some x => match S.ev x with
  | some (.int _ i) => K i
  | _ => False

def ex1 (o : Ins) (S : St) (K : AV → St → Prop) : Prop :=
 match o with
 | .mov x => match S.ev x with | some v => K v S | none => False
 | .pick c a b => match S.ev c with
  | some (.bool c) => match S.ev a,S.ev b with
   | some (.bool x),some (.bool y) => K (.bool (cond c x y)) S
   | x,y => cond c (match x with | some v => K v S | none => False) (match y with | some v => K v S | none => False)
  | _ => False
 | .alloc zs => K (.ref S.next 0) { S with heap := upd S.heap S.next (some (.cl false zs)),next := S.next + 1 }
 | .box x => match S.ev x with
  | some (.agg cs) => K (.ref S.next 0) { S with heap := upd S.heap S.next (some (.cl false cs)),next := S.next + 1 }
  | some v => match v.isOne with
   | true => K (.ref S.next 0) { S with heap := upd S.heap S.next (some (.cl false [v])),next := S.next + 1 }
   | false => False
  | none => False
 | .build sz zs parts => match fillA S zs parts with
  | some cs => cs.length = sz ∧ K (.agg cs) S
  | none => False
 | .bslice esz zs n parts => match fillA S (repl n zs) parts with
  | some cs => K (.sl S.next 0 n) { S with heap := upd S.heap S.next (some (.ls false esz cs)),next := S.next + 1 }
  | none => False
 | .load1 x => match S.ev x with
  | some (.ref n off) => match S.heap n with
   | some (.cl _τ cs) => ∃ v,cs[off]? = some v ∧ K v S
   | some (.ls _ _ cs) => ∃ v,cs[off]? = some v ∧ K v S
   | _ => False
  | some (.iref cs off) => ∃ v,cs[off]? = some v ∧ K v S
  | _ => False
 | .loadN sz x => match S.ev x with
  | some (.ref n off) => match S.heap n with
   | some (.cl _τ cs) => ∃ l,(l = (cs.drop off).take sz ∧ l.length = sz) ∧ K (.agg l) S
   | some (.ls _ _ cs) => ∃ l,(l = (cs.drop off).take sz ∧ l.length = sz) ∧ K (.agg l) S
   | _ => False
  | some (.iref cs off) => NNL cs ∧ ∃ l,(l = (cs.drop off).take sz ∧ l.length = sz) ∧ K (.agg l) S
  | _ => False
 | .stor1 a x => match S.ev a,S.ev x with
  | some (.ref n off),some v => match v.isOne with
   | true => match S.heap n with
    | some (.cl τ cs) => off < cs.length ∧ K (.raw undef) { S with heap := upd S.heap n (some (.cl τ (cs.set off v))) }
    | some (.ls τ e cs) => off < cs.length ∧ K (.raw undef) { S with heap := upd S.heap n (some (.ls τ e (cs.set off v))) }
    | _ => False
   | false => False
  | _,_ => False
 | .storN sz a x => match S.ev a,S.ev x with
  | some (.ref n off),some (.agg vs) => (vs.length = sz ∧ AllOne vs) ∧ match S.heap n with
   | some (.cl τ cs) => off + sz ≤ cs.length ∧ ∃ l,l = lay cs off vs ∧ K (.raw undef) { S with heap := upd S.heap n (some (.cl τ l)) }
   | some (.ls τ e cs) => off + sz ≤ cs.length ∧ ∃ l,l = lay cs off vs ∧ K (.raw undef) { S with heap := upd S.heap n (some (.ls τ e l)) }
   | _ => False
  | _,_ => False
 | .nilck x => match S.ev x with
  | some (.ref n o) => K (.ref n o) S
  | some (.iref cs o) => K (.iref cs o) S
  | some (.clo t cs) => K (.clo t cs) S
  | _ => False
 | .bin op x y => match S.ev x,S.ev y with
  | some (.int k a),some (.int j b) => match isShift op || kindEq k j with
   | true => arith op k a b (fun v => K v S)
   | false => False
  | some (.str a),some (.str b) => strOp op a b (fun v => K v S)
  | _,_ => False
 | .beq neg x y => match S.ev x,S.ev y with
  | some (.bool a),some (.bool b) => K (.bool (cond neg (!decide (a = b)) (decide (a = b)))) S
  | _,_ => False
 | .aeq neg ks x y => match S.ev x,S.ev y with
  | some (.agg cs),some (.agg ds) => ∃ r,EqRel ks cs ds r ∧ K (.bool (cond neg (!r) r)) S
  | _,_ => False
 | .neg x => match S.ev x with
  | some (.int k a) => sgn k (0 - a) (fun v => K v S)
  | _ => False
 | .cpl x => match S.ev x with
  | some (.int k a) => K (.int k (xorI k (if k.signed then -1 else k.max) a)) S
  | _ => False
 | .not x => match S.ev x with
  | some (.bool b) => K (.bool (!b)) S
  | _ => False
 | .conv k x => match S.ev x with
  | some (.int _ a) => sgn k a (fun v => K v S)
  | _ => False
 | .s2b x => match S.ev x with
  | some (.str l) => K (.sl S.next 0 l.length) { S with heap := upd S.heap S.next (some (.ls false 1 (l.map fun b => .int .u8 b.toNat))),next := S.next + 1 }
  | _ => False
 | .b2s x => match S.ev x with
  | some (.sl n off len) => match S.heap n with
   | some (.ls _τ e cs) => e = 1 ∧ ∃ l : List UInt8,((cs.drop off).take len = (l.map fun b => AV.int .u8 b.toNat) ∧ l.length = len) ∧ K (.str l) S
   | _ => False
  | some (.vw n off len e) => match S.heap n with
   | some (.cl _τ cs) => e = 1 ∧ ∃ l : List UInt8,((cs.drop off).take len = (l.map fun b => AV.int .u8 b.toNat) ∧ l.length = len) ∧ K (.str l) S
   | _ => False
  | some (.ilist e len cs) => e = 1 ∧ ∃ l : List UInt8,(cs = (l.map fun b => AV.int .u8 b.toNat) ∧ l.length = len) ∧ K (.str l) S
  | some (.raw (.slice none _ _)) => K (.str []) S
  | _ => False
 | .lenS x => match S.ev x with
  | some (.str l) => K (.int .i64 l.length) S
  | _ => False
 | .lenL x => match S.ev x with
  | some (.sl _ _ n) => K (.int .i64 n) S
  | some (.vw _ _ n _) => K (.int .i64 n) S
  | some (.ilist _ n _) => K (.int .i64 n) S
  | some (.raw (.slice _ n _)) => K (.int .i64 n) S
  | _ => False
 | .lenA n => K (.int .i64 n) S
 | .idxA esz n x i => match S.ev x,S.ev i with
  | some (.ref m off),some (.int _ i) => (0 ≤ i ∧ i < n) ∧ K (.ref m (off + i.toNat * esz)) S
  | some (.iref cs off),some (.int _ i) => (0 ≤ i ∧ i < n) ∧ K (.iref cs (off + i.toNat * esz)) S
  | _,_ => False
 | .idxL esz x i => match S.ev x,S.ev i with
  | some (.sl m off len),some (.int _ i) => match S.heap m with
   | some (.ls _ e _) => (e = esz ∧ 0 ≤ i ∧ i < len) ∧ K (.ref m ((off + i.toNat) * esz)) S
   | _ => False
  | some (.vw m off len e),some (.int _ i) => (e = esz ∧ 0 < e ∧ 0 ≤ i ∧ i < len) ∧ K (.ref m (off + i.toNat * esz)) S
  | some (.ilist e len cs),some (.int _ i) => (e = esz ∧ 0 < e ∧ 0 ≤ i ∧ i < len) ∧ K (.iref cs (i.toNat * esz)) S
  | _,_ => False
 | .fldA off x => match S.ev x with
  | some (.ref n o) => K (.ref n (o + off)) S
  | some (.iref cs o) => K (.iref cs (o + off)) S
  | _ => False
 | .idxV n esz agg x i => match S.ev x,S.ev i with
  | some (.agg cs),some (.int _ i) => (0 ≤ i ∧ i < n) ∧ match agg with
   | true => ∃ l,(l = (cs.drop (i.toNat * esz)).take esz ∧ l.length = esz) ∧ K (.agg l) S
   | false => ∃ v,cs[i.toNat * esz]? = some v ∧ K v S
  | _,_ => False
 | .idxS x i => match S.ev x,S.ev i with
  | some (.str l),some (.int _ i) => (0 ≤ i ∧ i < l.length) ∧ K (.int .u8 ((l.getD i.toNat 0).toNat : Int)) S
  | _,_ => False
 | .fldV off sz agg x => match S.ev x with
  | some (.agg cs) => match agg with
   | true => ∃ l,(l = (cs.drop off).take sz ∧ l.length = sz) ∧ K (.agg l) S
   | false => ∃ v,cs[off]? = some v ∧ K v S
  | _ => False
 | .slS x lo hi => match S.ev x with
  | some (.str l) => bnd S lo 0 fun a => bnd S hi l.length fun b => (0 ≤ a ∧ a ≤ b ∧ b ≤ l.length) ∧ K (.str ((l.drop a.toNat).take (b.toNat - a.toNat))) S
  | _ => False
 | .slA esz n x lo hi => match S.ev x with
  | some (.ref m off) => bnd S lo 0 fun a => bnd S hi n fun b => (0 ≤ a ∧ a ≤ b ∧ b ≤ n) ∧ K (.vw m (off + a.toNat * esz) (b.toNat - a.toNat) esz) S
  | _ => False
 | .slL esz x lo hi => match S.ev x with
  | some (.sl m off len) => match S.heap m with
   | some (.ls _ e _) => bnd S lo 0 fun a => bnd S hi len fun b => (e = esz ∧ 0 ≤ a ∧ a ≤ b ∧ b ≤ len) ∧ K (.sl m (off + a.toNat) (b.toNat - a.toNat)) S
   | _ => False
  | some (.ilist e len cs) => bnd S lo 0 fun a => bnd S hi len fun b => (e = esz ∧ 0 ≤ a ∧ a ≤ b ∧ b ≤ len) ∧
    K (.ilist esz (b.toNat - a.toNat) ((cs.drop (a.toNat * esz)).take ((b.toNat - a.toNat) * esz))) S
  | _ => False
 | .app esz bytes x y => match S.ev x,S.ev y with
  | some (.sl n off len),some (.sl m o2 l2) => match S.heap n,S.heap m with
   | some (.ls τ e cs),some (.ls _ e2 ds) => (n ≠ m ∧ off = 0 ∧ e = esz ∧ e2 = esz ∧ cs.length = len * esz ∧ (o2 + l2) * esz ≤ ds.length ∧ AllOne ds ∧ (len + l2) * bytes ≤ 140737488355328) ∧
     ∃ l,l = cs ++ (ds.drop (o2 * esz)).take (l2 * esz) ∧
     K (.sl S.next 0 (len + l2)) { S with heap := upd (upd S.heap n none) S.next (some (.ls (τ && Nat.beq bytes 1) esz l)),next := S.next + 1 }
   | _,_ => False
  | some (.sl n off len),some (.vw m o2 l2 e2) => match S.heap n,S.heap m with
   | some (.ls τ e cs),some (.cl _ ds) => (n ≠ m ∧ off = 0 ∧ e = esz ∧ e2 = esz ∧ cs.length = len * esz ∧ o2 + l2 * esz ≤ ds.length ∧ AllOne ds ∧ (len + l2) * bytes ≤ 140737488355328) ∧
     ∃ l,l = cs ++ (ds.drop o2).take (l2 * esz) ∧
     K (.sl S.next 0 (len + l2)) { S with heap := upd (upd S.heap n none) S.next (some (.ls (τ && Nat.beq bytes 1) esz l)),next := S.next + 1 }
   | _,_ => False
  | some (.sl n off len),some (.ilist e2 l2 ds) => match S.heap n with
   | some (.ls τ e cs) => (off = 0 ∧ e = esz ∧ e2 = esz ∧ cs.length = len * esz ∧ AllOne ds ∧ NNL ds ∧ (len + l2) * bytes ≤ 140737488355328) ∧
     ∃ l,l = cs ++ ds ∧
     K (.sl S.next 0 (len + l2)) { S with heap := upd (upd S.heap n none) S.next (some (.ls (τ && Nat.beq bytes 1) esz l)),next := S.next + 1 }
   | _ => False
  | some (.sl n off len),some (.str s) => match S.heap n with
   | some (.ls τ e cs) => (off = 0 ∧ e = esz ∧ esz = 1 ∧ cs.length = len * esz ∧ (len + s.length) * bytes ≤ 140737488355328) ∧
     ∃ l,l = cs ++ (s.map fun b => AV.int .u8 b.toNat) ∧
     K (.sl S.next 0 (len + s.length)) { S with heap := upd (upd S.heap n none) S.next (some (.ls (τ && Nat.beq bytes 1) esz l)),next := S.next + 1 }
   | _ => False
  | _,_ => False
 | .mksl esz bytes zs l c => match S.ev l,S.ev c with
  | some (.int _ a),some (.int _ b) => (0 ≤ a ∧ a ≤ b ∧ b * bytes ≤ 281474976710656 ∧ b ≤ 9223372036854775807) ∧
    ∃ cs,cs = repl a.toNat zs ∧ K (.sl S.next 0 a.toNat) { S with heap := upd S.heap S.next (some (.ls false esz cs)),next := S.next + 1 }
  | _,_ => False
 | .extr x i => match S.ev x with
  | some (.tup vs) => ∃ v,vs[i]? = some v ∧ K v S
  | _ => False
 | .mkclo tag caps => match S.evs caps with
  | some vs => K (.clo tag vs) S
  | none => False
 | .pcall C args => match S.evs args with
  | some vs => pcall C vs S K
  | none => False
 | .vcall Γ x args => match S.ev x,S.evs args with
  | some (.clo t caps),some vs => match Γ t with
   | some C => pcall C (vs ++ caps) S K
   | none => False
  | some (.sem R),some vs => ∃ C,R = FnR C ∧ pcall C vs S K
  | _,_ => False
 | .newb zs => K (.ref S.next 0) { S with heap := upd S.heap S.next (some (.cl true zs)),next := S.next + 1 }
 | .pcallF C args => match S.evs args with
  | some vs => pcallF C vs S K
  | none => False
 | .pcallB C args => match S.evs args with
  | some vs => pcallB C vs S K
  | none => False
 | .mkmap one ks => K (.hnd S.next) { S with heap := upd S.heap S.next (some (.opq (mapR ⟨one,ks,noM⟩))),next := S.next + 1 }
 | .mlook one ks z ok x i => match S.ev x,S.ev i with
  | some (.hnd n),some k => match S.heap n with
   | some (.opq R) => ∃ M,R = mapR ⟨one,ks,M⟩ ∧ kOk one ks k ∧ ∃ r : Option AV,(match r with | some v => M k v | none => ∀ v,¬ M k v) ∧
     K (match ok with | true => .tup [r.getD z,.bool r.isSome] | false => r.getD z) S
   | _ => False
  | some (.sem R),some k => ∃ M,R = mapS ⟨one,ks,M⟩ ∧ kOk one ks k ∧ ∃ r : Option AV,(match r with | some v => M k v | none => ∀ v,¬ M k v) ∧
     K (match ok with | true => .tup [r.getD z,.bool r.isSome] | false => r.getD z) S
  | _,_ => False
 | .mput one ks x k v => match S.ev x,S.ev k,S.ev v with
  | some (.hnd n),some k,some v => match S.heap n with
   | some (.opq R) => ∃ M,(R = mapR ⟨one,ks,M⟩ ∧ kOk one ks k ∧ NN v) ∧ K (.raw undef) { S with heap := upd S.heap n (some (.opq (mapR ⟨one,ks,putM M k v⟩))) }
   | _ => False
  | _,_,_ => False
 | .panic => False

/-- An operation, the slot that it writes, and the slot and the bool that decide whether it runs. -/
structure IOp where
 dst : Option Nat
 guard : Option (Nat × Bool)
 io : Ins

def exO (o : IOp) (S : St) (K : St → Prop) : Prop :=
 match o.guard with
 | none => ex1 o.io S (fun r S' => K (S'.set o.dst r))
 | some (g,want) => match S.env g with
  | some (.bool b) => match want with
   | true => cond b (ex1 o.io S (fun r S' => K (S'.set o.dst r))) (K (S.set o.dst (.raw undef)))
   | false => cond b (K (S.set o.dst (.raw undef))) (ex1 o.io S (fun r S' => K (S'.set o.dst r)))
  | some (.raw (.tuple _)) => K (S.set o.dst (.raw undef))
  | _ => False

def exOs : List IOp → St → (St → Prop) → Prop
 | [],S,K => K S
 | o :: r,S,K => exO o S (fun S' => exOs r S' K)

end Qk

/-
  Each operation of the model does what its counterpart of the executor's form says (first part: what makes no call).
-/
namespace Qk
open Go Go.RowKit

/-- The persistent memory has grown, by nothing below B. -/
def PhiTo (B : Nat) (Φ Φ' : Phi) : Prop := PhiLe Φ Φ' ∧ ∀ b o,Φ' b = some o → Φ b = some o ∨ B ≤ b
theorem PhiTo.refl (B : Nat) (Φ : Phi) : PhiTo B Φ Φ := ⟨PhiLe.refl _,fun _ _ e => .inl e⟩
theorem PhiTo.trans {B : Nat} {a b c : Phi} (h : PhiTo B a b) (k : PhiTo B b c) : PhiTo B a c :=
 ⟨h.1.trans k.1,fun x o e => (k.2 x o e).elim (fun e => h.2 x o e) .inr⟩

def OpOk (G : Gl) (o : Oper) (T : St → (AV → St → Prop) → Prop) : Prop :=
 ∀ (B : Nat) (X : Nat → Prop) (w0 : World) (S : St) (K : AV → St → Prop) (a : Act) (w : World) (ρ : Nm) (Φ : Phi) (Q : Exit → Act → World → Prop) (next : Act → World → Prop),
  EnvRel G Φ ρ S.env a → Wf0 G B X w0 ρ Φ S.heap w → ρ S.next = none → T S K →
  (∀ r S' x w' ρ' Φ',K r S' → S'.env = S.env → NmTo S.next S'.next ρ ρ' → PhiTo B Φ Φ' → Wf0 G B X w0 ρ' Φ' S'.heap w' → Rep G Φ' r ρ' x → next (a.put o.dst x) w') →
  o.wp G.P a w next Q

theorem rep_const (G : Gl) (Φ : Phi) (ρ : Nm) (v : Value) : Rep G Φ (AV.ofConst v) ρ v := by
 unfold AV.ofConst
 split <;> simp [Rep]

theorem evRel {G : Gl} {Φ : Phi} {ρ : Nm} {S : St} {a : Act} (h : EnvRel G Φ ρ S.env a) {x : Operand} {v : AV} (hx : S.ev x = some v) : Rep G Φ v ρ (a.eval x) := by
 cases x with
 | tmp t =>
  obtain ⟨y,hy,hr⟩ := h t v hx
  simpa [Act.eval,hy] using hr
 | const c => simp only [St.ev,Option.some.injEq] at hx; subst hx; exact rep_const G Φ ρ c
 | global g => simp [St.ev] at hx
 | func f =>
  simp only [St.ev,Option.some.injEq] at hx
  subst hx
  simp only [Rep]
  exact ⟨#[],by rw [G.tag_fn]; rfl,rfl,by simp [RepAt]⟩

theorem evsRel {G : Gl} {Φ : Phi} {ρ : Nm} {S : St} {a : Act} (h : EnvRel G Φ ρ S.env a) : ∀ {xs : List Operand} {vs : List AV},S.evs xs = some vs →
  vs.length = xs.length ∧ RepAt G Φ vs ρ (xs.toArray.map a.eval) 0 := by
 intro xs
 induction xs with
 | nil => intro vs hv; simp only [St.evs,Option.some.injEq] at hv; subst hv; simp [RepAt]
 | cons x xs ih =>
  intro vs hv
  simp only [St.evs] at hv
  split at hv
  ·cases hv
  ·rename_i v hv0
   split at hv
   ·cases hv
   ·rename_i us hus
    cases hv
    obtain ⟨h1,h2⟩ := ih hus
    refine ⟨by simp [h1],RepAt.mk fun j c hj => ?_⟩
    cases j with
    | zero => simp at hj; subst hj; exact ⟨a.eval x,by simp,evRel h hv0⟩
    | succ j =>
     simp at hj
     obtain ⟨y,hy,hr⟩ := RepAt.get h2 hj
     exact ⟨y,by simpa using hy,hr⟩

section wf
variable {G : Gl} {B : Nat} {X : Nat → Prop} {w0 : World} {ρ : Nm} {Φ : Phi} {H : Nat → Option AO} {nx : Nat} {w : World}

theorem Wf.none_next (h : Wf G B X w0 ρ Φ H nx w) : ρ nx = none := by
 cases e : ρ nx with
 | none => rfl
 | some x => exact absurd (h.dom _ _ e) (by omega)

theorem NmLe.upd (h : ρ nx = none) (hd : Hd) : NmLe ρ (upd ρ nx (some hd)) := by
 intro n x e
 by_cases hn : n = nx
 ·subst hn; rw [h] at e; cases e
 ·rw [upd_ne _ _ hn]; exact e

theorem NmTo.new (h : ρ nx = none) (hd : Hd) : NmTo nx (nx + 1) ρ (Qk.upd ρ nx (some hd)) := by
 refine ⟨NmLe.upd h hd,Nat.le_succ _,fun n x e => ?_⟩
 by_cases hn : n = nx
 ·exact .inr ⟨hn,Nat.lt_succ_self _⟩
 ·rw [upd_ne _ _ hn] at e; exact .inl e

theorem Wf0.sub (h : Wf0 G B X w0 ρ Φ H w) {H' : Nat → Option AO} (hs : ∀ n o,H' n = some o → H n = some o) : Wf0 G B X w0 ρ Φ H' w where
 os := h.os
 tape := h.tape
 output := h.output
 size := h.size
 base := h.base
 frame := h.frame
 phi := h.phi
 gb := h.gb
 objs := fun n o e => h.objs n o (hs n o e)
 disj := fun n m x y hnm h1 h2 => h.disj n m x y hnm
  (fun e => h1 (by cases e1 : H' n with | none => rfl | some o => rw [hs n o e1] at e; cases e))
  (fun e => h2 (by cases e1 : H' m with | none => rfl | some o => rw [hs m o e1] at e; cases e))

theorem Wf.sub (h : Wf G B X w0 ρ Φ H nx w) {H' : Nat → Option AO} (hs : ∀ n o,H' n = some o → H n = some o) : Wf G B X w0 ρ Φ H' nx w := (h.zero.sub hs).up h.dom

/-- The same memory, further along the tape. -/
theorem Wf0.drew (h : Wf0 G B X w0 ρ Φ H w) (d : Nat) : Wf0 G B X w0 ρ Φ H { w with drawn := d } where
 os := h.os
 tape := h.tape
 output := h.output
 size := h.size
 base := h.base
 frame := h.frame
 phi := h.phi
 gb := h.gb
 objs := fun n o e => by
  obtain ⟨hd,h1,h2,h3⟩ := h.objs n o e
  exact ⟨hd,h1,ORep.mono (w := w) (PhiLe.refl _) (NmLe.refl _) h.phi (fun _ _ => rfl) h2,h3⟩
 disj := h.disj

theorem Wf.drew (h : Wf G B X w0 ρ Φ H nx w) (d : Nat) : Wf G B X w0 ρ Φ H nx { w with drawn := d } := (h.zero.drew d).up h.dom

theorem push_get (w : World) (ob : Obj) {k : Nat} (h : k < w.heap.size) : (w.heap.push ob)[k]? = w.heap[k]? := by
 rw [Array.getElem?_push,if_neg (by omega)]

/-- A new block, under the next name. -/
theorem Wf0.push (h : Wf0 G B X w0 ρ Φ H w) (hfr : ρ nx = none) (ob : Obj) (hd : Hd) (o : AO) (hb : hd.b = w.heap.size) (hfp : hd.fp = [hd.b])
  (ho : ORep G Φ (upd ρ nx (some hd)) { w with heap := w.heap.push ob } hd o) :
  Wf0 G B X w0 (upd ρ nx (some hd)) Φ (upd H nx (some o)) { w with heap := w.heap.push ob } where
 os := h.os
 tape := h.tape
 output := h.output
 size := by have := h.size; simp; omega
 base := by have := h.base; simp; omega
 frame := fun k hk hx => by
  have := h.base
  rw [push_get w ob (by omega)]; exact h.frame k hk hx
 gb := h.gb
 phi := fun b o' e => by
  have e1 := h.phi b o' e
  rw [push_get w ob (Array.getElem?_eq_some_iff.1 e1).1]; exact e1
 objs := fun n o' e => by
  by_cases hn : n = nx
  ·subst hn
   rw [upd_same] at e; cases e
   refine ⟨hd,upd_same _ _ _,ho,?_⟩
   intro b hbf
   rw [hfp] at hbf
   simp at hbf
   subst hbf
   refine ⟨.inl (by rw [hb]; exact h.base),?_,by simp [hb]⟩
   cases hp : Φ hd.b with
   | none => rfl
   | some o2 => have := (Array.getElem?_eq_some_iff.1 (h.phi _ _ hp)).1; omega
  ·rw [upd_ne _ _ hn] at e
   obtain ⟨x,h1,h2,h3⟩ := h.objs n o' e
   refine ⟨x,by rw [upd_ne _ _ hn]; exact h1,ORep.mono (PhiLe.refl _) (NmLe.upd hfr hd) ?_ ?_ h2,?_⟩
   ·intro b o2 e2
    have e1 := h.phi b o2 e2
    rw [push_get w ob (Array.getElem?_eq_some_iff.1 e1).1]; exact e1
   ·intro b hb'
    exact push_get w ob (h3 b hb').2.2
   ·intro b hb'
    obtain ⟨h4,h5,h6⟩ := h3 b hb'
    exact ⟨h4,h5,by simp; omega⟩
 disj := fun n m x y hnm h1 h2 e1 e2 => by
  have key : ∀ k z,k ≠ nx → upd H nx (some o) k ≠ none → upd ρ nx (some hd) k = some z → ∀ b ∈ z.fp,b < w.heap.size := by
   intro k z hk hH hz
   rw [upd_ne _ _ hk] at hH hz
   cases e : H k with
   | none => exact absurd e hH
   | some o2 =>
    obtain ⟨z',h3,_,h5⟩ := h.objs k o2 e
    rw [hz] at h3; cases h3
    exact fun b hb => (h5 b hb).2.2
  by_cases hn : n = nx
  ·subst hn
   rw [upd_same] at e1; cases e1
   have := key m y (by omega) h2 e2
   intro b hbf hbg
   rw [hfp] at hbf; simp at hbf; subst hbf
   have := this _ hbg
   omega
  ·by_cases hm : m = nx
   ·subst hm
    rw [upd_same] at e2; cases e2
    have := key n x hn h1 e1
    intro b hbf hbg
    rw [hfp] at hbg; simp at hbg; subst hbg
    have := this _ hbf
    omega
   ·rw [upd_ne _ _ hn] at h1 e1
    rw [upd_ne _ _ hm] at h2 e2
    exact h.disj n m x y hnm h1 h2 e1 e2

/-- The block of a name is written. -/
theorem Wf0.write (h : Wf0 G B X w0 ρ Φ H w) {n : Nat} {hd : Hd} {o old : AO} {w' : World} (hold : H n = some old) (_hkind : o.isLst = old.isLst) (hr : ρ n = some hd)
  (h1 : w'.os = w.os) (h2 : w'.tape = w.tape) (h3 : w'.output = w.output) (h4 : w'.heap.size = w.heap.size)
  (h5 : ∀ k,k ∉ hd.fp → w'.heap[k]? = w.heap[k]?) (ho : ORep G Φ ρ w' hd o) : Wf0 G B X w0 ρ Φ (upd H n (some o)) w' := by
 have hn : H n ≠ none := by rw [hold]; simp
 have hfp : ∀ b ∈ hd.fp,(B ≤ b ∨ X b) ∧ Φ b = none ∧ b < w.heap.size := by
  obtain ⟨z,h6,_,h8⟩ := h.objs n old hold
  rw [hr] at h6; cases h6; exact h8
 have hphi : ∀ b o',Φ b = some o' → w'.heap[b]? = some o' := fun b o' e => by
  rw [h5 b (fun hb => by have := (hfp b hb).2.1; rw [e] at this; cases this)]; exact h.phi b o' e
 refine ⟨h1.trans h.os,h2.trans h.tape,h3.trans h.output,by have := h.size; omega,by have := h.base; omega,?_,hphi,h.gb,?_,?_⟩
 ·intro k hk hx
  rw [h5 k (fun hb => by rcases (hfp k hb).1 with h9 | h9; exact absurd h9 (by omega); exact hx h9)]
  exact h.frame k hk hx
 ·intro m o' e
  by_cases hm : m = n
  ·subst hm
   rw [upd_same] at e; cases e
   exact ⟨hd,hr,ho,fun b hb => by obtain ⟨a1,a2,a3⟩ := hfp b hb; exact ⟨a1,a2,by omega⟩⟩
  ·rw [upd_ne _ _ hm] at e
   obtain ⟨z,h6,h7,h8⟩ := h.objs m o' e
   refine ⟨z,h6,ORep.mono (PhiLe.refl _) (NmLe.refl _) hphi ?_ h7,fun b hb => by obtain ⟨a1,a2,a3⟩ := h8 b hb; exact ⟨a1,a2,by omega⟩⟩
   intro b hb
   refine h5 b fun hb2 => ?_
   exact h.disj n m hd z (fun e1 => hm e1.symm) hn (by rw [e]; simp) hr h6 b hb2 hb
 ·intro i m x y him e1 e2 e3 e4
  refine h.disj i m x y him ?_ ?_ e3 e4
  ·by_cases hi : i = n
   ·subst hi; exact hn
   ·rwa [upd_ne _ _ hi] at e1
  ·by_cases hi : m = n
   ·subst hi; exact hn
   ·rwa [upd_ne _ _ hi] at e2

end wf

/-- An operation that gives a value and leaves the world alone. -/
theorem wp_value {P : Program} {o : Oper} {a : Act} {w : World} {next : Act → World → Prop} {Q : Exit → Act → World → Prop} {v : Value} {w' : World}
  (hr : (execOp a.eval o).run P w = .ok (.value v) w') (h : next (a.put o.dst v) w') : o.wp P a w next Q := by
 unfold Oper.wp
 rw [hr]
 exact h
theorem wp_unit {P : Program} {o : Oper} {a : Act} {w : World} {next : Act → World → Prop} {Q : Exit → Act → World → Prop} {w' : World}
  (hr : (execOp a.eval o).run P w = .ok .skip w') (h : next (a.put o.dst undef) w') : o.wp P a w next Q := by
 unfold Oper.wp
 rw [hr]
 exact h

section ops
variable {G : Gl} {o : Oper}

theorem ok_mov {x : Operand} (ho : o.op = .move x ∨ o.op = .assign x) : OpOk G o (ex1 (.mov x)) := by
 intro B X w0 S K a w ρ Φ Q next he hw hfr hT hK
 simp only [ex1] at hT
 split at hT
 ·rename_i v hv
  exact wp_value (v := a.eval x) (w' := w) (by rcases ho with ho | ho <;> simp [execOp,ho]) (hK v S _ w ρ Φ hT rfl (NmTo.refl _ _) (PhiTo.refl _ _) hw (evRel he hv))
 ·exact hT.elim

theorem ok_pick {c x y : Operand} (ho : o.op = .pick c x y) : OpOk G o (ex1 (.pick c x y)) := by
 intro B X w0 S K a w ρ Φ Q next he hw hfr hT hK
 simp only [ex1] at hT
 split at hT
 case h_2 => exact hT.elim
 rename_i b hb
 have h1 := evRel he hb
 simp only [Rep] at h1
 have hrun : (execOp a.eval o).run G.P w = .ok (.value (if b then a.eval x else a.eval y)) w := by simp [execOp,ho,h1,asBool]
 split at hT
 ·rename_i p q hp hq
  refine wp_value hrun (hK _ S _ w ρ Φ hT rfl (NmTo.refl _ _) (PhiTo.refl _ _) hw ?_)
  have h2 := evRel he hp
  have h3 := evRel he hq
  cases b <;> simpa [Rep] using ‹_›
 ·cases b with
  | true =>
   simp only [cond] at hT
   split at hT
   ·rename_i v hv
    exact wp_value hrun (hK v S _ w ρ Φ hT rfl (NmTo.refl _ _) (PhiTo.refl _ _) hw (by simpa using evRel he hv))
   ·exact hT.elim
  | false =>
   simp only [cond] at hT
   split at hT
   ·rename_i v hv
    exact wp_value hrun (hK v S _ w ρ Φ hT rfl (NmTo.refl _ _) (PhiTo.refl _ _) hw (by simpa using evRel he hv))
   ·exact hT.elim

end ops

end Qk

/-
  Each operation of the model does what its counterpart says: values.
-/
namespace Qk
open Go Go.RowKit

theorem sgn_wrap {k : IntKind} {x : Int} {K : AV → Prop} (h : sgn k x K) : K (.int k (k.wrap x)) := by
 cases k <;> simp only [sgn] at h
 case i64 => have e : IntKind.i64.wrap x = x := by simp [IntKind.wrap,IntKind.bits,IntKind.signed]; omega
             rw [e]; exact h.2
 case i32 => have e : IntKind.i32.wrap x = x := by simp [IntKind.wrap,IntKind.bits,IntKind.signed]; omega
             rw [e]; exact h.2
 case i16 => have e : IntKind.i16.wrap x = x := by simp [IntKind.wrap,IntKind.bits,IntKind.signed]; omega
             rw [e]; exact h.2
 case i8 => have e : IntKind.i8.wrap x = x := by simp [IntKind.wrap,IntKind.bits,IntKind.signed]; omega
            rw [e]; exact h.2
 all_goals simpa [IntKind.wrap,IntKind.bits,IntKind.signed] using h

theorem kindEq_eq {j k : IntKind} (h : kindEq j k = true) : j = k := by cases j <;> cases k <;> first | rfl | (simp [kindEq] at h)

theorem arith_ok {P : Program} {op : BinOp} {k j : IntKind} {a b : Int} {t : TypeId} {K : AV → Prop} (h : arith op k a b K) (hk : (isShift op || kindEq k j) = true) :
  ∃ v r,(∀ w,(binOp op t (.int k a) (.int j b)).run P w = .ok v w) ∧ K r ∧ ∀ G Φ ρ,Rep G Φ r ρ v := by
 have hq : isShift op = false → k = j := fun e => kindEq_eq (by simpa [e] using hk)
 cases op <;> simp only [arith] at h
 case shl => exact ⟨_,_,fun w => by simp [binOp,Op.shift,Int.not_lt.2 h.1]; rfl,h.2,fun G Φ ρ => by simp [Rep,shlI]⟩
 case shr => exact ⟨_,_,fun w => by simp [binOp,Op.shift,Int.not_lt.2 h.1]; rfl,h.2,fun G Φ ρ => by simp [Rep,shrI]⟩
 all_goals
  have e := hq rfl
  subst e
 case add => exact ⟨_,_,fun w => by simp [binOp,Op.intArith]; rfl,sgn_wrap h,fun G Φ ρ => by simp [Rep]⟩
 case sub => exact ⟨_,_,fun w => by simp [binOp,Op.intArith]; rfl,sgn_wrap h,fun G Φ ρ => by simp [Rep]⟩
 case mul => exact ⟨_,_,fun w => by simp [binOp,Op.intArith]; rfl,sgn_wrap h,fun G Φ ρ => by simp [Rep]⟩
 case quo => exact ⟨_,_,fun w => by simp [binOp,Op.intDiv,h.1]; rfl,sgn_wrap h.2,fun G Φ ρ => by simp [Rep]⟩
 case rem => exact ⟨_,_,fun w => by simp [binOp,Op.intDiv,h.1]; rfl,h.2,fun G Φ ρ => by simp [Rep]⟩
 case and => exact ⟨_,_,fun w => by simp [binOp,Op.intBits]; rfl,h,fun G Φ ρ => by simp [Rep,andI]⟩
 case or => exact ⟨_,_,fun w => by simp [binOp,Op.intBits]; rfl,h,fun G Φ ρ => by simp [Rep,orI]⟩
 case xor => exact ⟨_,_,fun w => by simp [binOp,Op.intBits]; rfl,h,fun G Φ ρ => by simp [Rep,xorI]⟩
 case andNot => exact ⟨_,_,fun w => by simp [binOp,Op.intBits]; rfl,h,fun G Φ ρ => by simp [Rep,andNotI]⟩
 case eql => exact ⟨.bool (a == b),_,fun w => by simp [binOp,Op.intCmp],h,fun G Φ ρ => by simp [Rep]; rfl⟩
 case neq => exact ⟨.bool (a != b),_,fun w => by simp [binOp,Op.intCmp],h,fun G Φ ρ => by simp [Rep]; rfl⟩
 case lss => exact ⟨.bool (decide (a < b)),_,fun w => by simp [binOp,Op.intCmp],h,fun G Φ ρ => by simp [Rep]⟩
 case leq => exact ⟨.bool (decide (a ≤ b)),_,fun w => by simp [binOp,Op.intCmp],h,fun G Φ ρ => by simp [Rep]⟩
 case gtr => exact ⟨.bool (decide (a > b)),_,fun w => by simp [binOp,Op.intCmp],h,fun G Φ ρ => by simp [Rep]⟩
 case geq => exact ⟨.bool (decide (a ≥ b)),_,fun w => by simp [binOp,Op.intCmp],h,fun G Φ ρ => by simp [Rep]⟩

theorem str_append (a b : List UInt8) : (⟨a.toArray⟩ : ByteArray) ++ ⟨b.toArray⟩ = ⟨(a ++ b).toArray⟩ := by
 apply ByteArray.ext
 simp

theorem str_toList (a : List UInt8) : (⟨a.toArray⟩ : ByteArray).toList = a := ByteArray.toList_mk a

theorem list_beq (a b : List UInt8) : (a == b) = decide (a = b) := by rw [Bool.eq_iff_iff]; simp

theorem strOp_ok {P : Program} {op : BinOp} {a b : List UInt8} {t : TypeId} {K : AV → Prop} (h : strOp op a b K) :
  ∃ v r,(∀ w,(binOp op t (.string ⟨a.toArray⟩) (.string ⟨b.toArray⟩)).run P w = .ok v w) ∧ K r ∧ ∀ G Φ ρ,Rep G Φ r ρ v := by
 cases op <;> simp only [strOp] at h
 case add =>
  refine ⟨.string ⟨(a ++ b).toArray⟩,_,fun w => ?_,h.2,fun G Φ ρ => by simp [Rep]⟩
  have h1 := h.1
  have e : ((⟨a.toArray⟩ : ByteArray).size + (⟨b.toArray⟩ : ByteArray).size : Nat) = a.length + b.length := by simp [ByteArray.size]
  simp only [binOp,Op.stringOp,e,str_append]
  have : ¬ ((a.length + b.length : Nat) : Int) > IntKind.i64.max := by simp [IntKind.max,IntKind.signed,IntKind.bits]; omega
  simp only [if_neg this]; rfl
 case eql => exact ⟨.bool (decide (a = b)),_,fun w => by simp only [binOp,Op.stringOp,str_toList,list_beq]; simp,h,fun G Φ ρ => by simp [Rep]⟩
 case neq => exact ⟨.bool (!decide (a = b)),_,fun w => by simp only [binOp,Op.stringOp,str_toList,list_beq]; simp,h,fun G Φ ρ => by simp [Rep]⟩
 case lss => exact ⟨.bool (Op.bytesLess a b),_,fun w => by simp only [binOp,Op.stringOp,str_toList]; simp,h,fun G Φ ρ => by simp [Rep]⟩
 all_goals exact h.elim

section ops
variable {G : Gl} {o : Oper}

theorem ok_bin {op : BinOp} {t ty : TypeId} {x y : Operand} (ho : o.op = .binOp op t x y ty) : OpOk G o (ex1 (.bin op x y)) := by
 intro B X w0 S K a w ρ Φ Q next he hw hfr hT hK
 simp only [ex1] at hT
 split at hT
 case h_1 =>
  rename_i k p j q hx hy
  have h1 := evRel he hx
  have h2 := evRel he hy
  simp only [Rep] at h1 h2
  split at hT
  case h_2 => exact hT.elim
  rename_i hk
  obtain ⟨v,r,hr,hKr,hrep⟩ := arith_ok (P := G.P) (t := t) hT hk
  refine wp_value (v := v) (w' := w) ?_ (hK r S v w ρ Φ hKr rfl (NmTo.refl _ _) (PhiTo.refl _ _) hw (hrep G Φ ρ))
  simp [execOp,ho,h1,h2,eqGuard,hr]
 case h_2 =>
  rename_i p q hx hy
  have h1 := evRel he hx
  have h2 := evRel he hy
  simp only [Rep] at h1 h2
  obtain ⟨v,r,hr,hKr,hrep⟩ := strOp_ok (P := G.P) (t := t) hT
  refine wp_value (v := v) (w' := w) ?_ (hK r S v w ρ Φ hKr rfl (NmTo.refl _ _) (PhiTo.refl _ _) hw (hrep G Φ ρ))
  simp [execOp,ho,h1,h2,eqGuard,hr]
 case h_3 => exact hT.elim

theorem ok_neg {t : TypeId} {x : Operand} (ho : o.op = .unOp .neg t x) : OpOk G o (ex1 (.neg x)) := by
 intro B X w0 S K a w ρ Φ Q next he hw hfr hT hK
 simp only [ex1] at hT
 split at hT
 case h_2 => exact hT.elim
 rename_i k p hx
 have h1 := evRel he hx
 simp only [Rep] at h1
 refine wp_value (v := .int k (k.wrap (0 - p))) (w' := w) (by simp [execOp,ho,h1,Op.unary,Op.intArith]) (hK _ S _ w ρ Φ (sgn_wrap hT) rfl (NmTo.refl _ _) (PhiTo.refl _ _) hw (by simp [Rep]))

theorem ok_cpl {t : TypeId} {x : Operand} (ho : o.op = .unOp .xor t x) : OpOk G o (ex1 (.cpl x)) := by
 intro B X w0 S K a w ρ Φ Q next he hw hfr hT hK
 simp only [ex1] at hT
 split at hT
 case h_2 => exact hT.elim
 rename_i k p hx
 have h1 := evRel he hx
 simp only [Rep] at h1
 exact wp_value (v := .int k (xorI k (if k.signed then -1 else k.max) p)) (w' := w) (by simp [execOp,ho,h1,Op.unary,Op.intBits,xorI]) (hK _ S _ w ρ Φ hT rfl (NmTo.refl _ _) (PhiTo.refl _ _) hw (by simp [Rep]))

theorem ok_not {t : TypeId} {x : Operand} (ho : o.op = .unOp .not t x) : OpOk G o (ex1 (.not x)) := by
 intro B X w0 S K a w ρ Φ Q next he hw hfr hT hK
 simp only [ex1] at hT
 split at hT
 case h_2 => exact hT.elim
 rename_i b hx
 have h1 := evRel he hx
 simp only [Rep] at h1
 exact wp_value (v := .bool (!b)) (w' := w) (by simp [execOp,ho,h1,Op.unary]) (hK _ S _ w ρ Φ hT rfl (NmTo.refl _ _) (PhiTo.refl _ _) hw (by simp [Rep]))

theorem ok_conv {src dst : TypeId} {k : IntKind} {x : Operand} (ho : o.op = .convert src dst x) (hs : (G.P.underlying src).isSome = true) (hd : G.P.underlying dst = some (.int k)) : OpOk G o (ex1 (.conv k x)) := by
 intro B X w0 S K a w ρ Φ Q next he hw hfr hT hK
 simp only [ex1] at hT
 split at hT
 case h_2 => exact hT.elim
 rename_i j p hx
 have h1 := evRel he hx
 simp only [Rep] at h1
 obtain ⟨d,hd'⟩ := Option.isSome_iff_exists.1 hs
 refine wp_value (v := .int k (k.wrap p)) (w' := w) ?_ (hK _ S _ w ρ Φ (sgn_wrap hT) rfl (NmTo.refl _ _) (PhiTo.refl _ _) hw (by simp [Rep]))
 simp [execOp,ho,h1,convert,run_underlying hd',run_underlying hd,Conv.intToInt]

theorem ok_lenS {x : Operand} {t : TypeId} (ho : o.op = .call { callee := .builtin .len,args := #[x],argTypes := #[t] })
  (ht : G.P.underlying t = some .string) : OpOk G o (ex1 (.lenS x)) := by
 intro B X w0 S K a w ρ Φ Q next he hw hfr hT hK
 simp only [ex1] at hT
 split at hT
 case h_2 => exact hT.elim
 rename_i l hx
 have h1 := evRel he hx
 simp only [Rep] at h1
 refine wp_value (v := goInt l.length) (w' := w) ?_ (hK _ S _ w ρ Φ hT rfl (NmTo.refl _ _) (PhiTo.refl _ _) hw (by simp [Rep,goInt]))
 have e : (⟨l.toArray⟩ : ByteArray).size = l.length := by simp [ByteArray.size]
 simp [execOp,ho,resolve,invoke,builtin,Builtin.len_,run_underlying ht,h1, -ByteArray.size_data,e]

theorem slLen {G : Gl} {Φ : Phi} {ρ : Nm} {n off len : Nat} {v : Value} (h : Rep G Φ (.sl n off len) ρ v) : ∃ a c,v = .slice a len c := by
 simp only [Rep] at h
 obtain ⟨hd,_,h2 | h2⟩ := h
 ·exact ⟨none,0,by rw [h2.2.2.1]; exact h2.2.2.2⟩
 ·rcases h2.2.2 with h3 | ⟨_,h3,a,c,h4⟩
  ·exact ⟨_,_,h3⟩
  ·exact ⟨_,_,by rw [h3]; exact h4⟩

theorem ok_lenL {x : Operand} {t e : TypeId} (ho : o.op = .call { callee := .builtin .len,args := #[x],argTypes := #[t] })
  (ht : G.P.underlying t = some (.slice e)) : OpOk G o (ex1 (.lenL x)) := by
 intro B X w0 S K a w ρ Φ Q next he hw hfr hT hK
 have run : ∀ (p : Option Addr) (n c : Nat),a.eval x = .slice p n c → (execOp a.eval o).run G.P w = .ok (.value (goInt n)) w := by
  intro p n c h
  simp [execOp,ho,resolve,invoke,builtin,Builtin.len_,run_underlying ht,h]
 simp only [ex1] at hT
 split at hT
 case h_1 =>
  rename_i n off len hx
  obtain ⟨p,c,h1⟩ := slLen (evRel he hx)
  exact wp_value (run _ _ _ h1) (hK _ S _ w ρ Φ hT rfl (NmTo.refl _ _) (PhiTo.refl _ _) hw (by simp [Rep,goInt]))
 case h_2 =>
  rename_i n off len esz hx
  have h1 := evRel he hx
  simp only [Rep] at h1
  obtain ⟨_,p,c,_,_,h1,_⟩ := h1
  exact wp_value (run _ _ _ h1) (hK _ S _ w ρ Φ hT rfl (NmTo.refl _ _) (PhiTo.refl _ _) hw (by simp [Rep,goInt]))
 case h_3 =>
  rename_i e2 len cs hx
  have h1 := evRel he hx
  simp only [Rep] at h1
  obtain ⟨_,p,c,_,h1,_⟩ := h1
  exact wp_value (run _ _ _ h1) (hK _ S _ w ρ Φ hT rfl (NmTo.refl _ _) (PhiTo.refl _ _) hw (by simp [Rep,goInt]))
 case h_4 =>
  rename_i p n c hx
  have h1 := evRel he hx
  simp only [Rep] at h1
  exact wp_value (run _ _ _ h1) (hK _ S _ w ρ Φ hT rfl (NmTo.refl _ _) (PhiTo.refl _ _) hw (by simp [Rep,goInt]))
 case h_5 => exact hT.elim

theorem ok_lenA {x : Operand} {t : TypeId} {n : Nat} {e : TypeId} (ho : o.op = .call { callee := .builtin .len,args := #[x],argTypes := #[t] })
  (ht : G.P.underlying t = some (.array n e)) : OpOk G o (ex1 (.lenA n)) := by
 intro B X w0 S K a w ρ Φ Q next he hw hfr hT hK
 simp only [ex1] at hT
 refine wp_value (v := goInt n) (w' := w) ?_ (hK _ S _ w ρ Φ hT rfl (NmTo.refl _ _) (PhiTo.refl _ _) hw (by simp [Rep,goInt]))
 cases hx : a.eval x <;> simp [execOp,ho,resolve,invoke,builtin,Builtin.len_,run_underlying ht]

theorem ok_nilck {x : Operand} (ho : o.op = .nilCheck x) : OpOk G o (ex1 (.nilck x)) := by
 intro B X w0 S K a w ρ Φ Q next he hw hfr hT hK
 simp only [ex1] at hT
 split at hT
 case h_1 =>
  rename_i n off hx
  have h0 := evRel he hx
  have h1 := h0
  simp only [Rep] at h1
  obtain ⟨hd,_,h1⟩ := h1
  exact wp_value (v := a.eval x) (w' := w) (by simp [execOp,ho,h1]) (hK _ S _ w ρ Φ hT rfl (NmTo.refl _ _) (PhiTo.refl _ _) hw h0)
 case h_2 =>
  rename_i cs off hx
  have h0 := evRel he hx
  have h1 := h0
  simp only [Rep] at h1
  obtain ⟨b,base,C,ty,fr,h1,_⟩ := h1
  exact wp_value (v := a.eval x) (w' := w) (by simp [execOp,ho,h1]) (hK _ S _ w ρ Φ hT rfl (NmTo.refl _ _) (PhiTo.refl _ _) hw h0)
 case h_3 =>
  rename_i t cs hx
  have h0 := evRel he hx
  have h1 := h0
  simp only [Rep] at h1
  obtain ⟨A,h1,_⟩ := h1
  exact wp_value (v := a.eval x) (w' := w) (by simp [execOp,ho,h1]) (hK _ S _ w ρ Φ hT rfl (NmTo.refl _ _) (PhiTo.refl _ _) hw h0)
 case h_4 => exact hT.elim

theorem str_get (l : List UInt8) (i : Nat) : (⟨l.toArray⟩ : ByteArray)[i]? = l[i]? := by
 by_cases h : i < l.length
 ·rw [List.getElem?_eq_getElem h]
  have h' : i < (⟨l.toArray⟩ : ByteArray).size := by simp [ByteArray.size]; exact h
  rw [getElem?_pos (⟨l.toArray⟩ : ByteArray) i h']
  rfl
 ·rw [List.getElem?_eq_none (by omega)]
  exact getElem?_neg (⟨l.toArray⟩ : ByteArray) i (by simp [ByteArray.size]; omega)

theorem ok_idxS {t : TypeId} {x i : Operand} (ho : o.op = .index t x i) (ht : G.P.underlying t = some .string) : OpOk G o (ex1 (.idxS x i)) := by
 intro B X w0 S K a w ρ Φ Q next he hw hfr hT hK
 simp only [ex1] at hT
 split at hT
 case h_2 => exact hT.elim
 rename_i l k j hx hi
 have h1 := evRel he hx
 have h2 := evRel he hi
 simp only [Rep] at h1 h2
 obtain ⟨⟨h3,h4⟩,hT⟩ := hT
 have hj : j.toNat < l.length := by omega
 refine wp_value (v := .int .u8 (l.getD j.toNat 0).toNat) (w' := w) ?_ (hK _ S _ w ρ Φ hT rfl (NmTo.refl _ _) (PhiTo.refl _ _) hw (by simp [Rep]))
 simp [execOp,ho,Instr.index,h1,h2,asIntOf,run_underlying ht,h3,str_get,List.getElem?_eq_getElem hj,List.getD]

theorem rep_isOne {G : Gl} {Φ : Phi} {ρ : Nm} {a : AV} {v : Value} (h : Rep G Φ a ρ v) (h1 : a.isOne = true) : v.oneCell' = true := by
 cases a <;> simp only [Rep] at h
 case int => subst h; rfl
 case bool => subst h; rfl
 case str => subst h; rfl
 case raw => subst h; exact h1
 case ref => obtain ⟨_,_,h⟩ := h; subst h; rfl
 case sl =>
  obtain ⟨hd,_,h2 | h2⟩ := h
  ·rw [h2.2.2.2]; rfl
  ·rcases h2.2.2 with h3 | ⟨_,h3,a,c,h4⟩
   ·rw [h3]; rfl
   ·rw [h4]; rfl
 case vw => obtain ⟨_,_,_,_,_,h,_⟩ := h; rw [h]; rfl
 case hnd => obtain ⟨_,_,_,h⟩ := h; exact h
 case ilist => obtain ⟨_,_,_,_,h,_⟩ := h; rw [h]; rfl
 case iref => obtain ⟨_,_,_,_,_,h,_⟩ := h; rw [h]; rfl
 case sem => exact h.1
 case agg => simp [AV.isOne] at h1
 case tup => simp [AV.isOne] at h1
 case clo => obtain ⟨_,h,_⟩ := h; rw [h]; rfl

/-- A part of a row of cells. -/
theorem RepAt.extract {G : Gl} {Φ : Phi} {ρ : Nm} {cs : List AV} {A : Array Value} (h : RepAt G Φ cs ρ A 0) (hs : cs.length ≤ A.size) (off sz : Nat) (hl : off + sz ≤ cs.length) :
  (A.extract off (off + sz)).size = sz ∧ RepAt G Φ ((cs.drop off).take sz) ρ (A.extract off (off + sz)) 0 := by
 have h1 : (A.extract off (off + sz)).size = sz := by simp; omega
 refine ⟨h1,RepAt.mk fun j c hj => ?_⟩
 rw [List.getElem?_take] at hj
 split at hj
 case isFalse => cases hj
 rename_i hlt
 rw [List.getElem?_drop] at hj
 obtain ⟨x,hx,hr⟩ := RepAt.get h hj
 refine ⟨x,?_,hr⟩
 rw [Nat.zero_add] at hx ⊢
 rw [Array.getElem?_extract_of_lt (by omega)]
 rw [← hx,Array.getElem?_eq_getElem (by omega)]

theorem RepAt.sub {G : Gl} {Φ : Phi} {ρ : Nm} {cs : List AV} {A : Array Value} {i : Nat} (h : RepAt G Φ cs ρ A i) (off sz : Nat) :
  RepAt G Φ ((cs.drop off).take sz) ρ A (i + off) := by
 refine RepAt.mk fun j c hj => ?_
 rw [List.getElem?_take] at hj
 split at hj
 case isFalse => cases hj
 rw [List.getElem?_drop] at hj
 obtain ⟨x,hx,hr⟩ := RepAt.get h hj
 exact ⟨x,by rw [← hx]; congr 1; omega,hr⟩

def aggOf : TypeDesc → Bool
 | .struct _ => true
 | .array _ _ => true
 | _ => false

theorem run_isAgg {P : Program} {t : TypeId} {d : TypeDesc} (h : P.underlying t = some d) (w : World) :
  (isAgg t).run P w = .ok (aggOf d) w := by
 cases d <;> simp [isAgg,run_underlying h,aggOf]

/-- What the type t is in cells: an aggregate of sz cells, or one cell. -/
def TyIs (P : Program) (t : TypeId) (agg : Bool) (sz : Nat) : Prop :=
 ∃ d i,P.underlying t = some d ∧ P.info? t = some i ∧ i.size = sz ∧ aggOf d = agg ∧ (agg = false → sz = 1)

theorem part_ok {P : Program} {t : TypeId} {agg : Bool} {sz : Nat} (ht : TyIs P t agg sz) (A : Array Value) (off : Nat) (w : World) :
  (part t A off).run P w = match agg with
   | true => .ok (.agg (A.extract off (off + sz))) w
   | false => match A[off]? with
    | some v => .ok v w
    | none => (part t A off).run P w := by
 obtain ⟨d,i,h1,h2,h3,h4,h5⟩ := ht
 cases agg
 ·simp only [part,Sem.run_bind,run_isAgg h1,h4,Result.andThen_ok]
  simp
  cases A[off]? <;> simp
 ·simp only [part,Sem.run_bind,run_isAgg h1,h4,Result.andThen_ok]
  simp [Go.sizeOf,typeInfo,h2,h3]

theorem ok_fldV {t ft : TypeId} {x : Operand} {f : Nat} {fs : Array Field} {fd : Field} {agg : Bool} {sz : Nat} (ho : o.op = .field t x f) (ht : G.P.underlying t = some (.struct fs)) (hf : fs[f]? = some fd)
  (hft : fd.type = ft) (hty : TyIs G.P ft agg sz) : OpOk G o (ex1 (.fldV fd.offset sz agg x)) := by
 intro B X w0 S K a w ρ Φ Q next he hw hfr hT hK
 simp only [ex1] at hT
 split at hT
 case h_2 => exact hT.elim
 rename_i cs hx
 have h1 := evRel he hx
 simp only [Rep] at h1
 obtain ⟨A,h1,h2,h3⟩ := h1
 have run : (execOp a.eval o).run G.P w = ((part ft A fd.offset).run G.P w).andThen fun v w => .ok (.value v) w := by
  simp [execOp,ho,Instr.field,run_underlying ht,hf,hft,h1,asAgg]
 rw [part_ok hty] at run
 cases agg
 ·obtain ⟨v,hv,hT⟩ := hT
  obtain ⟨y,hy,hr⟩ := RepAt.get h3 hv
  rw [Nat.zero_add] at hy
  simp only [hy,Result.andThen_ok] at run
  exact wp_value run (hK _ S _ w ρ Φ hT rfl (NmTo.refl _ _) (PhiTo.refl _ _) hw hr)
 ·obtain ⟨l,⟨hl,hlen⟩,hT⟩ := hT
  simp only [Result.andThen_ok] at run
  subst hl
  have hb : fd.offset + sz ≤ cs.length ∨ sz = 0 := by
   simp at hlen
   omega
  rcases hb with hb | hb
  ·obtain ⟨e1,e2⟩ := RepAt.extract h3 (by omega) fd.offset sz hb
   refine wp_value run (hK _ S _ w ρ Φ hT rfl (NmTo.refl _ _) (PhiTo.refl _ _) hw ?_)
   simp only [Rep]
   exact ⟨_,rfl,by rw [e1,hlen],e2⟩
  ·subst hb
   refine wp_value run (hK _ S _ w ρ Φ hT rfl (NmTo.refl _ _) (PhiTo.refl _ _) hw ?_)
   simp only [Rep]
   refine ⟨_,rfl,?_,by simp [RepAt]⟩
   simp
   omega

theorem ok_idxV {t et : TypeId} {x i : Operand} {n : Nat} {agg : Bool} {esz : Nat} (ho : o.op = .index t x i) (ht : G.P.underlying t = some (.array n et))
  (hty : TyIs G.P et agg esz) : OpOk G o (ex1 (.idxV n esz agg x i)) := by
 intro B X w0 S K a w ρ Φ Q next he hw hfr hT hK
 simp only [ex1] at hT
 split at hT
 case h_2 => exact hT.elim
 rename_i cs k j hx hi
 have h1 := evRel he hx
 have hi1 := evRel he hi
 simp only [Rep] at h1 hi1
 obtain ⟨A,h1,h2,h3⟩ := h1
 obtain ⟨⟨h4,h5⟩,hT⟩ := hT
 obtain ⟨d,inf,e1,e2,e3,e4⟩ := hty
 have run : (execOp a.eval o).run G.P w = ((part et A (j.toNat * esz)).run G.P w).andThen fun v w => .ok (.value v) w := by
  simp [execOp,ho,Instr.index,run_underlying ht,h1,hi1,asIntOf,h4,h5,Go.sizeOf,typeInfo,e2,e3]
 rw [part_ok ⟨d,inf,e1,e2,e3,e4⟩] at run
 cases agg
 ·obtain ⟨v,hv,hT⟩ := hT
  obtain ⟨y,hy,hr⟩ := RepAt.get h3 hv
  rw [Nat.zero_add] at hy
  simp only [hy,Result.andThen_ok] at run
  exact wp_value run (hK _ S _ w ρ Φ hT rfl (NmTo.refl _ _) (PhiTo.refl _ _) hw hr)
 ·obtain ⟨l,⟨hl,hlen⟩,hT⟩ := hT
  simp only [Result.andThen_ok] at run
  subst hl
  have hb : j.toNat * esz + esz ≤ cs.length ∨ esz = 0 := by
   simp at hlen
   omega
  rcases hb with hb | hb
  ·obtain ⟨f1,f2⟩ := RepAt.extract h3 (by omega) (j.toNat * esz) esz hb
   refine wp_value run (hK _ S _ w ρ Φ hT rfl (NmTo.refl _ _) (PhiTo.refl _ _) hw ?_)
   simp only [Rep]
   exact ⟨_,rfl,by rw [f1,hlen],f2⟩
  ·subst hb
   refine wp_value run (hK _ S _ w ρ Φ hT rfl (NmTo.refl _ _) (PhiTo.refl _ _) hw ?_)
   simp only [Rep]
   refine ⟨_,rfl,?_,by simp [RepAt]⟩
   simp

theorem ok_extr {x : Operand} {i : Nat} (ho : o.op = .extract x i) : OpOk G o (ex1 (.extr x i)) := by
 intro B X w0 S K a w ρ Φ Q next he hw hfr hT hK
 simp only [ex1] at hT
 split at hT
 case h_2 => exact hT.elim
 rename_i cs hx
 have h1 := evRel he hx
 simp only [Rep] at h1
 obtain ⟨A,h1,h2,h3⟩ := h1
 obtain ⟨v,hv,hT⟩ := hT
 obtain ⟨y,hy,hr⟩ := RepAt.get h3 hv
 rw [Nat.zero_add] at hy
 exact wp_value (v := y) (w' := w) (by simp [execOp,ho,Instr.extract,h1,hy]) (hK _ S _ w ρ Φ hT rfl (NmTo.refl _ _) (PhiTo.refl _ _) hw hr)

theorem ok_mkclo {tag : Nat} {caps : List Operand} (ho : o.op = .makeFunc (.func (G.tag tag)) #[] caps.toArray) : OpOk G o (ex1 (.mkclo tag caps)) := by
 intro B X w0 S K a w ρ Φ Q next he hw hfr hT hK
 simp only [ex1] at hT
 split at hT
 case h_2 => exact hT.elim
 rename_i vs hx
 obtain ⟨h1,h2⟩ := evsRel he hx
 refine wp_value (v := .func (.func (G.tag tag)) #[] (caps.toArray.map a.eval)) (w' := w) (by simp [execOp,ho,Instr.makeFunc]) (hK _ S _ w ρ Φ hT rfl (NmTo.refl _ _) (PhiTo.refl _ _) hw ?_)
 simp only [Rep]
 exact ⟨_,rfl,by simp [h1],h2⟩

end ops
end Qk

/-
  Each operation of the model does what its counterpart says: memory.
-/
namespace Qk
open Go Go.RowKit

section new
variable {G : Gl} {B : Nat} {X : Nat → Prop} {w0 : World} {ρ : Nm} {Φ : Phi} {H : Nat → Option AO} {nx : Nat} {w : World}

theorem Wf0.newCells (h : Wf0 G B X w0 ρ Φ H w) (hfr : ρ nx = none) (C : Array Value) (ty : TypeId) (cs : List AV) (hs : C.size = cs.length) (hr : RepAt G Φ cs ρ C 0) (τ : Bool := false) (hτ : τ = true → ty = G.bT := by intro e; cases e) :
  ∃ ρ',NmTo nx (nx + 1) ρ ρ' ∧ Wf0 G B X w0 ρ' Φ (upd H nx (some (.cl τ cs))) { w with heap := w.heap.push (.cells C ty) } ∧
   Rep G Φ (.ref nx 0) ρ' (.pointer (some ⟨w.heap.size,0,none⟩)) := by
 let hd : Hd := ⟨w.heap.size,0,0,false,undef,[w.heap.size]⟩
 have hle := NmLe.upd hfr hd
 refine ⟨upd ρ nx (some hd),NmTo.new hfr hd,Wf0.push h hfr _ hd _ rfl rfl ?_,?_⟩
 ·refine ⟨⟨rfl,C,ty,(0,0),by simp [hd],hs,fun i _ => by simp,RepAt.mono (PhiLe.refl _) _ hle hr⟩,fun e => ⟨C,by rw [← hτ e]; simp [hd]⟩⟩
 ·simp only [Rep]
  exact ⟨hd,upd_same _ _ _,rfl⟩

theorem Wf0.newLst (h : Wf0 G B X w0 ρ Φ H w) (hfr : ρ nx = none) (C : Array Value) (ty : TypeId) (fr : Nat × Nat) (cs : List AV) (esz cap n : Nat) (hs : C.size = cap * esz) (hc : cs.length ≤ C.size) (hn : n ≤ cap)
  (hf : unfrozen fr C.size) (hr : RepAt G Φ cs ρ C 0) (τ : Bool := false) (hτ : τ = true → ty = G.bt := by intro e; cases e) :
  ∃ ρ',NmTo nx (nx + 1) ρ ρ' ∧ Wf0 G B X w0 ρ' Φ (upd H nx (some (.ls τ esz cs))) { w with heap := w.heap.push (.cells C ty fr) } ∧
   Rep G Φ (.sl nx 0 n) ρ' (.slice (some ⟨w.heap.size,0,none⟩) n cap) := by
 let hd : Hd := ⟨w.heap.size,esz,cap,false,undef,[w.heap.size]⟩
 have hle := NmLe.upd hfr hd
 refine ⟨upd ρ nx (some hd),NmTo.new hfr hd,Wf0.push h hfr _ hd _ rfl rfl ?_,?_⟩
 ·exact ⟨⟨rfl,.inr ⟨rfl,rfl,C,ty,fr,by simp [hd],hs,hc,hf,RepAt.mono (PhiLe.refl _) _ hle hr⟩⟩,fun e _ => ⟨C,fr,by rw [← hτ e]; simp [hd]⟩⟩
 ·simp only [Rep]
  exact ⟨hd,upd_same _ _ _,.inr ⟨rfl,by simp [hd]; exact hn,.inl (by simp [hd])⟩⟩

/-- The block behind a name. -/
theorem Wf0.cellsAt (h : Wf0 G B X w0 ρ Φ H w) {n : Nat} {τ : Bool} {cs : List AV} {hd : Hd} (hn : H n = some (.cl τ cs)) (hr : ρ n = some hd) :
  hd.fp = [hd.b] ∧ ∃ C ty fr,w.heap[hd.b]? = some (.cells C ty fr) ∧ C.size = cs.length ∧ unfrozen fr C.size ∧ RepAt G Φ cs ρ C 0 := by
 obtain ⟨x,h1,h2,_⟩ := h.objs n _ hn
 rw [hr] at h1; cases h1
 exact h2.1
theorem Wf0.tyAt (h : Wf0 G B X w0 ρ Φ H w) {n : Nat} {τ : Bool} {cs : List AV} {hd : Hd} (hn : H n = some (.cl τ cs)) (hr : ρ n = some hd) : TyC τ G.bT w hd := by
 obtain ⟨x,h1,h2,_⟩ := h.objs n _ hn
 rw [hr] at h1; cases h1
 exact h2.2
theorem Wf0.tyLst (h : Wf0 G B X w0 ρ Φ H w) {n : Nat} {τ : Bool} {cs : List AV} {esz : Nat} {hd : Hd} (hn : H n = some (.ls τ esz cs)) (hr : ρ n = some hd) : TyIf τ G.bt w hd := by
 obtain ⟨x,h1,h2,_⟩ := h.objs n _ hn
 rw [hr] at h1; cases h1
 exact h2.2
theorem Wf0.lstAt (h : Wf0 G B X w0 ρ Φ H w) {n : Nat} {τ : Bool} {cs : List AV} {esz : Nat} {hd : Hd} (hn : H n = some (.ls τ esz cs)) (hr : ρ n = some hd) :
  hd.esz = esz ∧ ((hd.isnil = true ∧ cs = [] ∧ hd.fp = []) ∨
   (hd.isnil = false ∧ hd.fp = [hd.b] ∧ ∃ C ty fr,w.heap[hd.b]? = some (.cells C ty fr) ∧ C.size = hd.cap * esz ∧ cs.length ≤ C.size ∧ unfrozen fr C.size ∧ RepAt G Φ cs ρ C 0)) := by
 obtain ⟨x,h1,h2,_⟩ := h.objs n _ hn
 rw [hr] at h1; cases h1
 exact h2.1
end new

theorem addr_add (b o n : Nat) : (⟨b,o,none⟩ : Addr).add n = ⟨b,o + n,none⟩ := by
 unfold Addr.add
 split <;> simp_all

theorem cell_of {w : World} {b : Nat} {C : Array Value} {ty : TypeId} {fr : Nat × Nat} (h : w.heap[b]? = some (.cells C ty fr)) (j : Nat) : w.cell? ⟨b,j,none⟩ = C[j]? := by
 simp [World.cell?,h]
theorem frozen_of {w : World} {b : Nat} {C : Array Value} {ty : TypeId} {fr : Nat × Nat} (h : w.heap[b]? = some (.cells C ty fr)) (hf : unfrozen fr C.size) {j : Nat} (hj : j < C.size) : w.frozen? ⟨b,j,none⟩ = false := by
 simp only [World.frozen?,h]
 exact hf j hj

/-- A row of cells of a block is read. -/
theorem load_row {P : Program} {w : World} {b : Nat} {C : Array Value} {ty : TypeId} {fr : Nat × Nat} (h : w.heap[b]? = some (.cells C ty fr)) (off sz : Nat) (hl : off + sz ≤ C.size) :
  (loadCells ⟨b,off,none⟩ sz).run P w = .ok (C.extract off (off + sz)) w := by
 have e := run_loadCells_list (P := P) w ⟨b,off,none⟩ ((C.toList.drop off).take sz) (by
  intro j v hj
  rw [List.getElem?_take] at hj
  split at hj
  case isFalse => cases hj
  rw [List.getElem?_drop] at hj
  rw [addr_add,cell_of h]
  simpa using hj)
 have h1 : ((C.toList.drop off).take sz).length = sz := by simp; omega
 rw [h1] at e
 rw [e]
 congr 1
 apply Array.ext'
 simp only [Array.toList_extract,List.extract]
 congr 1
 omega

theorem run_storeCells_uf (P : Program) (g o : Nat) (t : TypeId) (fr : Nat × Nat) : ∀ (vs : List Value) (i : Nat) (cur : Array Value) (w : World),w.heap[g]? = some (.cells cur t fr) → unfrozen fr cur.size → o + i + vs.length ≤ cur.size → (∀ v ∈ vs,v.oneCell' = true) →
  (storeCells ⟨g,o,none⟩ vs i).run P w = .ok () (w.setRow g (cur.toList.take (o + i) ++ vs ++ cur.toList.drop (o + i + vs.length)).toArray)
 | [],i,cur,w,hg,_,_,_ => by
  simp only [storeCells,List.append_nil,List.length_nil,Nat.add_zero,List.take_append_drop,Array.toArray_toList]
  rw [setRow_self w g cur t fr hg]
  rfl
 | v :: rest,i,cur,w,hg,hf,hl,h1 => by
  have hi : o + i < cur.size := by simp at hl; omega
  have hadd : (⟨g,o,none⟩ : Addr).add i = ⟨g,o + i,none⟩ := addr_add _ _ _
  have hcell : w.cell? ⟨g,o + i,none⟩ = some cur[o + i] := by simp [World.cell?,hg,hi]
  have hfro : w.frozen? ⟨g,o + i,none⟩ = false := frozen_of hg hf hi
  have hst : (store ((⟨g,o,none⟩ : Addr).add i) v).run P w = .ok () (w.setRow g (cur.setIfInBounds (o + i) v)) := by
   rw [hadd,run_store P w _ v _ (h1 v (by simp)),hcell]
   simp [hfro,setCell_eq_setRow w g (o + i) cur t fr v hg]
  have ih := run_storeCells_uf P g o t fr rest (i + 1) (cur.setIfInBounds (o + i) v) (w.setRow g (cur.setIfInBounds (o + i) v)) (setRow_heap w g cur _ t _ hg) (by simpa using hf) (by simp at hl ⊢; omega) (fun x hx => h1 x (by simp [hx]))
  simp only [storeCells,Sem.run_bind,hst,Result.andThen_ok,ih,setRow_setRow]
  congr 3
  have e := list_seg_step cur.toList (o + i) v rest (by simp at hl ⊢; omega)
  simpa [Array.toList_setIfInBounds,Nat.add_assoc] using e

theorem RepAt.set {G : Gl} {Φ : Phi} {ρ : Nm} {cs : List AV} {C : Array Value} (h : RepAt G Φ cs ρ C 0) {off : Nat} {v : AV} {x : Value} (hx : Rep G Φ v ρ x) (hC : off < C.size) :
  RepAt G Φ (cs.set off v) ρ (C.setIfInBounds off x) 0 := by
 refine RepAt.mk fun j c hj => ?_
 rw [List.getElem?_set] at hj
 split at hj
 ·rename_i e
  subst e
  split at hj
  ·cases hj
   exact ⟨x,by rw [Nat.zero_add]; simp [hC],hx⟩
  ·cases hj
 ·rename_i e
  obtain ⟨y,hy,hr⟩ := RepAt.get h hj
  exact ⟨y,by rw [Nat.zero_add] at hy ⊢; rw [Array.getElem?_setIfInBounds_ne e]; exact hy,hr⟩

theorem RepAt.lay {G : Gl} {Φ : Phi} {ρ : Nm} {cs vs : List AV} {C A : Array Value} {off : Nat} (h : RepAt G Φ cs ρ C 0) (hv : RepAt G Φ vs ρ A 0) (hA : A.size = vs.length) (hl : off + vs.length ≤ cs.length) (hC : cs.length ≤ C.size) :
  RepAt G Φ (lay cs off vs) ρ (C.toList.take off ++ A.toList ++ C.toList.drop (off + A.toList.length)).toArray 0 := by
 refine RepAt.mk fun j c hj => ?_
 have hA' : A.toList.length = vs.length := by simpa using hA
 have l1 : (cs.take off).length = off := by simp; omega
 have l2 : (C.toList.take off).length = off := by simp; omega
 unfold Qk.lay at hj
 rw [Nat.zero_add,List.getElem?_toArray]
 rw [List.append_assoc] at hj ⊢
 rw [List.getElem?_append] at hj ⊢
 rw [l1] at hj
 rw [l2]
 split at hj
 ·rename_i hlt
  rw [if_pos hlt]
  rw [List.getElem?_take_of_lt hlt] at hj ⊢
  obtain ⟨y,hy,hr⟩ := RepAt.get h hj
  exact ⟨y,by simpa using hy,hr⟩
 ·rename_i hge
  rw [if_neg hge]
  rw [List.getElem?_append] at hj ⊢
  rw [hA']
  split at hj
  ·rename_i hlt
   rw [if_pos hlt]
   obtain ⟨y,hy,hr⟩ := RepAt.get hv hj
   exact ⟨y,by simpa using hy,hr⟩
  ·rename_i hge2
   rw [if_neg hge2]
   rw [List.getElem?_drop] at hj ⊢
   obtain ⟨y,hy,hr⟩ := RepAt.get h hj
   exact ⟨y,by simpa using hy,hr⟩

theorem lay_length {cs vs : List AV} {off : Nat} (hl : off + vs.length ≤ cs.length) : (lay cs off vs).length = cs.length := by
 simp [lay]; omega

section ops
variable {G : Gl} {o : Oper}

theorem ok_alloc {t : TypeId} {i : TypeInfo} {z : Value} (ho : o.op = .alloc t) (hi : G.P.info? t = some i) (hz : i.zero = some z) :
  OpOk G o (ex1 (.alloc (z.cells.toList.map AV.ofConst))) := by
 intro B X w0 S K a w ρ Φ Q next he hw hfr hT hK
 simp only [ex1] at hT
 obtain ⟨ρ',h1,h2,h3⟩ := hw.newCells hfr z.cells t (z.cells.toList.map AV.ofConst) (by simp) (RepAt.mk fun j c hj => by
  rw [List.getElem?_map] at hj
  cases e : z.cells.toList[j]? with
  | none => rw [e] at hj; cases hj
  | some v =>
   rw [e] at hj; cases hj
   exact ⟨v,by rw [Nat.zero_add]; simpa using e,rep_const _ _ _ _⟩)
 refine wp_value (v := .pointer (some ⟨w.heap.size,0,none⟩)) (w' := { w with heap := w.heap.push (.cells z.cells t) }) ?_ (hK _ _ _ _ ρ' Φ hT rfl h1 (PhiTo.refl _ _) h2 h3)
 simp [execOp,ho,Instr.alloc,zeroValue,typeInfo,hi,hz,newVar,newRow]

theorem ok_newb {t : TypeId} {i : TypeInfo} {z : Value} (ho : o.op = .alloc t) (hi : G.P.info? t = some i) (hz : i.zero = some z) (ht : t = G.bT) :
  OpOk G o (ex1 (.newb (z.cells.toList.map AV.ofConst))) := by
 intro B X w0 S K a w ρ Φ Q next he hw hfr hT hK
 simp only [ex1] at hT
 obtain ⟨ρ',h1,h2,h3⟩ := hw.newCells hfr z.cells t (z.cells.toList.map AV.ofConst) (by simp) (RepAt.mk fun j c hj => by
  rw [List.getElem?_map] at hj
  cases e : z.cells.toList[j]? with
  | none => rw [e] at hj; cases hj
  | some v =>
   rw [e] at hj; cases hj
   exact ⟨v,by rw [Nat.zero_add]; simpa using e,rep_const _ _ _ _⟩) true (fun _ => ht)
 refine wp_value (v := .pointer (some ⟨w.heap.size,0,none⟩)) (w' := { w with heap := w.heap.push (.cells z.cells t) }) ?_ (hK _ _ _ _ ρ' Φ hT rfl h1 (PhiTo.refl _ _) h2 h3)
 simp [execOp,ho,Instr.alloc,zeroValue,typeInfo,hi,hz,newVar,newRow]

theorem rep_cells {G : Gl} {Φ : Phi} {ρ : Nm} {v : AV} {x : Value} (h : Rep G Φ v ρ x) : (v.isOne = true ∨ ∃ cs,v = .agg cs) → x.cells.size = v.cells.length ∧ RepAt G Φ v.cells ρ x.cells 0 := by
 intro hv
 rcases hv with hv | ⟨cs,rfl⟩
 ·have h1 := rep_isOne h hv
  have e : x.cells = #[x] := by cases x <;> first | rfl | (simp [Value.oneCell'] at h1)
  have e2 : v.cells = [v] := by cases v <;> first | rfl | (simp [AV.isOne] at hv)
  rw [e,e2]
  exact ⟨rfl,by simp [RepAt]; exact h⟩
 ·simp only [Rep] at h
  obtain ⟨A,rfl,h2,h3⟩ := h
  exact ⟨h2,h3⟩

theorem ok_box {t : TypeId} {x : Operand} (ho : o.op = .box t x) : OpOk G o (ex1 (.box x)) := by
 intro B X w0 S K a w ρ Φ Q next he hw hfr hT hK
 have run : (execOp a.eval o).run G.P w = .ok (.value (.pointer (some ⟨w.heap.size,0,none⟩))) { w with heap := w.heap.push (.cells (a.eval x).cells t) } := by
  simp [execOp,ho,Instr.box,newVar,newRow]
 simp only [ex1] at hT
 split at hT
 case h_1 =>
  rename_i cs hx
  obtain ⟨h1,h2⟩ := rep_cells (evRel he hx) (.inr ⟨cs,rfl⟩)
  obtain ⟨ρ',h3,h4,h5⟩ := hw.newCells hfr (a.eval x).cells t cs h1 h2
  exact wp_value run (hK _ _ _ _ ρ' Φ hT rfl h3 (PhiTo.refl _ _) h4 h5)
 case h_2 =>
  rename_i v hna hx
  split at hT
  case h_2 => exact hT.elim
  rename_i hv
  obtain ⟨h1,h2⟩ := rep_cells (evRel he hx) (.inl hv)
  have e2 : v.cells = [v] := by cases v <;> first | rfl | (simp [AV.isOne] at hv)
  rw [e2] at h1 h2
  obtain ⟨ρ',h3,h4,h5⟩ := hw.newCells hfr (a.eval x).cells t [v] h1 h2
  exact wp_value run (hK _ _ _ _ ρ' Φ hT rfl h3 (PhiTo.refl _ _) h4 h5)
 case h_3 => exact hT.elim

theorem ok_load1 {t : TypeId} {x : Operand} (ho : o.op = .load t x) (hty : ∃ d,G.P.underlying t = some d ∧ aggOf d = false) : OpOk G o (ex1 (.load1 x)) := by
 intro B X w0 S K a w ρ Φ Q next he hw hfr hT hK
 obtain ⟨d,ht,hd⟩ := hty
 have run : ∀ (ad : Addr) (y : Value),a.eval x = .pointer (some ad) → w.cell? ad = some y → (execOp a.eval o).run G.P w = .ok (.value y) w := by
  intro ad y h1 h2
  simp [execOp,ho,Instr.loadAt,Instr.sureAddr,h1,loadVar,run_isAgg ht,hd,h2]
 simp only [ex1] at hT
 split at hT
 case h_1 =>
  rename_i n off hx
  have h1 := evRel he hx
  simp only [Rep] at h1
  obtain ⟨hdl,hρ,h1⟩ := h1
  split at hT
  case h_1 =>
   rename_i cs hH
   obtain ⟨v,hv,hT⟩ := hT
   obtain ⟨_,C,ty,fr,h2,h3,h4,h5⟩ := hw.cellsAt hH hρ
   obtain ⟨y,hy,hr⟩ := RepAt.get h5 hv
   rw [Nat.zero_add] at hy
   exact wp_value (run _ _ h1 (by rw [cell_of h2]; exact hy)) (hK _ S _ w ρ Φ hT rfl (NmTo.refl _ _) (PhiTo.refl _ _) hw hr)
  case h_2 =>
   rename_i e cs hH
   obtain ⟨v,hv,hT⟩ := hT
   obtain ⟨_,h2 | ⟨_,_,C,ty,fr,h2,h3,h4,h5,h6⟩⟩ := hw.lstAt hH hρ
   ·rw [h2.2.1] at hv; simp at hv
   obtain ⟨y,hy,hr⟩ := RepAt.get h6 hv
   rw [Nat.zero_add] at hy
   exact wp_value (run _ _ h1 (by rw [cell_of h2]; exact hy)) (hK _ S _ w ρ Φ hT rfl (NmTo.refl _ _) (PhiTo.refl _ _) hw hr)
  case h_3 => exact hT.elim
 case h_2 =>
  rename_i cs off hx
  have h1 := evRel he hx
  simp only [Rep] at h1
  obtain ⟨b,base,C,ty,fr,h1,h2,h3⟩ := h1
  obtain ⟨v,hv,hT⟩ := hT
  obtain ⟨y,hy,hr⟩ := RepAt.get h3 hv
  have h2' := hw.phi _ _ h2
  refine wp_value (run _ _ h1 (by rw [cell_of h2']; exact hy)) (hK _ S _ w ρ Φ hT rfl (NmTo.refl _ _) (PhiTo.refl _ _) hw ?_)
  exact Rep.mono (PhiLe.refl _) v (fun n h e => by cases e) hr
 case h_3 => exact hT.elim

theorem ok_loadN {t : TypeId} {sz : Nat} {x : Operand} (ho : o.op = .load t x) (hty : TyIs G.P t true sz) : OpOk G o (ex1 (.loadN sz x)) := by
 intro B X w0 S K a w ρ Φ Q next he hw hfr hT hK
 obtain ⟨d,i,ht,hi,hsz,hd,_⟩ := hty
 have run : ∀ (b off : Nat) (C : Array Value) (ty : TypeId) (fr : Nat × Nat),a.eval x = .pointer (some ⟨b,off,none⟩) → w.heap[b]? = some (.cells C ty fr) → off + sz ≤ C.size →
   (execOp a.eval o).run G.P w = .ok (.value (.agg (C.extract off (off + sz)))) w := by
  intro b off C ty fr h1 h2 h3
  simp [execOp,ho,Instr.loadAt,Instr.sureAddr,h1,loadVar,run_isAgg ht,hd,Go.sizeOf,typeInfo,hi,hsz,load_row h2 off sz h3]
 have fin : ∀ (b off base : Nat) (C : Array Value) (ty : TypeId) (fr : Nat × Nat) (cs l : List AV) (ρ₁ : Nm),NmLe ρ₁ ρ → a.eval x = .pointer (some ⟨b,base + off,none⟩) → w.heap[b]? = some (.cells C ty fr) →
   RepAt G Φ cs ρ₁ C base → l = (cs.drop off).take sz → l.length = sz → (sz = 0 → base + off ≤ C.size) → K (.agg l) S → o.wp G.P a w next Q := by
  intro b off base C ty fr cs l ρ₁ hle h1 h2 h3 hl hlen h0 hT
  have h4 : base + off + sz ≤ C.size := by
   by_cases hz : sz = 0
   ·have := h0 hz; omega
   ·have h6 : off + sz ≤ cs.length := by rw [hl] at hlen; simp at hlen; omega
    have : cs[off + sz - 1]? = some cs[off + sz - 1] := List.getElem?_eq_getElem (by omega)
    obtain ⟨y,hy,_⟩ := RepAt.get h3 this
    have := (Array.getElem?_eq_some_iff.1 hy).1
    omega
  refine wp_value (run _ _ _ _ _ h1 h2 h4) (hK _ S _ w ρ Φ hT rfl (NmTo.refl _ _) (PhiTo.refl _ _) hw ?_)
  simp only [Rep]
  refine ⟨_,rfl,by simp; omega,RepAt.mk fun j c hj => ?_⟩
  rw [hl,List.getElem?_take] at hj
  split at hj
  case isFalse => cases hj
  rename_i hlt
  rw [List.getElem?_drop] at hj
  obtain ⟨y,hy,hr⟩ := RepAt.get h3 hj
  refine ⟨y,?_,Rep.mono (PhiLe.refl _) c hle hr⟩
  rw [Nat.zero_add,Array.getElem?_extract_of_lt (by omega),← hy,← Array.getElem?_eq_getElem]
  congr 1
  omega
 simp only [ex1] at hT
 split at hT
 case h_1 =>
  rename_i n off hx
  have h1 := evRel he hx
  simp only [Rep] at h1
  obtain ⟨hdl,hρ,h1⟩ := h1
  split at hT
  case h_1 =>
   rename_i cs hH
   obtain ⟨l,⟨hl,hlen⟩,hT⟩ := hT
   obtain ⟨_,C,ty,fr,h2,h3,h4,h5⟩ := hw.cellsAt hH hρ
   by_cases hz : sz = 0 ∧ C.size < off
   ·-- nothing is read
    have hl0 : l = [] := by cases l with | nil => rfl | cons => simp at hlen; omega
    refine wp_value (v := .agg #[]) (w' := w) ?_ (hK _ S _ w ρ Φ hT rfl (NmTo.refl _ _) (PhiTo.refl _ _) hw (by simp only [Rep]; exact ⟨_,rfl,by simp [hl0],by simp [hl0,RepAt]⟩))
    simp [execOp,ho,Instr.loadAt,Instr.sureAddr,h1,loadVar,run_isAgg ht,hd,Go.sizeOf,typeInfo,hi,hsz,hz.1,loadCells,loadCellsFrom]
   ·exact fin _ off 0 C ty fr cs l ρ (NmLe.refl _) (by rw [h1]; simp) h2 h5 hl hlen (by intro e; omega) hT
  case h_2 =>
   rename_i e cs hH
   obtain ⟨l,⟨hl,hlen⟩,hT⟩ := hT
   by_cases hz : sz = 0
   ·have hl0 : l = [] := by cases l with | nil => rfl | cons => simp at hlen; omega
    refine wp_value (v := .agg #[]) (w' := w) ?_ (hK _ S _ w ρ Φ hT rfl (NmTo.refl _ _) (PhiTo.refl _ _) hw (by simp only [Rep]; exact ⟨_,rfl,by simp [hl0],by simp [hl0,RepAt]⟩))
    simp [execOp,ho,Instr.loadAt,Instr.sureAddr,h1,loadVar,run_isAgg ht,hd,Go.sizeOf,typeInfo,hi,hsz,hz,loadCells,loadCellsFrom]
   ·obtain ⟨_,h2 | ⟨_,_,C,ty,fr,h2,h3,h4,h5,h6⟩⟩ := hw.lstAt hH hρ
    ·rw [h2.2.1] at hl; simp at hl; rw [hl] at hlen; simp at hlen; omega
    ·exact fin _ off 0 C ty fr cs l ρ (NmLe.refl _) (by rw [h1]; simp) h2 h6 hl hlen (by intro e; omega) hT
  case h_3 => exact hT.elim
 case h_2 =>
  rename_i cs off hx
  have h1 := evRel he hx
  simp only [Rep] at h1
  obtain ⟨b,base,C,ty,fr,h1,h2,h3⟩ := h1
  obtain ⟨hnn,l,⟨hl,hlen⟩,hT⟩ := hT
  have h2' := hw.phi _ _ h2
  by_cases hz : sz = 0
  ·have hl0 : l = [] := by cases l with | nil => rfl | cons => simp at hlen; omega
   refine wp_value (v := .agg #[]) (w' := w) ?_ (hK _ S _ w ρ Φ hT rfl (NmTo.refl _ _) (PhiTo.refl _ _) hw (by simp only [Rep]; exact ⟨_,rfl,by simp [hl0],by simp [hl0,RepAt]⟩))
   simp [execOp,ho,Instr.loadAt,Instr.sureAddr,h1,loadVar,run_isAgg ht,hd,Go.sizeOf,typeInfo,hi,hsz,hz,loadCells,loadCellsFrom]
  ·exact fin b off base C ty fr cs l ρ (NmLe.refl _) h1 h2' (hnn _ _ _ _ _ _ h3) hl hlen (by intro e; omega) hT
 case h_3 => exact hT.elim

/-- A row of cells is written into the block of a name. -/
theorem Wf0.stored {B : Nat} {X : Nat → Prop} {w0 w : World} {ρ : Nm} {Φ : Phi} {H : Nat → Option AO} (hw : Wf0 G B X w0 ρ Φ H w) {n off : Nat} {cs vs : List AV} {A : Array Value} {hd : Hd}
  (hρ : ρ n = some hd) (hA : RepAt G Φ vs ρ A 0) (hAs : A.size = vs.length) (h1 : ∀ v ∈ A.toList,v.oneCell' = true) (hl : off + vs.length ≤ cs.length)
  (hH : (∃ τ,H n = some (.cl τ cs)) ∨ (∃ τ e,H n = some (.ls τ e cs) ∧ hd.isnil = false)) :
  ∃ w',(storeCells ⟨hd.b,off,none⟩ A.toList).run G.P w = .ok () w' ∧
   Wf0 G B X w0 ρ Φ (upd H n (some (match H n with | some (.ls τ e _) => .ls τ e (lay cs off vs) | some (.cl τ _) => .cl τ (lay cs off vs) | _ => .cells (lay cs off vs)))) w' := by
 have key : ∃ C ty fr,w.heap[hd.b]? = some (.cells C ty fr) ∧ cs.length ≤ C.size ∧ unfrozen fr C.size ∧ RepAt G Φ cs ρ C 0 ∧ hd.fp = [hd.b] := by
  rcases hH with ⟨τ,hH⟩ | ⟨τ,e,hH,hnil⟩
  ·obtain ⟨h0,C,ty,fr,h2,h3,h4,h5⟩ := hw.cellsAt hH hρ
   exact ⟨C,ty,fr,h2,by omega,h4,h5,h0⟩
  ·obtain ⟨_,h2 | ⟨_,h0,C,ty,fr,h2,h3,h4,h5,h6⟩⟩ := hw.lstAt hH hρ
   ·rw [hnil] at h2; cases h2.1
   ·exact ⟨C,ty,fr,h2,h4,h5,h6,h0⟩
 obtain ⟨C,ty,fr,h2,h3,h4,h5,h0⟩ := key
 have hA' : A.toList.length = vs.length := by simpa using hAs
 have run := run_storeCells_uf G.P hd.b off ty fr A.toList 0 C w h2 h4 (by omega) h1
 rw [Nat.add_zero] at run
 refine ⟨_,run,?_⟩
 have hrow := setRow_heap w hd.b C (C.toList.take off ++ A.toList ++ C.toList.drop (off + A.toList.length)).toArray ty fr h2
 have hsz : (C.toList.take off ++ A.toList ++ C.toList.drop (off + A.toList.length)).toArray.size = C.size := by simp; omega
 have hrep := RepAt.lay h5 hA hAs hl h3
 have hother : ∀ k,k ∉ hd.fp → (w.setRow hd.b (C.toList.take off ++ A.toList ++ C.toList.drop (off + A.toList.length)).toArray).heap[k]? = w.heap[k]? := by
  intro k hk
  exact setRow_other w hd.b k _ (by rw [h0] at hk; simpa using hk)
 rcases hH with ⟨τ,hH⟩ | ⟨τ,e,hH,hnil⟩
 ·rw [hH]
  refine hw.write hH rfl hρ rfl rfl rfl (by simp) hother ?_
  obtain ⟨_,C',ty',fr',h2',h3',_,_⟩ := hw.cellsAt hH hρ
  rw [h2] at h2'; cases h2'
  refine ⟨⟨h0,_,ty,fr,hrow,by rw [hsz,lay_length hl]; exact h3',by rw [hsz]; exact h4,hrep⟩,fun e1 => ?_⟩
  obtain ⟨C',h6⟩ := hw.tyAt hH hρ e1
  rw [h2] at h6; cases h6
  exact ⟨_,hrow⟩
 ·rw [hH]
  refine hw.write hH rfl hρ rfl rfl rfl (by simp) hother ?_
  obtain ⟨he,h2' | ⟨_,_,C',ty',fr',h2',h3',_,_,_⟩⟩ := hw.lstAt hH hρ
  ·rw [hnil] at h2'; cases h2'.1
  rw [h2] at h2'; cases h2'
  refine ⟨⟨he,.inr ⟨hnil,h0,_,ty,fr,hrow,by rw [hsz]; exact h3',by rw [hsz,lay_length hl]; exact h3,by rw [hsz]; exact h4,hrep⟩⟩,fun e1 e2 => ?_⟩
  obtain ⟨C',fr',h6⟩ := hw.tyLst hH hρ e1 e2
  rw [h2] at h6; cases h6
  exact ⟨_,_,hrow⟩

theorem lay_one (cs : List AV) (off : Nat) (v : AV) (h : off < cs.length) : lay cs off [v] = cs.set off v := by
 rw [List.set_eq_take_append_cons_drop,if_pos h]
 simp [lay]

theorem ok_stor1 {t : TypeId} {i : TypeInfo} {p x : Operand} (ho : o.op = .store t p x) (hi : G.P.info? t = some i) (hsz : i.size = 1) : OpOk G o (ex1 (.stor1 p x)) := by
 intro B X w0 S K a w ρ Φ Q next he hw hfr hT hK
 simp only [ex1] at hT
 split at hT
 case h_2 => exact hT.elim
 rename_i n off v hp hx
 have h1 := evRel he hp
 have h2 := evRel he hx
 split at hT
 case h_2 => exact hT.elim
 rename_i hv
 obtain ⟨c1,c2⟩ := rep_cells h2 (.inl hv)
 have e2 : v.cells = [v] := by cases v <;> first | rfl | (simp [AV.isOne] at hv)
 rw [e2] at c1 c2
 simp only [Rep] at h1
 obtain ⟨hd,hρ,h1⟩ := h1
 have hone : ∀ y ∈ (a.eval x).cells.toList,y.oneCell' = true := by
  have h3 := rep_isOne h2 hv
  have e : (a.eval x).cells = #[a.eval x] := by
   revert h3; cases a.eval x <;> first | (intro; rfl) | (intro h; simp [Value.oneCell'] at h)
  rw [e]; simpa using h3
 have run : ∀ w',(storeCells ⟨hd.b,off,none⟩ (a.eval x).cells.toList).run G.P w = .ok () w' → (execOp a.eval o).run G.P w = .ok .skip w' := by
  intro w' h
  have : (a.eval x).cells.size = 1 := by simpa using c1
  simp [execOp,ho,Instr.storeAt,Instr.sureAddr,h1,storeVar,Go.sizeOf,typeInfo,hi,hsz,this,h]
 split at hT
 case h_1 =>
  rename_i cs hH
  obtain ⟨hl,hT⟩ := hT
  obtain ⟨w',r1,r2⟩ := hw.stored (vs := [v]) (cs := cs) (off := off) hρ c2 c1 hone (by simp; omega) (.inl ⟨_,hH⟩)
  rw [hH] at r2
  simp only [lay_one cs off v hl] at r2
  exact wp_unit (run _ r1) (hK _ _ undef w' ρ Φ hT rfl (NmTo.refl _ _) (PhiTo.refl _ _) r2 (by simp [Rep]))
 case h_2 =>
  rename_i e cs hH
  obtain ⟨hl,hT⟩ := hT
  have hnil : hd.isnil = false := by
   obtain ⟨_,h3 | h3⟩ := hw.lstAt hH hρ
   ·rw [h3.2.1] at hl; simp at hl
   ·exact h3.1
  obtain ⟨w',r1,r2⟩ := hw.stored (vs := [v]) (cs := cs) (off := off) hρ c2 c1 hone (by simp; omega) (.inr ⟨_,e,hH,hnil⟩)
  rw [hH] at r2
  simp only [lay_one cs off v hl] at r2
  exact wp_unit (run _ r1) (hK _ _ undef w' ρ Φ hT rfl (NmTo.refl _ _) (PhiTo.refl _ _) r2 (by simp [Rep]))
 case h_3 => exact hT.elim

theorem ok_storN {t : TypeId} {sz : Nat} {i : TypeInfo} {p x : Operand} (ho : o.op = .store t p x) (hi : G.P.info? t = some i) (hsz : i.size = sz) (h0 : 0 < sz) : OpOk G o (ex1 (.storN sz p x)) := by
 intro B X w0 S K a w ρ Φ Q next he hw hfr hT hK
 simp only [ex1] at hT
 split at hT
 case h_2 => exact hT.elim
 rename_i n off vs hp hx
 have h1 := evRel he hp
 have h2 := evRel he hx
 obtain ⟨⟨hvs,hall⟩,hT⟩ := hT
 simp only [Rep] at h1 h2
 obtain ⟨hd,hρ,h1⟩ := h1
 obtain ⟨A,h2,c1,c2⟩ := h2
 have hone : ∀ y ∈ A.toList,y.oneCell' = true := by
  intro y hy
  obtain ⟨j,hj,rfl⟩ := List.getElem_of_mem hy
  have hj' : j < vs.length := by simpa [c1] using hj
  obtain ⟨z,hz,hr⟩ := RepAt.get c2 (List.getElem?_eq_getElem hj')
  rw [Nat.zero_add] at hz
  have : A.toList[j] = z := by
   have := Array.getElem?_eq_some_iff.1 hz
   simpa using this.2
  rw [this]
  exact rep_isOne hr (hall _ (List.getElem_mem hj'))
 have run : ∀ w',(storeCells ⟨hd.b,off,none⟩ A.toList).run G.P w = .ok () w' → (execOp a.eval o).run G.P w = .ok .skip w' := by
  intro w' h
  simp [execOp,ho,Instr.storeAt,Instr.sureAddr,h1,h2,storeVar,Go.sizeOf,typeInfo,hi,hsz,Value.cells,c1,hvs,h]
 split at hT
 case h_1 =>
  rename_i cs hH
  obtain ⟨hl,l,rfl,hT⟩ := hT
  obtain ⟨w',r1,r2⟩ := hw.stored (vs := vs) (cs := cs) (off := off) hρ c2 c1 hone (by omega) (.inl ⟨_,hH⟩)
  rw [hH] at r2
  exact wp_unit (run _ r1) (hK _ _ undef w' ρ Φ hT rfl (NmTo.refl _ _) (PhiTo.refl _ _) r2 (by simp [Rep]))
 case h_2 =>
  rename_i e cs hH
  obtain ⟨hl,l,rfl,hT⟩ := hT
  have hnil : hd.isnil = false := by
   obtain ⟨_,h3 | h3⟩ := hw.lstAt hH hρ
   ·rw [h3.2.1] at hl; simp at hl; omega
   ·exact h3.1
  obtain ⟨w',r1,r2⟩ := hw.stored (vs := vs) (cs := cs) (off := off) hρ c2 c1 hone (by omega) (.inr ⟨_,e,hH,hnil⟩)
  rw [hH] at r2
  exact wp_unit (run _ r1) (hK _ _ undef w' ρ Φ hT rfl (NmTo.refl _ _) (PhiTo.refl _ _) r2 (by simp [Rep]))
 case h_3 => exact hT.elim

theorem ok_idxA {t et : TypeId} {n esz : Nat} {i : TypeInfo} {x ix : Operand} (ho : o.op = .indexAddr t x ix) (ht : G.P.underlying t = some (.array n et)) (hi : G.P.info? et = some i) (hsz : i.size = esz) :
  OpOk G o (ex1 (.idxA esz n x ix)) := by
 intro B X w0 S K a w ρ Φ Q next he hw hfr hT hK
 have run : ∀ (b off : Nat) (k : IntKind) (j : Int),a.eval x = .pointer (some ⟨b,off,none⟩) → a.eval ix = .int k j → 0 ≤ j → j < n →
   (execOp a.eval o).run G.P w = .ok (.value (.pointer (some ⟨b,off + j.toNat * esz,none⟩))) w := by
  intro b off k j h1 h2 h3 h4
  simp [execOp,ho,Instr.indexAt,h1,h2,asIntOf,run_underlying ht,Instr.sureAddr,h3,h4,Go.sizeOf,typeInfo,hi,hsz,addr_add]
 simp only [ex1] at hT
 split at hT
 case h_1 =>
  rename_i m off k j hx hj
  have h1 := evRel he hx
  have h2 := evRel he hj
  simp only [Rep] at h1 h2
  obtain ⟨hd,hρ,h1⟩ := h1
  exact wp_value (run _ _ _ _ h1 h2 hT.1.1 hT.1.2) (hK _ S _ w ρ Φ hT.2 rfl (NmTo.refl _ _) (PhiTo.refl _ _) hw (by simp only [Rep]; exact ⟨hd,hρ,rfl⟩))
 case h_2 =>
  rename_i cs off k j hx hj
  have h1 := evRel he hx
  have h2 := evRel he hj
  simp only [Rep] at h1 h2
  obtain ⟨b,base,C,ty,fr,h1,h3,h4⟩ := h1
  exact wp_value (run _ _ _ _ h1 h2 hT.1.1 hT.1.2) (hK _ S _ w ρ Φ hT.2 rfl (NmTo.refl _ _) (PhiTo.refl _ _) hw (by simp only [Rep]; exact ⟨b,base,C,ty,fr,by rw [Nat.add_assoc],h3,h4⟩))
 case h_3 => exact hT.elim

theorem ok_idxL {t et : TypeId} {esz : Nat} {i : TypeInfo} {x ix : Operand} (ho : o.op = .indexAddr t x ix) (ht : G.P.underlying t = some (.slice et)) (hi : G.P.info? et = some i) (hsz : i.size = esz) :
  OpOk G o (ex1 (.idxL esz x ix)) := by
 intro B X w0 S K a w ρ Φ Q next he hw hfr hT hK
 have run : ∀ (b off len cap : Nat) (k : IntKind) (j : Int),a.eval x = .slice (some ⟨b,off,none⟩) len cap → a.eval ix = .int k j → 0 ≤ j → j < len →
   (execOp a.eval o).run G.P w = .ok (.value (.pointer (some ⟨b,off + j.toNat * esz,none⟩))) w := by
  intro b off len cap k j h1 h2 h3 h4
  simp [execOp,ho,Instr.indexAt,h1,h2,asIntOf,run_underlying ht,h3,h4,Go.sizeOf,typeInfo,hi,hsz,addr_add]
 simp only [ex1] at hT
 split at hT
 case h_1 =>
  rename_i m off len k j hx hj
  have h1 := evRel he hx
  have h2 := evRel he hj
  simp only [Rep] at h1 h2
  split at hT
  case h_1 =>
   rename_i e cs hH
   obtain ⟨⟨rfl,h3,h4⟩,hT⟩ := hT
   obtain ⟨hd,hρ,h1⟩ := h1
   obtain ⟨h5,_⟩ := hw.lstAt hH hρ
   rcases h1 with h1 | ⟨_,h6,h1 | ⟨_,h7,_⟩⟩
   ·omega
   ·refine wp_value (run _ _ _ _ _ _ h1 h2 h3 h4) (hK _ S _ w ρ Φ hT rfl (NmTo.refl _ _) (PhiTo.refl _ _) hw ?_)
    simp only [Rep]
    exact ⟨hd,hρ,by rw [h5,Nat.add_mul]⟩
   ·omega
  case h_2 => exact hT.elim
 case h_2 =>
  rename_i m off len e k j hx hj
  have h1 := evRel he hx
  have h2 := evRel he hj
  simp only [Rep] at h1 h2
  obtain ⟨⟨rfl,h0,h3,h4⟩,hT⟩ := hT
  obtain ⟨hd,ad,c,hρ,_,h1,h5 | h5⟩ := h1
  ·have : 0 < len * e := Nat.mul_pos (by omega) h0
   omega
  ·subst h5
   refine wp_value (run _ _ _ _ _ _ h1 h2 h3 h4) (hK _ S _ w ρ Φ hT rfl (NmTo.refl _ _) (PhiTo.refl _ _) hw ?_)
   simp only [Rep]
   exact ⟨hd,hρ,rfl⟩
 case h_3 =>
  rename_i e len cs k j hx hj
  have h1 := evRel he hx
  have h2 := evRel he hj
  simp only [Rep] at h1 h2
  obtain ⟨⟨rfl,h0,h3,h4⟩,hT⟩ := hT
  obtain ⟨hlen,ad,cap,_,h1,h5 | ⟨b,off,C,ty,fr,rfl,h6,h7⟩⟩ := h1
  ·rw [h5] at hlen
   simp at hlen
   have : 0 < len * e := Nat.mul_pos (by omega) h0
   omega
  ·refine wp_value (run _ _ _ _ _ _ h1 h2 h3 h4) (hK _ S _ w ρ Φ hT rfl (NmTo.refl _ _) (PhiTo.refl _ _) hw ?_)
   simp only [Rep]
   exact ⟨b,off,C,ty,fr,rfl,h6,h7⟩
 case h_4 => exact hT.elim

theorem ok_fldA {t : TypeId} {x : Operand} {f : Nat} {fs : Array Field} {fd : Field} {i : TypeInfo} (ho : o.op = .fieldAddr t x f) (ht : G.P.underlying t = some (.struct fs)) (hf : fs[f]? = some fd)
  (hi : G.P.info? fd.type = some i) (hsz : i.size ≠ 0) : OpOk G o (ex1 (.fldA fd.offset x)) := by
 intro B X w0 S K a w ρ Φ Q next he hw hfr hT hK
 have run : ∀ (b off : Nat),a.eval x = .pointer (some ⟨b,off,none⟩) →
   (execOp a.eval o).run G.P w = .ok (.value (.pointer (some ⟨b,off + fd.offset,none⟩))) w := by
  intro b off h1
  simp [execOp,ho,Instr.fieldAt,h1,run_underlying ht,hf,Instr.sureAddr,fieldPlace,Go.sizeOf,typeInfo,hi,hsz,addr_add]
 simp only [ex1] at hT
 split at hT
 case h_1 =>
  rename_i m off hx
  have h1 := evRel he hx
  simp only [Rep] at h1
  obtain ⟨hd,hρ,h1⟩ := h1
  exact wp_value (run _ _ h1) (hK _ S _ w ρ Φ hT rfl (NmTo.refl _ _) (PhiTo.refl _ _) hw (by simp only [Rep]; exact ⟨hd,hρ,rfl⟩))
 case h_2 =>
  rename_i cs off hx
  have h1 := evRel he hx
  simp only [Rep] at h1
  obtain ⟨b,base,C,ty,fr,h1,h3,h4⟩ := h1
  exact wp_value (run _ _ h1) (hK _ S _ w ρ Φ hT rfl (NmTo.refl _ _) (PhiTo.refl _ _) hw (by simp only [Rep]; exact ⟨b,base,C,ty,fr,by rw [Nat.add_assoc],h3,h4⟩))
 case h_3 => exact hT.elim

end ops
end Qk

/-
  Each operation of the model does what its counterpart says: slices, strings, what is built.
-/
namespace Qk
open Go Go.RowKit

section ops
variable {G : Gl} {o : Oper}

theorem bnd_ok {Φ : Phi} {ρ : Nm} {S : St} {a : Act} (he : EnvRel G Φ ρ S.env a) {x : Option Operand} {d : Int} {K : Int → Prop} (h : bnd S x d K) :
  ∃ i,K i ∧ ((x = none ∧ i = d) ∨ ∃ y k,x = some y ∧ a.eval y = .int k i) := by
 unfold bnd at h
 split at h
 ·exact ⟨d,h,.inl ⟨rfl,rfl⟩⟩
 ·rename_i y
  split at h
  ·rename_i k i hi
   have h1 := evRel he hi
   simp only [Rep] at h1
   exact ⟨i,h,.inr ⟨y,k,rfl,h1⟩⟩
  ·exact h.elim

theorem sliceBounds_ok {P : Program} {a : Act} {isSlice : Bool} {len cap : Nat} {lo hi : Option Operand} {i j : Int} (w : World)
  (hlo : (lo = none ∧ i = 0) ∨ ∃ y k,lo = some y ∧ a.eval y = .int k i) (hhi : (hi = none ∧ j = len) ∨ ∃ y k,hi = some y ∧ a.eval y = .int k j)
  (h0 : 0 ≤ i) (h1 : i ≤ j) (h2 : j ≤ cap) :
  (Instr.sliceBounds isSlice len cap (lo.map a.eval) (hi.map a.eval) none).run P w = .ok (i.toNat,j.toNat,cap) w := by
 have hj : 0 ≤ j := by omega
 rcases hlo with ⟨rfl,rfl⟩ | ⟨y,k,rfl,hy⟩ <;> rcases hhi with ⟨rfl,rfl⟩ | ⟨z,k',rfl,hz⟩
 ·simp [Instr.sliceBounds]
 ·simp [Instr.sliceBounds,Instr.sliceBound,hz,asIntOf,hj,h2]
 ·have : i ≤ (len : Int) := h1
  simp [Instr.sliceBounds,Instr.sliceBound,hy,asIntOf,h0,this]
 ·simp [Instr.sliceBounds,Instr.sliceBound,hy,hz,asIntOf,h0,hj,h2]
  omega

theorem str_extract (l : List UInt8) (i j : Nat) : (⟨l.toArray⟩ : ByteArray).extract i j = ⟨((l.drop i).take (j - i)).toArray⟩ := by
 apply ByteArray.ext
 rw [ByteArray.data_extract]
 apply Array.ext'
 simp [List.extract]

theorem ok_slS {t : TypeId} {x : Operand} {lo hi : Option Operand} (ho : o.op = .slice t x lo hi none) (ht : G.P.underlying t = some .string) : OpOk G o (ex1 (.slS x lo hi)) := by
 intro B X w0 S K a w ρ Φ Q next he hw hfr hT hK
 simp only [ex1] at hT
 split at hT
 case h_2 => exact hT.elim
 rename_i l hx
 have h1 := evRel he hx
 simp only [Rep] at h1
 obtain ⟨i,hT,hi1⟩ := bnd_ok he hT
 obtain ⟨j,⟨⟨h2,h3,h4⟩,hT⟩,hj1⟩ := bnd_ok he hT
 have hs : (⟨l.toArray⟩ : ByteArray).size = l.length := by simp [ByteArray.size]
 refine wp_value (v := .string ⟨((l.drop i.toNat).take (j.toNat - i.toNat)).toArray⟩) (w' := w) ?_ (hK _ S _ w ρ Φ hT rfl (NmTo.refl _ _) (PhiTo.refl _ _) hw (by simp [Rep]))
 have hb := sliceBounds_ok (P := G.P) (a := a) (isSlice := false) (len := l.length) (cap := l.length) w hi1 hj1 h2 h3 h4
 simp only [execOp,ho,Option.map_none]
 simp only [Sem.run_bind,Instr.sliceAt,run_underlying ht,Result.andThen_ok,Instr.slice,h1,hs]
 simp [hb,str_extract]

theorem ok_slA {t et : TypeId} {n esz : Nat} {i : TypeInfo} {x : Operand} {lo hi : Option Operand} (ho : o.op = .slice t x lo hi none)
  (ht : G.P.underlying t = some (.array n et)) (hi' : G.P.info? et = some i) (hsz : i.size = esz) : OpOk G o (ex1 (.slA esz n x lo hi)) := by
 intro B X w0 S K a w ρ Φ Q next he hw hfr hT hK
 simp only [ex1] at hT
 split at hT
 case h_2 => exact hT.elim
 rename_i m off hx
 have h1 := evRel he hx
 simp only [Rep] at h1
 obtain ⟨hd,hρ,h1⟩ := h1
 obtain ⟨p,hT,hp1⟩ := bnd_ok he hT
 obtain ⟨q,⟨⟨h2,h3,h4⟩,hT⟩,hq1⟩ := bnd_ok he hT
 have hb := sliceBounds_ok (P := G.P) (a := a) (isSlice := false) (len := n) (cap := n) w hp1 hq1 h2 h3 h4
 have run : (execOp a.eval o).run G.P w = .ok (.value (.slice (some (if n = p.toNat then ⟨hd.b,off,none⟩ else (⟨hd.b,off,none⟩ : Addr).add (p.toNat * esz))) (q.toNat - p.toNat) (n - p.toNat))) w := by
  simp only [execOp,ho,Option.map_none]
  simp only [Sem.run_bind,Instr.sliceAt,run_underlying ht,Result.andThen_ok,h1,Instr.sureAddr,Sem.run_pure,hb]
  simp [Go.sizeOf,typeInfo,hi',hsz]
 refine wp_value run (hK _ S _ w ρ Φ hT rfl (NmTo.refl _ _) (PhiTo.refl _ _) hw ?_)
 simp only [Rep]
 refine ⟨hd,_,_,hρ,by omega,rfl,?_⟩
 by_cases e : n = p.toNat
 ·left
  have : q.toNat - p.toNat = 0 := by omega
  simp [this]
 ·right
  rw [if_neg e,addr_add]

theorem ok_slL {t et : TypeId} {esz : Nat} {i : TypeInfo} {x : Operand} {lo hi : Option Operand} (ho : o.op = .slice t x lo hi none)
  (ht : G.P.underlying t = some (.slice et)) (hi' : G.P.info? et = some i) (hsz : i.size = esz) : OpOk G o (ex1 (.slL esz x lo hi)) := by
 intro B X w0 S K a w ρ Φ Q next he hw hfr hT hK
 have run : ∀ (ad : Option Addr) (len cap : Nat) (p q : Int),a.eval x = .slice ad len cap → ((lo = none ∧ p = 0) ∨ ∃ y k,lo = some y ∧ a.eval y = .int k p) → ((hi = none ∧ q = len) ∨ ∃ y k,hi = some y ∧ a.eval y = .int k q) →
   0 ≤ p → p ≤ q → q ≤ cap →
   (execOp a.eval o).run G.P w = .ok (.value (.slice (if cap = p.toNat then ad else ad.map (·.add (p.toNat * esz))) (q.toNat - p.toNat) (cap - p.toNat))) w := by
  intro ad len cap p q h1 hp hq h2 h3 h4
  have hb := sliceBounds_ok (P := G.P) (a := a) (isSlice := true) (len := len) (cap := cap) w hp hq h2 h3 h4
  simp only [execOp,ho,Option.map_none]
  simp only [Sem.run_bind,Instr.sliceAt,run_underlying ht,Result.andThen_ok,Instr.slice,h1,hb]
  simp [Go.sizeOf,typeInfo,hi',hsz]
 simp only [ex1] at hT
 split at hT
 case h_1 =>
  rename_i m off len hx
  have h1 := evRel he hx
  simp only [Rep] at h1
  obtain ⟨hd,hρ,h1⟩ := h1
  split at hT
  case h_2 => exact hT.elim
  rename_i e cs hH
  obtain ⟨p,hT,hp1⟩ := bnd_ok he hT
  obtain ⟨q,⟨⟨he2,h2,h3,h4⟩,hT⟩,hq1⟩ := bnd_ok he hT
  obtain ⟨h5,_⟩ := hw.lstAt hH hρ
  rcases h1 with ⟨n1,n2,n3,n4⟩ | ⟨n1,n2,h6⟩
  ·refine wp_value (run none 0 0 p q n4 hp1 (by rw [n3] at hq1; simpa using hq1) h2 h3 (by omega)) (hK _ S _ w ρ Φ hT rfl (NmTo.refl _ _) (PhiTo.refl _ _) hw ?_)
   simp only [Rep]
   exact ⟨hd,hρ,.inl ⟨n1,by omega,by omega,by simp; omega⟩⟩
  ·rcases h6 with h6 | ⟨h6,h7,ad,c,h8⟩
   ·refine wp_value (run _ _ _ p q h6 hp1 hq1 h2 h3 (by omega)) (hK _ S _ w ρ Φ hT rfl (NmTo.refl _ _) (PhiTo.refl _ _) hw ?_)
    simp only [Rep]
    refine ⟨hd,hρ,.inr ⟨n1,by omega,?_⟩⟩
    by_cases ec : hd.cap - off = p.toNat
    ·rw [if_pos ec]
     by_cases e0 : off + p.toNat = 0
     ·left
      have : off = 0 := by omega
      have h9 : p.toNat = 0 := by omega
      simp [this,h9]
     ·right
      refine ⟨by omega,by omega,?_⟩
      have : q.toNat - p.toNat = 0 := by omega
      rw [this]
      exact ⟨_,_,rfl⟩
    ·left
     rw [if_neg ec]
     simp only [Option.map_some,addr_add,h5,he2]
     rw [show (off + p.toNat) * esz = off * esz + p.toNat * esz from Nat.add_mul _ _ _]
     congr 1
     omega
   ·subst h7
    have hp0 : p = 0 := by omega
    have hq0 : q = 0 := by omega
    subst hp0
    subst hq0
    refine wp_value (run _ _ _ 0 0 h8 hp1 (by simpa using hq1) h2 h3 (by omega)) (hK _ S _ w ρ Φ hT rfl (NmTo.refl _ _) (PhiTo.refl _ _) hw ?_)
    simp only [Rep]
    refine ⟨hd,hρ,.inr ⟨n1,by simpa using n2,.inr ⟨by simpa using h6,rfl,?_⟩⟩⟩
    by_cases ec : c = (0 : Int).toNat
    ·rw [if_pos ec]; exact ⟨_,_,rfl⟩
    ·rw [if_neg ec]; exact ⟨_,_,rfl⟩
 case h_2 =>
  rename_i e len cs hx
  have h1 := evRel he hx
  simp only [Rep] at h1
  obtain ⟨hlen,ad,cap,hcap,h1,hc⟩ := h1
  obtain ⟨p,hT,hp1⟩ := bnd_ok he hT
  obtain ⟨q,⟨⟨rfl,h2,h3,h4⟩,hT⟩,hq1⟩ := bnd_ok he hT
  have hl : ((cs.drop (p.toNat * e)).take ((q.toNat - p.toNat) * e)).length = (q.toNat - p.toNat) * e := by
   have : (p.toNat + (q.toNat - p.toNat)) * e ≤ len * e := Nat.mul_le_mul_right _ (by omega)
   rw [Nat.add_mul] at this
   simp
   omega
  refine wp_value (run _ _ _ p q h1 hp1 hq1 h2 h3 (by omega)) (hK _ S _ w ρ Φ hT rfl (NmTo.refl _ _) (PhiTo.refl _ _) hw ?_)
  simp only [Rep]
  refine ⟨hl,_,_,by omega,rfl,?_⟩
  rcases hc with hc | ⟨b,off,C,ty,fr,rfl,h6,h7⟩
  ·left; simp [hc]
  ·by_cases ec : cap = p.toNat
   ·left
    have : q.toNat - p.toNat = 0 := by omega
    simp [this]
   ·right
    refine ⟨b,off + p.toNat * e,C,ty,fr,by rw [if_neg ec]; simp [addr_add],h6,?_⟩
    exact RepAt.sub h7 _ _
 case h_3 => exact hT.elim

theorem repl_length {α : Type} (n : Nat) (l : List α) : (repl n l).length = n * l.length := by
 induction n with
 | zero => simp [repl]
 | succ n ih => simp [repl,ih,Nat.succ_mul]; omega

theorem repl_get {α : Type} (l : List α) : ∀ (n j : Nat),j < n * l.length → (repl n l)[j]? = l[j % l.length]?
 | 0,j,h => by simp at h
 | n + 1,j,h => by
  simp only [repl]
  rw [List.getElem?_append]
  by_cases hj : j < l.length
  ·rw [if_pos hj,Nat.mod_eq_of_lt hj]
  ·rw [if_neg hj,repl_get l n (j - l.length) (by rw [Nat.succ_mul] at h; omega)]
   rw [Nat.mod_eq_sub_mod (by omega : l.length ≤ j)]

/-- n elements, all of them zero. -/
theorem zeros_ok {G : Gl} {Φ : Phi} {ρ : Nm} (z : Array Value) (n : Nat) (hz : 0 < z.size) (m : Nat) (hm : n ≤ m) :
  RepAt G Φ (repl n (z.toList.map AV.ofConst)) ρ ((Array.range (m * z.size)).map (z[· % z.size]!)) 0 := by
 refine RepAt.mk fun j c hj => ?_
 have hl : j < n * z.size := by
  have := (List.getElem?_eq_some_iff.1 hj).1
  simpa [repl_length] using this
 have hl2 : j < m * z.size := Nat.lt_of_lt_of_le hl (Nat.mul_le_mul_right _ hm)
 rw [repl_get _ _ _ (by simpa using hl)] at hj
 have hmod : j % z.size < z.size := Nat.mod_lt _ hz
 simp [hmod] at hj
 subst hj
 refine ⟨z[j % z.size]!,?_,?_⟩
 ·rw [Nat.zero_add]; simp [hl2]
 ·rw [getElem!_pos z _ hmod]; exact rep_const _ _ _ _

theorem fold_lay (off : Nat) : ∀ (vs : List Value) (i : Nat) (cells : Array Value),off + i + vs.length ≤ cells.size →
  ((vs.zipIdx i).foldl (fun cs (x : Value × Nat) => cs.setIfInBounds (off + x.2) x.1) cells).toList = cells.toList.take (off + i) ++ vs ++ cells.toList.drop (off + i + vs.length)
 | [],i,cells,_ => by simp
 | v :: vs,i,cells,h => by
  simp only [List.zipIdx_cons,List.foldl_cons]
  rw [fold_lay off vs (i + 1) _ (by simp at h ⊢; omega)]
  simp only [Array.toList_setIfInBounds]
  have e := list_seg_step cells.toList (off + i) v vs (by simp at h ⊢; omega)
  simpa [Nat.add_assoc] using e

theorem fill_ok {G : Gl} {Φ : Phi} {ρ : Nm} {S : St} {a : Act} (he : EnvRel G Φ ρ S.env a) (place : Nat → Option (Nat × Nat)) : ∀ (parts : List (Nat × Operand)) (ps : List (Nat × Nat × Operand)) (zs cs : List AV) (Z : Array Value),
  ps.length = parts.length → (∀ (j i : Nat) (x : Operand),parts[j]? = some (i,x) → ∃ off sz : Nat,place i = some (off,sz) ∧ ps[j]? = some (off,sz,x)) →
  Z.size = zs.length → RepAt G Φ zs ρ Z 0 → fillA S zs ps = some cs →
  ∃ C,Instr.fill place Z (parts.map fun x => (x.1,a.eval x.2)) = some C ∧ C.size = cs.length ∧ RepAt G Φ cs ρ C 0 := by
 intro parts
 induction parts with
 | nil =>
  intro ps zs cs Z hl _ hs hr hf
  cases ps with
  | cons => simp at hl
  | nil =>
   simp only [fillA,Option.some.injEq] at hf
   subst hf
   exact ⟨Z,by simp [Instr.fill],hs,hr⟩
 | cons p parts ih =>
  intro ps zs cs Z hl hpl hs hr hf
  cases ps with
  | nil => simp at hl
  | cons q ps =>
   obtain ⟨i,x⟩ := p
   obtain ⟨off,sz,h1,h2⟩ := hpl 0 i x (by simp)
   simp at h2
   subst h2
   simp only [fillA] at hf
   split at hf
   ·cases hf
   rename_i v hv
   have h3 := evRel he hv
   have step : ∀ (vs : List AV),(a.eval x).cells.size = vs.length → RepAt G Φ vs ρ (a.eval x).cells 0 → vs.length = sz → off + sz ≤ zs.length → fillA S (lay zs off vs) ps = some cs →
     ∃ C,Instr.fill place Z (((i,x) :: parts).map fun x => (x.1,a.eval x.2)) = some C ∧ C.size = cs.length ∧ RepAt G Φ cs ρ C 0 := by
    intro vs c1 c2 c3 c4 hf
    have e1 := fold_lay off (a.eval x).cells.toList 0 Z (by rw [Array.length_toList]; omega)
    simp only [Nat.add_zero] at e1
    have c5 : (a.eval x).cells.size = sz := by omega
    simp only [List.map_cons,Instr.fill,h1]
    have hneg : ¬ ((decide ((a.eval x).cells.size ≠ sz) || decide (off + (a.eval x).cells.size > Z.size)) = true) := by
     simp only [Bool.or_eq_true,decide_eq_true_eq]; omega
    rw [if_neg hneg]
    have e2 : (Array.foldl (fun cs (x : Value × Nat) => cs.setIfInBounds (off + x.2) x.1) Z (a.eval x).cells.zipIdx) = (Z.toList.take off ++ (a.eval x).cells.toList ++ Z.toList.drop (off + (a.eval x).cells.toList.length)).toArray := by
     apply Array.ext'
     rw [← Array.foldl_toList,Array.toList_zipIdx]
     exact e1
    refine ih ps (lay zs off vs) cs _ (by simpa using hl) (fun j i' x' hj => hpl (j + 1) i' x' (by simpa using hj)) ?_ ?_ hf
    ·rw [e2,lay_length (cs := zs) (vs := vs) (off := off) (by omega)]
     simp
     omega
    ·rw [e2]
     exact RepAt.lay hr c2 c1 (by omega) (by omega)
   split at hf
   ·rename_i vs
    obtain ⟨c1,c2⟩ := rep_cells h3 (.inr ⟨vs,rfl⟩)
    cases hc : (vs.length == sz && Nat.ble (off + sz) zs.length) with
    | false => rw [hc] at hf; cases hf
    | true =>
     rw [hc] at hf
     simp at hc
     exact step vs c1 c2 hc.1 hc.2 hf
   ·rename_i hna
    cases hc : (v.isOne && sz == 1 && Nat.ble (off + 1) zs.length) with
    | false => rw [hc] at hf; cases hf
    | true =>
     rw [hc] at hf
     simp at hc
     obtain ⟨⟨c3,c4⟩,c5⟩ := hc
     obtain ⟨c1,c2⟩ := rep_cells h3 (.inl c3)
     have e2 : v.cells = [v] := by cases v <;> first | rfl | (simp [AV.isOne] at c3)
     rw [e2] at c1 c2
     refine step [v] c1 c2 (by simp [c4]) (by omega) ?_
     rw [lay_one _ _ _ (by omega)]
     exact hf

theorem foldl_set_size (off : Nat) : ∀ (q : List (Value × Nat)) (Z : Array Value),(q.foldl (fun cs (x : Value × Nat) => cs.setIfInBounds (off + x.2) x.1) Z).size = Z.size
 | [],Z => rfl
 | x :: q,Z => by rw [List.foldl_cons,foldl_set_size off q]; simp

theorem fill_size (place : Nat → Option (Nat × Nat)) : ∀ (parts : List (Nat × Value)) (Z C : Array Value),Instr.fill place Z parts = some C → C.size = Z.size := by
 intro parts
 induction parts with
 | nil => intro Z C h; simp [Instr.fill] at h; rw [h]
 | cons p parts ih =>
  intro Z C h
  obtain ⟨i,v⟩ := p
  simp only [Instr.fill] at h
  split at h
  ·cases h
  ·split at h
   ·cases h
   ·rw [ih _ _ h,← Array.foldl_toList,foldl_set_size]

theorem mapM_places {P : Program} (w : World) (g : Field → Option Nat) : ∀ (fs : List Field),(∀ f ∈ fs,∃ i,P.info? f.type = some i ∧ g f = some i.size) →
  (fs.mapM (fun f => (do let s ← Go.sizeOf f.type; pure (f.offset,s) : Sem (Nat × Nat)))).run P w = .ok (fs.map fun f => (f.offset,(g f).getD 0)) w := by
 intro fs
 induction fs with
 | nil => intro _; simp
 | cons f fs ih =>
  intro h
  obtain ⟨i,h1,h2⟩ := h f (by simp)
  have ih' := ih (fun f hf => h f (by simp [hf]))
  have hs : (Go.sizeOf f.type).run P w = .ok i.size w := by simp [Go.sizeOf,typeInfo,h1]
  simp only [List.mapM_cons,Sem.run_bind,hs,Result.andThen_ok,Sem.run_pure,ih',List.map_cons,h2,Option.getD_some]

theorem ok_buildA {t et : TypeId} {n esz : Nat} {i it : TypeInfo} {z : Value} {parts : List (Nat × Operand)} (ho : o.op = .build t parts.toArray) (ht : G.P.underlying t = some (.array n et))
  (hi : G.P.info? et = some i) (hsz : i.size = esz) (hit : G.P.info? t = some it) (hz : it.zero = some z) :
  OpOk G o (ex1 (.build it.size (z.cells.toList.map AV.ofConst) (parts.map fun p => (p.1 * esz,esz,p.2)))) := by
 intro B X w0 S K a w ρ Φ Q next he hw hfr hT hK
 simp only [ex1] at hT
 split at hT
 case h_2 => exact hT.elim
 rename_i cs hf
 obtain ⟨hlen,hT⟩ := hT
 obtain ⟨C,h1,h2,h3⟩ := fill_ok he (fun i => some (i * esz,esz)) parts _ _ cs z.cells (by simp) (by
  intro j i x hj
  refine ⟨_,_,rfl,?_⟩
  simp [List.getElem?_map,hj]) (by simp) (RepAt.mk fun j c hj => by
   rw [List.getElem?_map] at hj
   cases e : z.cells.toList[j]? with
   | none => rw [e] at hj; cases hj
   | some v =>
    rw [e] at hj; cases hj
    exact ⟨v,by rw [Nat.zero_add]; simpa using e,rep_const _ _ _ _⟩) hf
 refine wp_value (v := .agg C) (w' := w) ?_ (hK _ S _ w ρ Φ hT rfl (NmTo.refl _ _) (PhiTo.refl _ _) hw (by simp only [Rep]; exact ⟨C,rfl,h2,h3⟩))
 simp [execOp,ho,Instr.build,zeroValue,typeInfo,hit,hz,run_underlying ht,Go.sizeOf,hi,hsz,h1]

theorem ok_buildS {t : TypeId} {fs : Array Field} {sz : Field → Option Nat} {it : TypeInfo} {z : Value} {parts : List (Nat × Operand)} (ho : o.op = .build t parts.toArray) (ht : G.P.underlying t = some (.struct fs))
  (hfs : ∀ f ∈ fs.toList,∃ i,G.P.info? f.type = some i ∧ sz f = some i.size) (hit : G.P.info? t = some it) (hz : it.zero = some z)
  (hp : ∀ p ∈ parts,p.1 < fs.size) :
  OpOk G o (ex1 (.build it.size (z.cells.toList.map AV.ofConst) (parts.map fun p => (((fs[p.1]?).map (·.offset)).getD 0,((fs[p.1]?).bind sz).getD 0,p.2)))) := by
 intro B X w0 S K a w ρ Φ Q next he hw hfr hT hK
 simp only [ex1] at hT
 split at hT
 case h_2 => exact hT.elim
 rename_i cs hf
 obtain ⟨hlen,hT⟩ := hT
 have hm := mapM_places w sz fs.toList hfs
 obtain ⟨C,h1,h2,h3⟩ := fill_ok he (fun i => (fs.toList.map fun f => (f.offset,(sz f).getD 0))[i]?) parts _ _ cs z.cells (by simp) (by
  intro j i x hj
  have hlt := hp _ (List.mem_of_getElem? hj)
  simp only at hlt
  have hff : fs[i]? = some fs[i] := Array.getElem?_eq_getElem hlt
  refine ⟨fs[i].offset,(sz fs[i]).getD 0,?_,?_⟩
  ·simp [hff]
  ·simp [List.getElem?_map,hj,hff]) (by simp) (RepAt.mk fun j c hj => by
   rw [List.getElem?_map] at hj
   cases e : z.cells.toList[j]? with
   | none => rw [e] at hj; cases hj
   | some v =>
    rw [e] at hj; cases hj
    exact ⟨v,by rw [Nat.zero_add]; simpa using e,rep_const _ _ _ _⟩) hf
 refine wp_value (v := .agg C) (w' := w) ?_ (hK _ S _ w ρ Φ hT rfl (NmTo.refl _ _) (PhiTo.refl _ _) hw (by simp only [Rep]; exact ⟨C,rfl,h2,h3⟩))
 have hm2 : (fs.mapM (fun f => (do let s ← Go.sizeOf f.type; pure (f.offset,s) : Sem (Nat × Nat)))).run G.P w = .ok ((fs.toList.map fun f => (f.offset,(sz f).getD 0)).toArray) w := by
  rw [Array.mapM_eq_mapM_toList]
  simp only [Sem.run_map,hm,Result.andThen_ok]
 have hz' : (zeroValue t).run G.P w = .ok z w := by simp [zeroValue,typeInfo,hit,hz]
 simp only [execOp,ho,Instr.build,Sem.run_bind,hz',Result.andThen_ok,run_underlying ht,hm2]
 have e1 : (Instr.fill (fun x => ((fs.toList.map fun f => (f.offset,(sz f).getD 0)).toArray)[x]?) z.cells (parts.toArray.map fun p => (p.1,a.eval p.2)).toList) = some C := by
  rw [← h1]
  simp
 rw [e1]
 rfl

theorem ok_bslice {t et : TypeId} {n esz : Nat} {i : TypeInfo} {z : Value} {parts : List (Nat × Operand)} (ho : o.op = .buildSlice t n parts.toArray) (ht : G.P.underlying t = some (.slice et))
  (hi : G.P.info? et = some i) (hsz : i.size = esz) (hz : i.zero = some z) (hze : z.cells.size = esz) (h0 : 0 < esz) (hb : n * esz ≤ 16777216) :
  OpOk G o (ex1 (.bslice esz (z.cells.toList.map AV.ofConst) n (parts.map fun p => (p.1 * esz,esz,p.2)))) := by
 intro B X w0 S K a w ρ Φ Q next he hw hfr hT hK
 simp only [ex1] at hT
 split at hT
 case h_2 => exact hT.elim
 rename_i cs hf
 have hzc : ∀ (Z : Array Value),(if n * esz = 0 then (#[] : Array Value) else z.cells) = Z → Z = z.cells ∨ n = 0 := by
  intro Z h
  by_cases e : n * esz = 0
  ·right
   rcases Nat.mul_eq_zero.1 e with h1 | h1
   ·exact h1
   ·omega
  ·left; rw [if_neg e] at h; exact h.symm
 have hr : RepAt G Φ (repl n (z.cells.toList.map AV.ofConst)) ρ ((Array.range (n * esz)).map (z.cells[· % z.cells.size]!)) 0 := by
  have := zeros_ok (G := G) (Φ := Φ) (ρ := ρ) z.cells n (by omega) n (Nat.le_refl _)
  rwa [hze] at this ⊢
 obtain ⟨C,h1,h2,h3⟩ := fill_ok he (fun i => some (i * esz,esz)) parts _ _ cs ((Array.range (n * esz)).map (z.cells[· % z.cells.size]!)) (by simp) (by
  intro j i x hj
  refine ⟨_,_,rfl,?_⟩
  simp [List.getElem?_map,hj]) (by simp [repl_length,hze]) hr hf
 have hC : C.size = n * esz := by
  have := fill_size (fun i => some (i * esz,esz)) (parts.map fun x => (x.1,a.eval x.2)) _ C h1
  simpa using this
 have hz' : (zeroValue et).run G.P w = .ok z w := by simp [zeroValue,typeInfo,hi,hz]
 have run : (execOp a.eval o).run G.P w = .ok (.value (.slice (some ⟨w.heap.size,0,none⟩) n n)) { w with heap := w.heap.push (.cells C et) } := by
  have hnb : ¬ (n * esz > 2 ^ 24) := by omega
  have e1 : Instr.fill (fun i => some (i * esz,esz)) ((Array.range (n * esz)).map ((if n * esz = 0 then (#[] : Array Value) else z.cells)[· % (if n * esz = 0 then (#[] : Array Value) else z.cells).size]!)) (parts.toArray.map fun p => (p.1,a.eval p.2)).toList = some C := by
   rw [← h1]
   have r0 : Array.range 0 = #[] := rfl
   by_cases e : n * esz = 0
   ·simp [e,r0]
   ·simp [e]
  by_cases e : n * esz = 0
  ·rw [e] at e1
   have r0 : Array.range 0 = #[] := rfl
   simp only [execOp,ho,Instr.buildSlice,Sem.run_bind,run_underlying ht,Result.andThen_ok]
   simp [Go.sizeOf,typeInfo,hi,hsz,e,newRow,r0] at e1 ⊢
   simp [e1]
  ·simp only [if_neg e] at e1
   simp only [execOp,ho,Instr.buildSlice,Sem.run_bind,run_underlying ht,Result.andThen_ok]
   simp [Go.sizeOf,typeInfo,hi,hsz,e,newRow,hnb,zeroValue,hz] at e1 ⊢
   simp [e1]
 obtain ⟨ρ',h4,h5,h6⟩ := hw.newLst hfr C et (0,0) cs esz n n hC (by omega) (Nat.le_refl _) (fun i _ => by simp) h3
 exact wp_value run (hK _ _ _ _ ρ' Φ hT rfl h4 (PhiTo.refl _ _) h5 h6)

theorem ok_s2b {src dst e : TypeId} {x : Operand} (ho : o.op = .convert src dst x) (hs : G.P.underlying src = some .string) (hd : G.P.underlying dst = some (.slice e)) (he' : G.P.underlying e = some (.int .u8)) :
  OpOk G o (ex1 (.s2b x)) := by
 intro B X w0 S K a w ρ Φ Q next he hw hfr hT hK
 simp only [ex1] at hT
 split at hT
 case h_2 => exact hT.elim
 rename_i l hx
 have h1 := evRel he hx
 simp only [Rep] at h1
 have hsz : (⟨l.toArray⟩ : ByteArray).size = l.length := by simp [ByteArray.size]
 have hrun := run_bytes_of_string (P := G.P) w src dst e ⟨l.toArray⟩ hs hd he'
 rw [hsz] at hrun
 have hcap := grownCap_ge w l.length 0 e
 have hrow : (bytesRow ⟨l.toArray⟩ (grownCap w l.length 0 e)).size = grownCap w l.length 0 e := by
  simp [bytesRow]; omega
 have hrep : RepAt G Φ (l.map fun b => AV.int .u8 b.toNat) ρ (bytesRow ⟨l.toArray⟩ (grownCap w l.length 0 e)) 0 := by
  refine RepAt.mk fun j c hj => ?_
  rw [List.getElem?_map] at hj
  cases e1 : l[j]? with
  | none => rw [e1] at hj; cases hj
  | some b =>
   rw [e1] at hj; cases hj
   have hjl := (List.getElem?_eq_some_iff.1 e1).1
   refine ⟨.int .u8 b.toNat,?_,by simp [Rep]⟩
   rw [Nat.zero_add]
   simp only [bytesRow]
   rw [Array.getElem?_append_left (by simp; omega)]
   simp [e1]
 have hw2 := hw.drew (w.drawn + 1)
 obtain ⟨ρ',h4,h5,h6⟩ := hw2.newLst hfr (bytesRow ⟨l.toArray⟩ (grownCap w l.length 0 e)) e ((bytesRow ⟨l.toArray⟩ (grownCap w l.length 0 e)).size,(bytesRow ⟨l.toArray⟩ (grownCap w l.length 0 e)).size + 1) (l.map fun b => AV.int .u8 b.toNat) 1 (grownCap w l.length 0 e) l.length
  (by rw [hrow]; omega) (by rw [hrow]; simpa using hcap) hcap (fun i hi => by simp; omega) hrep
 refine wp_value ?_ (hK _ _ _ _ ρ' Φ hT rfl h4 (PhiTo.refl _ _) h5 h6)
 simp only [execOp,ho,Sem.run_bind,h1,hrun]
 rfl

theorem bytes_of {G : Gl} {Φ : Phi} {ρ : Nm} {cs : List AV} {C : Array Value} {i : Nat} {l : List UInt8} (h : RepAt G Φ cs ρ C i) (hl : cs = l.map fun b => AV.int .u8 b.toNat) (j : Nat) (hj : j < l.length) :
  C[i + j]? = some (.int .u8 (l[j].toNat : Int)) := by
 subst hl
 obtain ⟨y,hy,hr⟩ := RepAt.get h (j := j) (c := AV.int .u8 l[j].toNat) (by simp [List.getElem?_eq_getElem hj])
 simp only [Rep] at hr
 rw [hy,hr]

theorem ok_b2s {src dst e : TypeId} {x : Operand} (ho : o.op = .convert src dst x) (hs : G.P.underlying src = some (.slice e)) (he' : G.P.underlying e = some (.int .u8)) (hd : G.P.underlying dst = some .string) :
  OpOk G o (ex1 (.b2s x)) := by
 intro B X w0 S K a w ρ Φ Q next he hw hfr hT hK
 have run : ∀ (b off cap : Nat) (C : Array Value) (ty : TypeId) (fr : Nat × Nat) (l : List UInt8),a.eval x = .slice (some ⟨b,off,none⟩) l.length cap → w.heap[b]? = some (.cells C ty fr) →
   (∀ j (hj : j < l.length),C[off + j]? = some (.int .u8 (l[j].toNat : Int))) → (execOp a.eval o).run G.P w = .ok (.value (.string ⟨l.toArray⟩)) w := by
  intro b off cap C ty fr l h1 h2 h3
  have := run_convert_bytes_back (P := G.P) w src dst e ⟨b,off,none⟩ cap l hs he' hd (fun j hj => by rw [addr_add,cell_of h2]; exact h3 j hj)
  simp only [execOp,ho,Sem.run_bind,h1,this]
  rfl
 have run0 : ∀ (ad : Option Addr) (cap : Nat),a.eval x = .slice ad 0 cap → (execOp a.eval o).run G.P w = .ok (.value (.string ⟨([] : List UInt8).toArray⟩)) w := by
  intro ad cap h1
  cases ad with
  | none =>
   have := run_convert_bytes_nil (P := G.P) w src e hs he' 0 cap dst hd
   simp only [execOp,ho,Sem.run_bind,h1,this]
   rfl
  | some ad =>
   have := run_convert_bytes_back (P := G.P) w src dst e ad cap [] hs he' hd (fun j hj => by simp at hj)
   simp only [List.length_nil] at this
   simp only [execOp,ho,Sem.run_bind,h1,this]
   rfl
 simp only [ex1] at hT
 split at hT
 case h_1 =>
  rename_i n off len hx
  have h1 := evRel he hx
  simp only [Rep] at h1
  obtain ⟨hdl,hρ,h1⟩ := h1
  split at hT
  case h_2 => exact hT.elim
  rename_i e1 cs hH
  obtain ⟨rfl,l,⟨hl,hlen⟩,hT⟩ := hT
  subst hlen
  rcases h1 with ⟨_,_,h3,h4⟩ | ⟨hn,h2,h4 | ⟨_,h3,ad,c,h4⟩⟩
  ·have hl0 : l = [] := List.length_eq_zero_iff.1 h3
   subst hl0
   exact wp_value (run0 _ _ h4) (hK _ S _ w ρ Φ hT rfl (NmTo.refl _ _) (PhiTo.refl _ _) hw (by simp [Rep]))
  ·obtain ⟨h5,h6 | ⟨_,_,C,ty,fr,h6,h7,h8,h9,h10⟩⟩ := hw.lstAt hH hρ
   ·rw [hn] at h6; cases h6.1
   ·rw [h5,Nat.mul_one] at h4
    have := RepAt.sub h10 off l.length
    rw [Nat.zero_add] at this
    exact wp_value (run _ _ _ _ _ _ _ h4 h6 (fun j hj => bytes_of this hl j hj)) (hK _ S _ w ρ Φ hT rfl (NmTo.refl _ _) (PhiTo.refl _ _) hw (by simp [Rep]))
  ·have hl0 : l = [] := List.length_eq_zero_iff.1 h3
   subst hl0
   exact wp_value (run0 _ _ h4) (hK _ S _ w ρ Φ hT rfl (NmTo.refl _ _) (PhiTo.refl _ _) hw (by simp [Rep]))
 case h_2 =>
  rename_i n off len e1 hx
  have h1 := evRel he hx
  simp only [Rep] at h1
  obtain ⟨hdl,ad,c,hρ,_,h1,had⟩ := h1
  split at hT
  case h_2 => exact hT.elim
  rename_i cs hH
  obtain ⟨rfl,l,⟨hl,hlen⟩,hT⟩ := hT
  subst hlen
  by_cases h0 : l.length = 0
  ·have hl0 : l = [] := List.length_eq_zero_iff.1 h0
   subst hl0
   exact wp_value (run0 _ _ h1) (hK _ S _ w ρ Φ hT rfl (NmTo.refl _ _) (PhiTo.refl _ _) hw (by simp [Rep]))
  ·rcases had with had | had
   ·omega
   ·subst had
    obtain ⟨_,C,ty,fr,h6,h7,h9,h10⟩ := hw.cellsAt hH hρ
    have := RepAt.sub h10 off l.length
    rw [Nat.zero_add] at this
    exact wp_value (run _ _ _ _ _ _ _ h1 h6 (fun j hj => bytes_of this hl j hj)) (hK _ S _ w ρ Φ hT rfl (NmTo.refl _ _) (PhiTo.refl _ _) hw (by simp [Rep]))
 case h_3 =>
  rename_i e1 len cs hx
  have h1 := evRel he hx
  simp only [Rep] at h1
  obtain ⟨rfl,l,⟨hl,hlen⟩,hT⟩ := hT
  subst hlen
  obtain ⟨hcs,ad,cap,_,h1,h2 | ⟨b,off,C,ty,fr,rfl,h6,h7⟩⟩ := h1
  ·have hl0 : l = [] := by rw [h2] at hl; simpa using hl.symm
   subst hl0
   exact wp_value (run0 _ _ h1) (hK _ S _ w ρ Φ hT rfl (NmTo.refl _ _) (PhiTo.refl _ _) hw (by simp [Rep]))
  ·exact wp_value (run _ _ _ _ _ _ _ h1 (hw.phi _ _ h6) (fun j hj => bytes_of h7 hl j hj)) (hK _ S _ w ρ Φ hT rfl (NmTo.refl _ _) (PhiTo.refl _ _) hw (by simp [Rep]))
 case h_4 =>
  rename_i n c hx
  have h1 := evRel he hx
  simp only [Rep] at h1
  have := run_convert_bytes_nil (P := G.P) w src e hs he' n c dst hd
  refine wp_value (v := .string ByteArray.empty) (w' := w) ?_ (hK _ S _ w ρ Φ hT rfl (NmTo.refl _ _) (PhiTo.refl _ _) hw (by simp only [Rep]; rfl))
  simp only [execOp,ho,Sem.run_bind,h1,this]
  rfl
 case h_5 => exact hT.elim

end ops
end Qk

/-
  Each operation of the model does what its counterpart says: append, make, equality.
-/
namespace Qk
open Go Go.RowKit

section wf
variable {G : Gl} {B : Nat} {X : Nat → Prop} {w0 : World} {ρ : Nm} {Φ : Phi} {H : Nat → Option AO} {nx : Nat} {w : World}

/-- An object passes to the next name. -/
theorem Wf0.pass (h : Wf0 G B X w0 ρ Φ H w) (hfr : ρ nx = none) {n : Nat} {o : AO} {hd : Hd} (hn : H n = some o) (hr : ρ n = some hd) :
  Wf0 G B X w0 (upd ρ nx (some hd)) Φ (upd (upd H n none) nx (some o)) w := by
 have hle := NmLe.upd hfr hd
 refine ⟨h.os,h.tape,h.output,h.size,h.base,h.frame,h.phi,h.gb,?_,?_⟩
 ·intro m o' e
  by_cases hm : m = nx
  ·subst hm
   rw [upd_same] at e; cases e
   obtain ⟨x,h1,h2,h3⟩ := h.objs n o hn
   rw [hr] at h1; cases h1
   exact ⟨hd,upd_same _ _ _,ORep.mono (PhiLe.refl _) hle h.phi (fun _ _ => rfl) h2,h3⟩
  ·rw [upd_ne _ _ hm] at e
   have hmn : m ≠ n := by intro e2; subst e2; rw [upd_same] at e; cases e
   rw [upd_ne _ _ hmn] at e
   obtain ⟨x,h1,h2,h3⟩ := h.objs m o' e
   exact ⟨x,by rw [upd_ne _ _ hm]; exact h1,ORep.mono (PhiLe.refl _) hle h.phi (fun _ _ => rfl) h2,h3⟩
 ·intro i m x y him e1 e2 e3 e4
  have key : ∀ k z,upd (upd H n none) nx (some o) k ≠ none → upd ρ nx (some hd) k = some z → ∃ k',(k = nx → k' = n) ∧ (k ≠ nx → k' = k ∧ k ≠ n) ∧ H k' ≠ none ∧ ρ k' = some z := by
   intro k z a1 a2
   by_cases hk : k = nx
   ·subst hk
    rw [upd_same] at a2; cases a2
    exact ⟨n,fun _ => rfl,fun e => absurd rfl e,by rw [hn]; simp,hr⟩
   ·rw [upd_ne _ _ hk] at a1 a2
    have hkn : k ≠ n := by intro e; subst e; rw [upd_same] at a1; exact a1 rfl
    rw [upd_ne _ _ hkn] at a1
    exact ⟨k,fun e => absurd e hk,fun _ => ⟨rfl,hkn⟩,a1,a2⟩
  obtain ⟨i',b1,b2,b3,b4⟩ := key i x e1 e3
  obtain ⟨m',c1,c2,c3,c4⟩ := key m y e2 e4
  refine h.disj i' m' x y ?_ b3 c3 b4 c4
  by_cases hi : i = nx
  ·by_cases hm : m = nx
   ·omega
   ·rw [b1 hi,(c2 hm).1]; exact fun e => (c2 hm).2 e.symm
  ·by_cases hm : m = nx
   ·rw [c1 hm,(b2 hi).1]; exact (b2 hi).2
   ·rw [(b2 hi).1,(c2 hm).1]; exact him

theorem upd_upd {α : Type} (f : Nat → Option α) (k : Nat) (u v : Option α) : upd (upd f k u) k v = upd f k v := by
 funext n
 by_cases h : n = k
 ·subst h; rw [upd_same,upd_same]
 ·rw [upd_ne _ _ h,upd_ne _ _ h,upd_ne _ _ h]

theorem RepAt.append {cs ds : List AV} {C : Array Value} (h : RepAt G Φ cs ρ C 0) (h2 : RepAt G Φ ds ρ C cs.length) : RepAt G Φ (cs ++ ds) ρ C 0 := by
 refine RepAt.mk fun j c hj => ?_
 rw [List.getElem?_append] at hj
 split at hj
 ·exact RepAt.get h hj
 ·obtain ⟨x,hx,hr⟩ := RepAt.get h2 hj
  exact ⟨x,by rw [← hx]; congr 1; omega,hr⟩

theorem RepAt.congr {cs : List AV} {C D : Array Value} {i j : Nat} (h : RepAt G Φ cs ρ C i) (he : ∀ k,k < cs.length → D[j + k]? = C[i + k]?) : RepAt G Φ cs ρ D j := by
 refine RepAt.mk fun k c hk => ?_
 obtain ⟨x,hx,hr⟩ := RepAt.get h hk
 exact ⟨x,by rw [he k (List.getElem?_eq_some_iff.1 hk).1]; exact hx,hr⟩

theorem append_room {P : Program} {w : World} {t u ty e : TypeId} {i : TypeInfo} {du : TypeDesc} {esz : Nat} (ht : P.underlying t = some (.slice e)) (hu : P.underlying u = some du)
  (hdu : du = .string ∨ ∃ e',du = .slice e') (hi : P.info? e = some i) (hsz : i.size = esz) {x : Value} {m len cap : Nat} {news : Array Value} (base : Option Addr)
  (hlen : (Builtin.lenOf x).run P w = .ok m w) (hfirst : (Builtin.firstCells esz m x).run P w = .ok news w) (hroom : len + m ≤ cap) (w' : World)
  (hst : match base with | some a => (storeCells (a.add (len * esz)) news.toList).run P w = .ok () w' | none => w' = w) :
  (Builtin.append_ #[t,u] ty #[.slice base len cap,x]).run P w = .ok (.slice base (len + m) cap) w' := by
 have hfirst' : (Builtin.firstCells i.size m x).run P w = .ok news w := by rw [hsz]; exact hfirst
 rcases hdu with rfl | ⟨e',rfl⟩ <;> cases base with
 | none =>
  simp only at hst
  subst hst
  simp [Builtin.append_,run_underlying ht,run_underlying hu,Go.sizeOf,typeInfo,hi,hlen,hroom,hfirst']
 | some a =>
  simp only at hst
  rw [← hsz] at hst
  simp [Builtin.append_,run_underlying ht,run_underlying hu,Go.sizeOf,typeInfo,hi,hlen,hroom,hfirst',hst]

theorem append_grow {P : Program} {w : World} {t u ty e : TypeId} {i : TypeInfo} {z : Value} {du : TypeDesc} {esz bytes : Nat} (ht : P.underlying t = some (.slice e)) (hu : P.underlying u = some du)
  (hdu : du = .string ∨ ∃ e',du = .slice e') (hi : P.info? e = some i) (hz : i.zero = some z) (hsz : i.size = esz) (hby : i.bytes = bytes) (hb0 : 0 < bytes) {x : Value} {m len cap : Nat} {old news : Array Value} (base : Option Addr)
  (hlen : (Builtin.lenOf x).run P w = .ok m w) (hfirst : (Builtin.firstCells esz m x).run P w.drew = .ok news w.drew) (hold : (Builtin.firstCells esz len (.slice base len cap)).run P w.drew = .ok old w.drew)
  (hroom : cap < len + m) (hbytes : (len + m) * bytes ≤ 140737488355328) :
  (Builtin.append_ #[t,u] ty #[.slice base len cap,x]).run P w = .ok (.slice (some ⟨w.heap.size,0,none⟩) (len + m) (grownCap w (len + m) cap e))
   (w.drew.alloc (.cells (old ++ news ++ Builtin.zeroCells z.cells (grownCap w (len + m) cap e - (len + m))) e)) := by
 subst hsz
 subst hby
 have hfits := growslice_fits hroom hbytes
 have hn1 : ¬ (len + m ≤ cap) := by omega
 have hn2 : ¬ (281474976710656 < Builtin.nextslicecap (len + m) cap * i.bytes) := by omega
 have h63' : ¬ (9223372036854775807 < ((len : Int) + (m : Int))) := by
  have : (len + m) * 1 ≤ (len + m) * i.bytes := Nat.mul_le_mul_left _ hb0
  omega
 rcases hdu with rfl | ⟨e',rfl⟩ <;>
  simp [Builtin.append_,run_underlying ht,run_underlying hu,Go.sizeOf,typeInfo,zeroValue,hi,hz,hlen,hn1,hn2,h63',Question.forced,hfirst,hold,newRow,grownCap]

theorem Wf0.append {t u ty e : TypeId} {i : TypeInfo} {z : Value} {du : TypeDesc} {esz bytes : Nat} (hw : Wf0 G B X w0 ρ Φ H w) (hfx : ρ nx = none) (ht : G.P.underlying t = some (.slice e)) (hu : G.P.underlying u = some du)
  (hdu : du = .string ∨ ∃ e',du = .slice e') (hi : G.P.info? e = some i) (hz : i.zero = some z) (hsz : i.size = esz) (hby : i.bytes ≤ bytes) (hib : 0 < i.bytes) (hzs : z.cells.size = esz) (hbt : bytes = 1 → e = G.bt)
  {n len m : Nat} {τ : Bool} {cs ds : List AV} {v x : Value} {news : Array Value} (hH : H n = some (.ls τ esz cs)) (hfull : cs.length = len * esz) (hv : Rep G Φ (.sl n 0 len) ρ v)
  (hds : ds.length = m * esz) (hns : news.size = ds.length) (hrep : RepAt G Φ ds ρ news 0) (hone : ∀ y ∈ news.toList,y.oneCell' = true)
  (hlen : (Builtin.lenOf x).run G.P w = .ok m w) (hfirst : ∀ w' : World,w'.heap = w.heap → (Builtin.firstCells esz m x).run G.P w' = .ok news w') (hbytes : (len + m) * bytes ≤ 140737488355328) :
  ∃ v' w' ρ',(Builtin.append_ #[t,u] ty #[v,x]).run G.P w = .ok v' w' ∧ NmTo nx (nx + 1) ρ ρ' ∧ Wf0 G B X w0 ρ' Φ (upd (upd H n none) nx (some (.ls (τ && Nat.beq bytes 1) esz (cs ++ ds)))) w' ∧ Rep G Φ (.sl nx 0 (len + m)) ρ' v' := by
 simp only [Rep] at hv
 obtain ⟨hd,hρ,hv⟩ := hv
 have hnn : n ≠ nx := by intro e; subst e; rw [hfx] at hρ; cases hρ
 obtain ⟨hes,hobj⟩ := hw.lstAt hH hρ
 have hb0 : 0 < bytes := Nat.lt_of_lt_of_le hib hby
 have hbytes' : (len + m) * i.bytes ≤ 140737488355328 := Nat.le_trans (Nat.mul_le_mul_left _ hby) hbytes
 have hty := hw.tyLst hH hρ
 have hand : (τ && Nat.beq bytes 1) = true → τ = true ∧ bytes = 1 := by
  intro h
  rw [Bool.and_eq_true] at h
  exact ⟨h.1,Nat.eq_of_beq_eq_true h.2⟩
 have hmul : (len + m) * esz = cs.length + ds.length := by rw [Nat.add_mul]; omega
 -- the memory grows
 have grow : ∀ (base : Option Addr) (cap : Nat) (old : Array Value),v = .slice base len cap → cap < len + m → old.size = cs.length → RepAt G Φ cs ρ old 0 →
   (Builtin.firstCells esz len (.slice base len cap)).run G.P w.drew = .ok old w.drew →
   ∃ v' w' ρ',(Builtin.append_ #[t,u] ty #[v,x]).run G.P w = .ok v' w' ∧ NmTo nx (nx + 1) ρ ρ' ∧ Wf0 G B X w0 ρ' Φ (upd (upd H n none) nx (some (.ls (τ && Nat.beq bytes 1) esz (cs ++ ds)))) w' ∧ Rep G Φ (.sl nx 0 (len + m)) ρ' v' := by
  intro base cap old h1 h2 h3 h4 h5
  subst h1
  have hge := grownCap_ge w (len + m) cap e
  have run := append_grow (ty := ty) ht hu hdu hi hz hsz rfl hib base hlen (hfirst w.drew rfl) h5 h2 hbytes'
  have hC : (old ++ news ++ Builtin.zeroCells z.cells (grownCap w (len + m) cap e - (len + m))).size = grownCap w (len + m) cap e * esz := by
   rw [Array.size_append,Array.size_append,size_zeroCells,hzs,h3,hns,← hmul,← Nat.add_mul]
   congr 1
   omega
  have hrep2 : RepAt G Φ (cs ++ ds) ρ (old ++ news ++ Builtin.zeroCells z.cells (grownCap w (len + m) cap e - (len + m))) 0 := by
   refine RepAt.append (RepAt.congr h4 fun k hk => ?_) (RepAt.congr hrep fun k hk => ?_)
   ·rw [Nat.zero_add,Array.append_assoc,Array.getElem?_append_left (by omega)]
   ·rw [Nat.zero_add,Array.append_assoc,Array.getElem?_append_right (by omega),h3,Nat.add_sub_cancel_left,Array.getElem?_append_left (by omega)]
  obtain ⟨ρ',g1,g2,g3⟩ := (hw.drew (w.drawn + 1)).newLst hfx (old ++ news ++ Builtin.zeroCells z.cells (grownCap w (len + m) cap e - (len + m))) e (0,0) (cs ++ ds) esz (grownCap w (len + m) cap e) (len + m) hC
   (by rw [List.length_append,hC,← hmul]; exact Nat.mul_le_mul_right _ hge) hge (fun i _ => by simp) hrep2 (τ && Nat.beq bytes 1) (fun e1 => hbt (hand e1).2)
  refine ⟨_,_,ρ',run,g1,g2.sub ?_,g3⟩
  intro k o hk
  by_cases hkx : k = nx
  ·subst hkx; rw [upd_same] at hk ⊢; exact hk
  ·rw [upd_ne _ _ hkx] at hk ⊢
   by_cases hkn : k = n
   ·subst hkn; rw [upd_same] at hk; cases hk
   ·rw [upd_ne _ _ hkn] at hk; exact hk
 rcases hobj with ⟨n1,n2,n3⟩ | ⟨n1,n2,C,ty',fr,hC,hCs,hcs,hfr,hr⟩
 ·-- a nil slice
  have hv' : v = .slice none 0 0 ∧ len = 0 := by
   rcases hv with ⟨_,_,h3,h4⟩ | ⟨h1,_⟩
   ·exact ⟨h4,h3⟩
   ·rw [n1] at h1; cases h1
  obtain ⟨rfl,rfl⟩ := hv'
  by_cases hm : m = 0
  ·subst hm
   have hd0 : ds = [] := List.length_eq_zero_iff.1 (by simpa using hds)
   subst hd0
   refine ⟨.slice none 0 0,w,upd ρ nx (some hd),?_,NmTo.new hfx hd,?_,?_⟩
   ·exact append_room ht hu hdu hi hsz none hlen (hfirst w rfl) (Nat.le_refl _) w rfl
   ·have hw2 := hw.write (o := .ls (τ && Nat.beq bytes 1) esz cs) (w' := w) hH rfl hρ rfl rfl rfl rfl (fun _ _ => rfl) ⟨⟨hes,.inl ⟨n1,n2,n3⟩⟩,fun _ e2 => by rw [n1] at e2; cases e2⟩
    have := hw2.pass hfx (upd_same _ _ _) hρ
    rw [upd_upd] at this
    simpa using this
   ·simp only [Rep]
    exact ⟨hd,upd_same _ _ _,.inl ⟨n1,rfl,rfl,rfl⟩⟩
  ·exact grow none 0 #[] rfl (by omega) (by simp [n2]) (by rw [n2]; simp [RepAt]) (by simp [Builtin.firstCells])
 ·have hv' : len ≤ hd.cap ∧ v = .slice (some ⟨hd.b,0,none⟩) len hd.cap := by
   rcases hv with ⟨h1,_⟩ | ⟨_,h2,h3 | ⟨h3,_⟩⟩
   ·rw [n1] at h1; cases h1
   ·exact ⟨by omega,by simpa using h3⟩
   ·omega
  obtain ⟨hlc,rfl⟩ := hv'
  have hold : ∀ w' : World,w'.heap = w.heap → (Builtin.firstCells esz len (.slice (some ⟨hd.b,0,none⟩) len hd.cap)).run G.P w' = .ok (C.extract 0 (len * esz)) w' := by
   intro w' he
   have := load_row (P := G.P) (w := w') (b := hd.b) (C := C) (ty := ty') (fr := fr) (by rw [he]; exact hC) 0 (len * esz) (by rw [Nat.zero_add,hCs]; exact Nat.mul_le_mul_right _ hlc)
   simpa [Builtin.firstCells] using this
  by_cases hroom : len + m ≤ hd.cap
  ·have hfit : len * esz + ds.length ≤ C.size := by rw [hCs,hds,← Nat.add_mul]; exact Nat.mul_le_mul_right _ hroom
   have hst := run_storeCells_uf G.P hd.b (len * esz) ty' fr news.toList 0 C w hC hfr (by simp only [Array.length_toList]; omega) hone
   rw [Nat.add_zero] at hst
   have run := append_room (ty := ty) ht hu hdu hi hsz (some ⟨hd.b,0,none⟩) hlen (hfirst w rfl) hroom _ (by simp only [addr_add,Nat.zero_add]; exact hst)
   have hsz2 : (C.toList.take (len * esz) ++ news.toList ++ C.toList.drop (len * esz + news.toList.length)).toArray.size = C.size := by simp; omega
   have hrep2 : RepAt G Φ (cs ++ ds) ρ (C.toList.take (len * esz) ++ news.toList ++ C.toList.drop (len * esz + news.toList.length)).toArray 0 := by
    have hl1 : (C.toList.take (len * esz)).length = cs.length := by simp; omega
    refine RepAt.append (RepAt.congr hr fun k hk => ?_) (RepAt.congr hrep fun k hk => ?_)
    ·rw [Nat.zero_add,List.getElem?_toArray,List.append_assoc,List.getElem?_append_left (by omega),List.getElem?_take_of_lt (by omega)]
     simp
    ·rw [Nat.zero_add,List.getElem?_toArray,List.append_assoc,List.getElem?_append_right (by omega),hl1,Nat.add_sub_cancel_left,List.getElem?_append_left (by simp; omega)]
     simp
   have hw2 := hw.write (n := n) (hd := hd) (o := .ls (τ && Nat.beq bytes 1) esz (cs ++ ds)) (w' := w.setRow hd.b (C.toList.take (len * esz) ++ news.toList ++ C.toList.drop (len * esz + news.toList.length)).toArray) hH rfl hρ rfl rfl rfl (by simp)
    (fun k hk => setRow_other w hd.b k _ (by rw [n2] at hk; simpa using hk))
    ⟨⟨hes,.inr ⟨n1,n2,_,ty',fr,setRow_heap w hd.b C _ ty' fr hC,by rw [hsz2]; exact hCs,by rw [hsz2,List.length_append]; omega,by rw [hsz2]; exact hfr,hrep2⟩⟩,fun e1 e2 => by
     obtain ⟨C',fr',h6⟩ := hty (hand e1).1 e2
     rw [hC] at h6; cases h6
     exact ⟨_,_,setRow_heap w hd.b C _ _ fr hC⟩⟩
   have hw3 := hw2.pass hfx (upd_same _ _ _) hρ
   rw [upd_upd] at hw3
   refine ⟨_,_,_,run,NmTo.new hfx hd,hw3,?_⟩
   simp only [Rep]
   exact ⟨hd,upd_same _ _ _,.inr ⟨n1,by omega,.inl (by simp)⟩⟩
  ·exact grow _ hd.cap (C.extract 0 (len * esz)) rfl (by omega) (by simp; omega) (RepAt.congr hr fun k hk => by
    rw [Nat.zero_add,Array.getElem?_extract_of_lt (by simp; omega)]; simp) (hold _ rfl)
end wf

section ops
variable {G : Gl} {o : Oper}

theorem ones_of {Φ : Phi} {ρ : Nm} {ds : List AV} {A : Array Value} (h : RepAt G Φ ds ρ A 0) (hs : A.size = ds.length) (ha : AllOne ds) : ∀ y ∈ A.toList,y.oneCell' = true := by
 intro y hy
 obtain ⟨j,hj,rfl⟩ := List.getElem_of_mem hy
 have hj' : j < ds.length := by simpa [hs] using hj
 obtain ⟨z,hz,hr⟩ := RepAt.get h (List.getElem?_eq_getElem hj')
 rw [Nat.zero_add] at hz
 have : A.toList[j] = z := by
  have := Array.getElem?_eq_some_iff.1 hz
  simpa using this.2
 rw [this]
 exact rep_isOne hr (ha _ (List.getElem_mem hj'))

theorem AllOne.sub {ds : List AV} (h : AllOne ds) (i n : Nat) : AllOne ((ds.drop i).take n) := fun c hc => h c (List.mem_of_mem_drop (List.mem_of_mem_take hc))

/-- The cells of a slice, read in any world of the same memory. -/
theorem firstCells_ok {P : Program} {w : World} {b off m cap esz : Nat} {C : Array Value} {ty : TypeId} {fr : Nat × Nat} (h : w.heap[b]? = some (.cells C ty fr)) (hl : off + m * esz ≤ C.size) (len : Nat) :
  ∀ w' : World,w'.heap = w.heap → (Builtin.firstCells esz m (.slice (some ⟨b,off,none⟩) len cap)).run P w' = .ok (C.extract off (off + m * esz)) w' := by
 intro w' he
 have := load_row (P := P) (w := w') (b := b) (C := C) (ty := ty) (fr := fr) (by rw [he]; exact h) off (m * esz) hl
 simpa [Builtin.firstCells] using this

theorem firstCells_zero {P : Program} {esz : Nat} (ad : Option Addr) (len cap : Nat) : ∀ w' : World,(Builtin.firstCells esz 0 (.slice ad len cap)).run P w' = .ok #[] w' := by
 intro w'
 cases ad <;> simp [Builtin.firstCells,loadCells,loadCellsFrom]

theorem ok_app {t u e : TypeId} {i : TypeInfo} {z : Value} {du : TypeDesc} {esz bytes : Nat} {x y : Operand}
  (ho : o.op = .call { callee := .builtin .append,args := #[x,y],argTypes := #[t,u] })
  (ht : G.P.underlying t = some (.slice e)) (hu : G.P.underlying u = some du)
  (hdu : du = .string ∨ ∃ e',du = .slice e') (hi : G.P.info? e = some i) (hz : i.zero = some z) (hsz : i.size = esz) (hby : i.bytes ≤ bytes) (hib : 0 < i.bytes) (hzs : z.cells.size = esz) (hbt : bytes = 1 → e = G.bt) (h0 : 0 < esz) :
  OpOk G o (ex1 (.app esz bytes x y)) := by
 intro B X w0 S K a w ρ Φ Q next he hw hfr hT hK
 have fin : ∀ {τ : Bool} (n len m : Nat) (cs ds l : List AV) (news : Array Value),S.ev x = some (.sl n 0 len) → S.heap n = some (.ls τ esz cs) → cs.length = len * esz → ds.length = m * esz → news.size = ds.length →
   RepAt G Φ ds ρ news 0 → AllOne ds → (Builtin.lenOf (a.eval y)).run G.P w = .ok m w → (∀ w' : World,w'.heap = w.heap → (Builtin.firstCells esz m (a.eval y)).run G.P w' = .ok news w') → (len + m) * bytes ≤ 140737488355328 → l = cs ++ ds →
   K (.sl S.next 0 (len + m)) { S with heap := upd (upd S.heap n none) S.next (some (.ls (τ && Nat.beq bytes 1) esz l)),next := S.next + 1 } → o.wp G.P a w next Q := by
  intro τ n len m cs ds l news hx hH hfull hds hns hrep hall hlen hfirst hbytes hl hT
  subst hl
  obtain ⟨v',w',ρ',r1,r2,r3,r4⟩ := hw.append hfr (ty := o.type) ht hu hdu hi hz hsz hby hib hzs hbt hH hfull (evRel he hx) hds hns hrep (ones_of hrep hns hall) hlen hfirst hbytes
  refine wp_value (v := v') (w' := w') ?_ (hK _ _ _ _ ρ' Φ hT rfl r2 (PhiTo.refl _ _) r3 r4)
  simp [execOp,ho,resolve,invoke,builtin,r1]
 simp only [ex1] at hT
 split at hT
 case h_1 =>
  rename_i n off len m o2 l2 hx hy
  split at hT
  case h_2 => exact hT.elim
  rename_i _ e1 cs _ e2 ds hH hM
  obtain ⟨⟨hnm,rfl,rfl,rfl,hfull,hfit,hall,hbytes⟩,l,hl,hT⟩ := hT
  have hy1 := evRel he hy
  simp only [Rep] at hy1
  obtain ⟨hd,hρ,hy1⟩ := hy1
  obtain ⟨h5,h6⟩ := hw.lstAt hM hρ
  have hdl : ((ds.drop (o2 * e2)).take (l2 * e2)).length = l2 * e2 := by rw [Nat.add_mul] at hfit; simp; omega
  rcases hy1 with ⟨y1,y2,y3,y4⟩ | ⟨y1,y2,y3⟩
  ·subst y3
   exact fin n len 0 cs [] l #[] hx hH hfull (by simp) (by simp) (by simp [RepAt]) (fun c hc => by cases hc) (by rw [y4]; simp [Builtin.lenOf]) (fun w' _ => by rw [y4]; exact firstCells_zero _ _ _ w') hbytes (by rw [hl]; simp) hT
  ·rcases h6 with h6 | ⟨_,_,C,ty,fr,h6,h7,h8,h9,h10⟩
   ·rw [y1] at h6; cases h6.1
   ·rcases y3 with y3 | ⟨y5,y6,ad,c,y7⟩
    ·have hC : o2 * e2 + l2 * e2 ≤ C.size := by rw [← Nat.add_mul]; omega
     rw [h5] at y3
     refine fin n len l2 cs _ l (C.extract (o2 * e2) (o2 * e2 + l2 * e2)) hx hH hfull hdl (by rw [hdl]; simp; omega) ?_ (hall.sub _ _) (by rw [y3]; simp [Builtin.lenOf]) (fun w' hw' => by rw [y3]; exact firstCells_ok h6 hC _ w' hw') hbytes hl hT
     have h11 := RepAt.sub h10 (o2 * e2) (l2 * e2)
     refine RepAt.congr h11 fun k hk => ?_
     rw [hdl] at hk
     rw [Nat.zero_add,Nat.zero_add,Array.getElem?_extract_of_lt (by omega),Array.getElem?_eq_getElem]
    ·subst y6
     exact fin n len 0 cs [] l #[] hx hH hfull (by simp) (by simp) (by simp [RepAt]) (fun c hc => by cases hc) (by rw [y7]; simp [Builtin.lenOf]) (fun w' _ => by rw [y7]; exact firstCells_zero _ _ _ w') hbytes (by rw [hl]; simp) hT
 case h_2 =>
  rename_i n off len m o2 l2 e3 hx hy
  split at hT
  case h_2 => exact hT.elim
  rename_i _ e1 cs _ ds hH hM
  obtain ⟨⟨hnm,rfl,rfl,rfl,hfull,hfit,hall,hbytes⟩,l,hl,hT⟩ := hT
  have hy1 := evRel he hy
  simp only [Rep] at hy1
  obtain ⟨hd,ad,c,hρ,_,hy1,had⟩ := hy1
  obtain ⟨_,C,ty,fr,h6,h7,h9,h10⟩ := hw.cellsAt hM hρ
  have hdl : ((ds.drop o2).take (l2 * e3)).length = l2 * e3 := by simp; omega
  rcases had with had | had
  ·have hl20 : l2 = 0 := by
    rcases Nat.mul_eq_zero.1 had with h | h
    ·exact h
    ·omega
   subst hl20
   exact fin n len 0 cs [] l #[] hx hH hfull (by simp) (by simp) (by simp [RepAt]) (fun c hc => by cases hc) (by rw [hy1]; simp [Builtin.lenOf]) (fun w' _ => by rw [hy1]; exact firstCells_zero _ _ _ w') hbytes (by rw [hl]; simp) hT
  ·subst had
   have hC : o2 + l2 * e3 ≤ C.size := by omega
   refine fin n len l2 cs _ l (C.extract o2 (o2 + l2 * e3)) hx hH hfull hdl (by rw [hdl]; simp; omega) ?_ (hall.sub _ _) (by rw [hy1]; simp [Builtin.lenOf]) (fun w' hw' => by rw [hy1]; exact firstCells_ok h6 hC _ w' hw') hbytes hl hT
   have h11 := RepAt.sub h10 o2 (l2 * e3)
   refine RepAt.congr h11 fun k hk => ?_
   rw [hdl] at hk
   rw [Nat.zero_add,Nat.zero_add,Array.getElem?_extract_of_lt (by omega),Array.getElem?_eq_getElem]
 case h_3 =>
  rename_i n off len e3 l2 ds hx hy
  split at hT
  case h_2 => exact hT.elim
  rename_i e1 cs hH
  obtain ⟨⟨rfl,rfl,rfl,hfull,hall,hnn,hbytes⟩,l,hl,hT⟩ := hT
  have hy1 := evRel he hy
  simp only [Rep] at hy1
  obtain ⟨hdl,ad,cap,_,hy1,h2 | ⟨b,off,C,ty,fr,rfl,h6,h7⟩⟩ := hy1
  ·have hl20 : l2 = 0 := by
    rw [h2] at hdl
    have hm0 : l2 * e3 = 0 := hdl.symm
    rcases Nat.mul_eq_zero.1 hm0 with h | h
    ·exact h
    ·omega
   subst hl20
   exact fin n len 0 cs [] l #[] hx hH hfull (by simp) (by simp) (by simp [RepAt]) (fun c hc => by cases hc) (by rw [hy1]; simp [Builtin.lenOf]) (fun w' _ => by rw [hy1]; exact firstCells_zero _ _ _ w') hbytes (by rw [hl,h2]) hT
  ·by_cases hz0 : l2 = 0
   ·subst hz0
    have hd0 : ds = [] := List.length_eq_zero_iff.1 (by simpa using hdl)
    exact fin n len 0 cs [] l #[] hx hH hfull (by simp) (by simp) (by simp [RepAt]) (fun c hc => by cases hc) (by rw [hy1]; simp [Builtin.lenOf]) (fun w' _ => by rw [hy1]; exact firstCells_zero _ _ _ w') hbytes (by rw [hl,hd0]) hT
   ·have hpos : 0 < l2 * e3 := Nat.mul_pos (by omega) h0
    have hC : off + l2 * e3 ≤ C.size := by
     obtain ⟨q,hq,_⟩ := RepAt.get h7 (List.getElem?_eq_getElem (show l2 * e3 - 1 < ds.length by omega))
     have := (Array.getElem?_eq_some_iff.1 hq).1
     omega
    refine fin n len l2 cs ds l (C.extract off (off + l2 * e3)) hx hH hfull hdl (by rw [hdl]; simp; omega) ?_ hall (by rw [hy1]; simp [Builtin.lenOf]) (fun w' hw' => by rw [hy1]; exact firstCells_ok (hw.phi _ _ h6) hC _ w' hw') hbytes hl hT
    refine RepAt.congr (hnn _ _ _ _ _ _ h7) fun k hk => ?_
    rw [Nat.zero_add,Array.getElem?_extract_of_lt (by omega),Array.getElem?_eq_getElem]
 case h_4 =>
  rename_i n off len s hx hy
  split at hT
  case h_2 => exact hT.elim
  rename_i e1 cs hH
  obtain ⟨⟨rfl,rfl,rfl,hfull,hbytes⟩,l,hl,hT⟩ := hT
  have hy1 := evRel he hy
  simp only [Rep] at hy1
  have hs : (⟨s.toArray⟩ : ByteArray).size = s.length := by simp [ByteArray.size]
  refine fin n len s.length cs (s.map fun b => AV.int .u8 b.toNat) l (s.map fun b => Value.int .u8 b.toNat).toArray hx hH hfull (by simp) (by simp) ?_ ?_ ?_ ?_ hbytes hl hT
  ·refine RepAt.mk fun j c hj => ?_
   rw [List.getElem?_map] at hj
   cases e1 : s[j]? with
   | none => rw [e1] at hj; cases hj
   | some b =>
    rw [e1] at hj; cases hj
    exact ⟨.int .u8 b.toNat,by simp [e1],by simp [Rep]⟩
  ·intro c hc
   obtain ⟨b,_,rfl⟩ := List.mem_map.1 hc
   rfl
  ·rw [hy1]
   simp only [Builtin.lenOf,hs,Sem.run_pure]
  ·intro w' _
   rw [hy1]
   simp only [Builtin.firstCells,Sem.run_pure,str_extract]
   simp
 case h_5 => exact hT.elim

theorem ok_mksl {t e : TypeId} {i : TypeInfo} {z : Value} {l c : Operand} {esz bytes : Nat} (ho : o.op = .makeSlice t l c) (ht : G.P.underlying t = some (.slice e)) (hi : G.P.info? e = some i) (hz : i.zero = some z)
  (hsz : i.size = esz) (hby : i.bytes = bytes) (hzs : z.cells.size = esz) (h0 : 0 < esz) : OpOk G o (ex1 (.mksl esz bytes (z.cells.toList.map AV.ofConst) l c)) := by
 intro B X w0 S K a w ρ Φ Q next he hw hfr hT hK
 simp only [ex1] at hT
 split at hT
 case h_2 => exact hT.elim
 rename_i k1 p k2 q hl hc
 have h1 := evRel he hl
 have h2 := evRel he hc
 simp only [Rep] at h1 h2
 obtain ⟨⟨h3,h4,h5,h6⟩,cs,rfl,hT⟩ := hT
 have run := run_make (P := G.P) w t e i z ht hi hz k1 k2 p q h3 h4 (by rw [hby,Int.mul_comm]; exact h5) h6
 have hpq : p.toNat ≤ q.toNat := by omega
 have hrep : RepAt G Φ (repl p.toNat (z.cells.toList.map AV.ofConst)) ρ (madeCells z.cells (q.toNat * i.size)) 0 := by
  have := zeros_ok (G := G) (Φ := Φ) (ρ := ρ) z.cells p.toNat (by omega) q.toNat hpq
  rw [hsz]
  unfold madeCells
  rwa [hzs] at this ⊢
 obtain ⟨ρ',r1,r2,r3⟩ := hw.newLst hfr (madeCells z.cells (q.toNat * i.size)) e (0,0) (repl p.toNat (z.cells.toList.map AV.ofConst)) esz q.toNat p.toNat (by rw [size_madeCells,hsz])
  (by rw [repl_length,size_madeCells,hsz]; simp [hzs]; exact Nat.mul_le_mul_right _ hpq) hpq (fun i _ => by simp) hrep
 refine wp_value ?_ (hK _ _ _ _ ρ' Φ hT rfl r1 (PhiTo.refl _ _) r2 r3)
 simp only [execOp,ho,Sem.run_bind,h1,h2,run]
 rfl

end ops
end Qk

/-
  Equality of plain aggregates.
-/
namespace Qk
open Go Go.RowKit

def flatFs (f : TypeId → Option (List CK)) : List Field → Nat → Option (List CK)
 | [],_ => some []
 | fd :: r,off =>
  bif (fd.offset == off) && (fd.name != "_") then
   match f fd.type with
   | none => none
   | some ks => match flatFs f r (off + ks.length) with
    | none => none
    | some rs => some (ks ++ rs)
  else none

def flatK (P : Program) : Nat → TypeId → Option (List CK)
 | 0,_ => none
 | d + 1,t =>
  match P.underlying t with
  | some .bool => some [none]
  | some .string => some [some none]
  | some (.int k) => some [some (some k)]
  | some (.array n e) => match flatK P d e with
   | none => none
   | some ks => bif P.cellsOf e == ks.length && P.cellsOf t == n * ks.length && (P.info? e).isSome && (P.info? t).isSome then some (repl n ks) else none
  | some (.struct fs) => bif P.stoodInHeld t then none else match flatFs (flatK P d) fs.toList 0 with
   | none => none
   | some ks => bif P.cellsOf t == ks.length && (P.info? t).isSome then some ks else none
  | _ => none

theorem AreK.length : ∀ {ks : List CK} {cs : List AV},AreK ks cs → cs.length = ks.length
 | [],[],_ => rfl
 | _ :: _,_ :: _,h => by simp [AreK.length h.2]
 | [],_ :: _,h => h.elim
 | _ :: _,[],h => h.elim

theorem AreK.split : ∀ {ks ls : List CK} {cs : List AV},AreK (ks ++ ls) cs → AreK ks (cs.take ks.length) ∧ AreK ls (cs.drop ks.length)
 | [],ls,cs,h => ⟨by simp [AreK],by simpa using h⟩
 | k :: ks,ls,[],h => h.elim
 | k :: ks,ls,c :: cs,h => by
  have := AreK.split (ks := ks) (ls := ls) (cs := cs) h.2
  exact ⟨⟨h.1,this.1⟩,this.2⟩

/-- What '==' at a type says of two values that begin at a cell. -/
def EqAtK (P : Program) (dd : Nat) (t : TypeId) (ks : List CK) : Prop :=
 ∀ (G : Gl) (Φ : Phi) (ρ : Nm) (xs ys : Array Value) (o1 o2 : Nat) (cs ds : List AV) (w : World),AreK ks cs → AreK ks ds → RepAt G Φ cs ρ xs o1 → RepAt G Φ ds ρ ys o2 →
  ∃ r,(do let a ← part t xs o1; let b ← part t ys o2; Op.equalIn dd t a b : Sem Bool).run P w = .ok r w ∧ (r = true ↔ cs = ds)

theorem take_drop_eq {α : Type} {cs ds : List α} (n : Nat) : (cs = ds ↔ cs.take n = ds.take n ∧ cs.drop n = ds.drop n) :=
 ⟨fun h => by rw [h]; exact ⟨rfl,rfl⟩,fun ⟨h1,h2⟩ => by rw [← List.take_append_drop n cs,h1,h2,List.take_append_drop]⟩

theorem rep_take {G : Gl} {Φ : Phi} {ρ : Nm} {cs : List AV} {C : Array Value} {i : Nat} (h : RepAt G Φ cs ρ C i) (n : Nat) : RepAt G Φ (cs.take n) ρ C i ∧ RepAt G Φ (cs.drop n) ρ C (i + n) := by
 constructor
 ·have := RepAt.sub h 0 n; simpa using this
 ·refine RepAt.mk fun j c hj => ?_
  rw [List.getElem?_drop] at hj
  obtain ⟨x,hx,hr⟩ := RepAt.get h hj
  exact ⟨x,by rw [← hx]; congr 1; omega,hr⟩

theorem eqItems_ok {P : Program} {dd : Nat} {e : TypeId} {ks : List CK} (ih : EqAtK P dd e ks) (s : Nat) (hs : s = ks.length) {G : Gl} {Φ : Phi} {ρ : Nm} {xs ys : Array Value} (w : World) :
  ∀ (n j : Nat) (cs ds : List AV),AreK (repl n ks) cs → AreK (repl n ks) ds → RepAt G Φ cs ρ xs (j * s) → RepAt G Φ ds ρ ys (j * s) →
   ∃ r,(Op.eqItems dd e s xs ys (List.range' j n)).run P w = .ok r w ∧ (r = true ↔ cs = ds)
 | 0,j,cs,ds,h1,h2,_,_ => by
  have e1 := h1.length
  have e2 := h2.length
  simp [repl] at e1 e2
  subst e1
  subst e2
  exact ⟨true,by simp [Op.eqItems],by simp⟩
 | n + 1,j,cs,ds,h1,h2,h3,h4 => by
  simp only [repl] at h1 h2
  obtain ⟨a1,a2⟩ := h1.split
  obtain ⟨b1,b2⟩ := h2.split
  obtain ⟨c1,c2⟩ := rep_take h3 ks.length
  obtain ⟨d1,d2⟩ := rep_take h4 ks.length
  obtain ⟨r,hr,hiff⟩ := ih G Φ ρ xs ys (j * s) (j * s) _ _ w a1 b1 c1 d1
  have hj : j * s + ks.length = (j + 1) * s := by rw [Nat.succ_mul,hs]
  rw [hj] at c2 d2
  obtain ⟨r',hr',hiff'⟩ := eqItems_ok ih s hs w n (j + 1) _ _ a2 b2 c2 d2
  have key : (Op.eqItems dd e s xs ys (List.range' j (n + 1))).run P w = ((do let a ← part e xs (j * s); let b ← part e ys (j * s); Op.equalIn dd e a b : Sem Bool).run P w).andThen fun r w' => if (!r) = true then .ok false w' else (Op.eqItems dd e s xs ys (List.range' (j + 1) n)).run P w' := by
   simp only [List.range'_succ,Op.eqItems,Sem.run_bind]
   cases (part e xs (j * s)).run P w with
   | halt => rfl
   | ok a w1 =>
    simp only [Result.andThen_ok]
    cases (part e ys (j * s)).run P w1 with
    | halt => rfl
    | ok b w2 =>
     simp only [Result.andThen_ok]
     cases (Op.equalIn dd e a b).run P w2 with
     | halt => rfl
     | ok r w3 => cases r <;> simp
  rw [key,hr,Result.andThen_ok]
  cases r with
  | false =>
   refine ⟨false,by simp,?_⟩
   rw [take_drop_eq ks.length,← hiff]
   simp
  | true =>
   refine ⟨r',by simpa using hr',?_⟩
   rw [take_drop_eq ks.length,hiff',← hiff]
   simp

theorem eqFields_ok {P : Program} {d dd : Nat} (hdd : d ≤ dd) (ih : ∀ t ks,flatK P d t = some ks → EqAtK P dd t ks) {G : Gl} {Φ : Phi} {ρ : Nm} {xs ys : Array Value} (w : World) :
  ∀ (fs : List Field) (off : Nat) (ks : List CK) (cs ds : List AV),flatFs (flatK P d) fs off = some ks → AreK ks cs → AreK ks ds → RepAt G Φ cs ρ xs off → RepAt G Φ ds ρ ys off →
   ∃ r,(Op.eqFields dd xs ys fs).run P w = .ok r w ∧ (r = true ↔ cs = ds)
 | [],off,ks,cs,ds,h,h1,h2,_,_ => by
  simp only [flatFs,Option.some.injEq] at h
  subst h
  have e1 := h1.length
  have e2 := h2.length
  simp at e1 e2
  subst e1
  subst e2
  exact ⟨true,by simp [Op.eqFields],by simp⟩
 | f :: fs,off,ks,cs,ds,h,h1,h2,h3,h4 => by
  simp only [flatFs] at h
  cases hc : ((f.offset == off) && (f.name != "_")) with
  | false => rw [hc] at h; cases h
  | true =>
   rw [hc] at h
   simp only [cond_true] at h
   simp only [Bool.and_eq_true,beq_iff_eq,bne_iff_ne,ne_eq] at hc
   obtain ⟨ho,hnm⟩ := hc
   split at h
   ·cases h
   rename_i k1 hk1
   split at h
   ·cases h
   rename_i k2 hk2
   cases h
   obtain ⟨a1,a2⟩ := h1.split
   obtain ⟨b1,b2⟩ := h2.split
   obtain ⟨c1,c2⟩ := rep_take h3 k1.length
   obtain ⟨d1,d2⟩ := rep_take h4 k1.length
   obtain ⟨r,hr,hiff⟩ := ih _ _ hk1 G Φ ρ xs ys off off _ _ w a1 b1 c1 d1
   obtain ⟨r',hr',hiff'⟩ := eqFields_ok hdd ih w fs _ _ _ _ hk2 a2 b2 c2 d2
   have key : (Op.eqFields dd xs ys (f :: fs)).run P w = ((do let a ← part f.type xs off; let b ← part f.type ys off; Op.equalIn dd f.type a b : Sem Bool).run P w).andThen fun r w' => if (!r) = true then .ok false w' else (Op.eqFields dd xs ys fs).run P w' := by
    simp only [Op.eqFields,ho,ne_eq,hnm,not_false_eq_true,if_true,Sem.run_bind]
    cases (part f.type xs off).run P w with
    | halt => rfl
    | ok a w1 =>
     simp only [Result.andThen_ok]
     cases (part f.type ys off).run P w1 with
     | halt => rfl
     | ok b w2 =>
      simp only [Result.andThen_ok]
      cases (Op.equalIn dd f.type a b).run P w2 with
      | halt => rfl
      | ok r w3 => cases r <;> simp
   rw [key,hr,Result.andThen_ok]
   cases r with
   | false =>
    refine ⟨false,by simp,?_⟩
    rw [take_drop_eq k1.length,← hiff]
    simp
   | true =>
    refine ⟨r',by simpa using hr',?_⟩
    rw [take_drop_eq k1.length,hiff',← hiff]
    simp

theorem repAt_size {G : Gl} {Φ : Phi} {ρ : Nm} {cs : List AV} {C : Array Value} {i : Nat} (h : RepAt G Φ cs ρ C i) (h0 : 0 < cs.length) : i + cs.length ≤ C.size := by
 obtain ⟨y,hy,_⟩ := RepAt.get h (List.getElem?_eq_getElem (show cs.length - 1 < cs.length by omega))
 have := (Array.getElem?_eq_some_iff.1 hy).1
 omega

theorem rep_extract {G : Gl} {Φ : Phi} {ρ : Nm} {cs : List AV} {C : Array Value} {i : Nat} (h : RepAt G Φ cs ρ C i) (n : Nat) (hn : n = cs.length) : RepAt G Φ cs ρ (C.extract i (i + n)) 0 := by
 refine RepAt.congr h fun k hk => ?_
 have := repAt_size h (by omega)
 rw [Nat.zero_add,Array.getElem?_extract_of_lt (by omega),Array.getElem?_eq_getElem]

theorem eqIn_ok {P : Program} : ∀ (d dd : Nat) (t : TypeId) (ks : List CK),d ≤ dd → flatK P d t = some ks → EqAtK P dd t ks
 | 0,_,_,_,_,h => by simp [flatK] at h
 | d + 1,0,_,_,hd,_ => by omega
 | d + 1,dd + 1,t,ks,hd,h => by
  have ih := fun t ks => eqIn_ok (P := P) d dd t ks (by omega)
  simp only [flatK] at h
  have one : ∀ (kd : TypeDesc),P.underlying t = some kd → aggOf kd = false → ∀ k,ks = [k] →
    (∀ (c d : AV) (x y : Value) (G : Gl) (Φ : Phi) (ρ : Nm) (w : World),c.isK k = true → d.isK k = true → Rep G Φ c ρ x → Rep G Φ d ρ y → ∃ r,(Op.equalIn (dd + 1) t x y).run P w = .ok r w ∧ (r = true ↔ c = d)) → EqAtK P (dd + 1) t ks := by
   intro kd hu hagg k hk hc
   subst hk
   intro G Φ ρ xs ys o1 o2 cs ds w h1 h2 h3 h4
   match cs,ds,h1,h2 with
   | [c],[d],h1,h2 =>
    simp only [RepAt] at h3 h4
    obtain ⟨⟨x,hx,rx⟩,_⟩ := h3
    obtain ⟨⟨y,hy,ry⟩,_⟩ := h4
    obtain ⟨r,hr,hiff⟩ := hc c d x y G Φ ρ w h1.1 h2.1 rx ry
    refine ⟨r,?_,by rw [hiff]; simp⟩
    have p1 : (part t xs o1).run P w = .ok x w := by simp [part,run_isAgg hu,hagg,hx]
    have p2 : (part t ys o2).run P w = .ok y w := by simp [part,run_isAgg hu,hagg,hy]
    simp [p1,p2,hr]
  split at h
  case h_1 hu =>
   refine one _ hu rfl none (by simpa using h.symm) ?_
   intro c d x y G Φ ρ w hc hd hx hy
   cases c <;> simp [AV.isK] at hc
   cases d <;> simp [AV.isK] at hd
   simp only [Rep] at hx hy
   subst hx
   subst hy
   exact ⟨_,run_equalIn_bool w dd t _ _ hu,by simp⟩
  case h_2 hu =>
   refine one _ hu rfl (some none) (by simpa using h.symm) ?_
   intro c d x y G Φ ρ w hc hd hx hy
   cases c <;> simp [AV.isK] at hc
   cases d <;> simp [AV.isK] at hd
   simp only [Rep] at hx hy
   subst hx
   subst hy
   exact ⟨_,run_equalIn_string w dd t _ _ hu,by rw [str_toList,str_toList]; simp⟩
  case h_3 k hu =>
   refine one _ hu rfl (some (some k)) (by simpa using h.symm) ?_
   intro c d x y G Φ ρ w hc hd hx hy
   cases c <;> simp [AV.isK] at hc
   cases d <;> simp [AV.isK] at hd
   have e1 := kindEq_eq hc
   have e2 := kindEq_eq hd
   subst e1
   subst e2
   simp only [Rep] at hx hy
   subst hx
   subst hy
   exact ⟨_,run_equalIn_int w dd t _ _ _ _ hu,by simp⟩
  case h_4 n e hu =>
   split at h
   ·cases h
   rename_i k1 hk1
   cases hc : (P.cellsOf e == k1.length && P.cellsOf t == n * k1.length && (P.info? e).isSome && (P.info? t).isSome) with
   | false => rw [hc] at h; cases h
   | true =>
    rw [hc] at h
    simp only [cond_true,Option.some.injEq] at h
    subst h
    simp only [Bool.and_eq_true,beq_iff_eq] at hc
    obtain ⟨⟨⟨e1,e2⟩,e3⟩,e4⟩ := hc
    obtain ⟨i,hi⟩ := Option.isSome_iff_exists.1 e3
    obtain ⟨j,hj⟩ := Option.isSome_iff_exists.1 e4
    intro G Φ ρ xs ys o1 o2 cs ds w h1 h2 h3 h4
    have l1 := h1.length
    have l2 := h2.length
    rw [repl_length] at l1 l2
    have hsz : j.size = n * k1.length := by rw [← e2]; simp [Program.cellsOf,hj]
    have p1 : ∀ zs o,(part t zs o).run P w = .ok (.agg (zs.extract o (o + j.size))) w := fun zs o => by
     have := part_ok (P := P) (t := t) (agg := true) (sz := j.size) ⟨_,j,hu,hj,rfl,rfl,by simp⟩ zs o w
     simpa using this
    obtain ⟨r,hr,hiff⟩ := eqItems_ok (ih _ _ hk1) (P.cellsOf e) e1 (G := G) (Φ := Φ) (ρ := ρ) (xs := xs.extract o1 (o1 + j.size)) (ys := ys.extract o2 (o2 + j.size)) w n 0 cs ds h1 h2
     (by rw [Nat.zero_mul]; exact rep_extract h3 _ (by omega)) (by rw [Nat.zero_mul]; exact rep_extract h4 _ (by omega))
    refine ⟨r,?_,hiff⟩
    simp only [Sem.run_bind,p1,Result.andThen_ok]
    rw [run_equalIn_array w dd _ _ hu hi,List.range_eq_range']
    exact hr
  case h_5 fs hu =>
   cases hst : P.stoodInHeld t with
   | true => rw [hst] at h; cases h
   | false =>
    rw [hst] at h
    simp only [cond_false] at h
    split at h
    ·cases h
    rename_i k1 hk1
    cases hc : (P.cellsOf t == k1.length && (P.info? t).isSome) with
    | false => rw [hc] at h; cases h
    | true =>
     rw [hc] at h
     simp only [cond_true,Option.some.injEq] at h
     subst h
     simp only [Bool.and_eq_true,beq_iff_eq] at hc
     obtain ⟨e2,e4⟩ := hc
     obtain ⟨j,hj⟩ := Option.isSome_iff_exists.1 e4
     intro G Φ ρ xs ys o1 o2 cs ds w h1 h2 h3 h4
     have hsz : j.size = k1.length := by rw [← e2]; simp [Program.cellsOf,hj]
     have p1 : ∀ zs o,(part t zs o).run P w = .ok (.agg (zs.extract o (o + j.size))) w := fun zs o => by
      have := part_ok (P := P) (t := t) (agg := true) (sz := j.size) ⟨_,j,hu,hj,rfl,rfl,by simp⟩ zs o w
      simpa using this
     have hf : P.fieldsOf t = fs := by simp [Program.fieldsOf,hu]
     obtain ⟨r,hr,hiff⟩ := eqFields_ok (by omega) ih (G := G) (Φ := Φ) (ρ := ρ) (xs := xs.extract o1 (o1 + j.size)) (ys := ys.extract o2 (o2 + j.size)) w fs.toList 0 k1 cs ds hk1 h1 h2
      (rep_extract h3 _ (by rw [hsz]; exact h1.length.symm)) (rep_extract h4 _ (by rw [hsz]; exact h2.length.symm))
     refine ⟨r,?_,hiff⟩
     simp only [Sem.run_bind,p1,Result.andThen_ok]
     rw [run_equalIn_agg w dd t _ _ (by rw [hf]; exact hu) hst,hf]
     exact hr
  case h_6 => cases h

section ops
variable {G : Gl} {o : Oper}

theorem ok_beq {t ty : TypeId} {neg : Bool} {x y : Operand} (ho : o.op = .binOp (cond neg .neq .eql) t x y ty) (ht : G.P.underlying t = some .bool) : OpOk G o (ex1 (.beq neg x y)) := by
 intro B X w0 S K a w ρ Φ Q next he hw hfr hT hK
 simp only [ex1] at hT
 split at hT
 case h_2 => exact hT.elim
 rename_i p q hx hy
 have h1 := evRel he hx
 have h2 := evRel he hy
 simp only [Rep] at h1 h2
 have hq := run_equal_bool (P := G.P) w t p q ht
 cases neg
 ·refine wp_value (v := .bool (p == q)) (w' := w) ?_ (hK _ S _ w ρ Φ hT rfl (NmTo.refl _ _) (PhiTo.refl _ _) hw (by cases p <;> cases q <;> simp [Rep]))
  simp only [cond_false] at ho
  simp [execOp,ho,eqGuard,h1,h2,binOp,hq]
 ·refine wp_value (v := .bool (!(p == q))) (w' := w) ?_ (hK _ S _ w ρ Φ hT rfl (NmTo.refl _ _) (PhiTo.refl _ _) hw (by cases p <;> cases q <;> simp [Rep]))
  simp only [cond_true] at ho
  simp [execOp,ho,eqGuard,h1,h2,binOp,hq]

theorem ok_aeq {t ty : TypeId} {neg : Bool} {ks : List CK} {x y : Operand} (ho : o.op = .binOp (cond neg .neq .eql) t x y ty) (hf : flatK G.P 100 t = some ks) (hsz : G.P.cellsOf t = ks.length)
  (hg : G.P.eqGuardType G.P.depth t = false) (hagg : ∃ d,G.P.underlying t = some d ∧ aggOf d = true) : OpOk G o (ex1 (.aeq neg ks x y)) := by
 intro B X w0 S K a w ρ Φ Q next he hw hfr hT hK
 simp only [ex1] at hT
 split at hT
 case h_2 => exact hT.elim
 rename_i cs ds hx hy
 have h1 := evRel he hx
 have h2 := evRel he hy
 simp only [Rep] at h1 h2
 obtain ⟨A,h1,a1,a2⟩ := h1
 obtain ⟨D,h2,d1,d2⟩ := h2
 obtain ⟨r,⟨k1,k2,hr⟩,hT⟩ := hT
 obtain ⟨dsc,hu,hag⟩ := hagg
 obtain ⟨i,hi⟩ := info_of_underlying hu
 have his : i.size = ks.length := by rw [← hsz]; simp [Program.cellsOf,hi]
 obtain ⟨r',hr',hiff⟩ := eqIn_ok 100 10000 t ks (by omega) hf G Φ ρ A D 0 0 cs ds w k1 k2 a2 d2
 have p1 : ∀ (zs : Array Value),zs.size = ks.length → (part t zs 0).run G.P w = .ok (.agg zs) w := fun zs hz => by
  have := part_ok (P := G.P) (t := t) (agg := true) (sz := i.size) ⟨_,i,hu,hi,rfl,hag,by simp⟩ zs 0 w
  simp only [Nat.zero_add] at this
  rw [this,his,← hz,Array.extract_size]
 rw [Sem.run_bind,p1 A (by rw [a1]; exact k1.length),Result.andThen_ok,Sem.run_bind,p1 D (by rw [d1]; exact k2.length),Result.andThen_ok] at hr'
 have hrr : r' = r := by
  rw [Bool.eq_iff_iff,hiff,hr]
 subst hrr
 cases neg
 ·refine wp_value (v := .bool r') (w' := w) ?_ (hK _ S _ w ρ Φ hT rfl (NmTo.refl _ _) (PhiTo.refl _ _) hw (by simp [Rep]))
  simp only [cond_false] at ho
  simp only [execOp,ho,Sem.run_bind,h1,h2,run_eqGuard_agg w .eql t x y A D hg,Result.andThen_ok,run_eql_struct,hr']
  rfl
 ·refine wp_value (v := .bool (!r')) (w' := w) ?_ (hK _ S _ w ρ Φ hT rfl (NmTo.refl _ _) (PhiTo.refl _ _) hw (by simp [Rep]))
  simp only [cond_true] at ho
  simp only [execOp,ho,Sem.run_bind,h1,h2,run_eqGuard_agg w .neq t x y A D hg,Result.andThen_ok,run_neq_struct,hr']
  rfl

end ops
end Qk

/-
  Maps: each operation on them does what its counterpart says.
-/
namespace Qk
open Go Go.RowKit

/-- The value of a plain cell. -/
def cv : AV → Value
 | .int k n => .int k n
 | .str l => .string ⟨l.toArray⟩
 | .bool b => .bool b
 | _ => undef

theorem isK_rep {c : CK} {a : AV} (h : AV.isK c a = true) (G : Gl) (Φ : Phi) (ρ : Nm) (x : Value) : Rep G Φ a ρ x ↔ x = cv a := by
 cases a <;> first | (simp [Rep,cv]; done) | (revert h; rcases c with _ | _ | _ <;> simp [AV.isK])

theorem cv_inj {c : CK} {a b : AV} (h1 : AV.isK c a = true) (h2 : AV.isK c b = true) (h : cv a = cv b) : a = b := by
 rcases c with _ | _ | _ <;> cases a <;> simp [AV.isK] at h1 <;> cases b <;> simp [AV.isK] at h2 <;> simp [cv] at h ⊢ <;> exact h

theorem areK_rep {G : Gl} {Φ : Phi} {ρ : Nm} {C : Array Value} : ∀ {ks : List CK} {cs : List AV} {i : Nat},AreK ks cs → (RepAt G Φ cs ρ C i ↔ ∀ j c,cs[j]? = some c → C[i + j]? = some (cv c))
 | [],[],i,_ => by simp [RepAt]
 | k :: ks,c :: cs,i,h => by
  simp only [RepAt]
  rw [areK_rep h.2]
  constructor
  ·rintro ⟨⟨x,hx,hr⟩,h2⟩ j d hj
   cases j with
   | zero =>
    simp at hj; subst hj
    rw [(isK_rep h.1 G Φ ρ x).1 hr] at hx
    exact hx
   | succ j =>
    simp at hj
    rw [← h2 j d hj]; congr 1; omega
  ·intro h2
   refine ⟨⟨cv c,h2 0 c rfl,(isK_rep h.1 G Φ ρ _).2 rfl⟩,fun j d hj => ?_⟩
   rw [← h2 (j + 1) d (by simpa using hj)]; congr 1; omega
 | [],_ :: _,_,h => h.elim
 | _ :: _,[],_,h => h.elim

theorem areK_inj : ∀ {ks : List CK} {cs ds : List AV},AreK ks cs → AreK ks ds → cs.map cv = ds.map cv → cs = ds
 | [],[],[],_,_,_ => rfl
 | k :: ks,c :: cs,d :: ds,h1,h2,h => by
  simp only [List.map_cons,List.cons.injEq] at h
  rw [cv_inj h1.1 h2.1 h.1,areK_inj h1.2 h2.2 h.2]
 | [],_ :: _,_,h,_,_ => h.elim
 | [],_,_ :: _,_,h,_ => h.elim
 | _ :: _,[],_,h,_,_ => h.elim
 | _ :: _,_,[],_,h,_ => h.elim

/-- The value of a key. -/
def kv : AV → Value
 | .agg cs => .agg (cs.map cv).toArray
 | a => cv a

theorem kOk_rep {one : Bool} {ks : List CK} {k : AV} (h : kOk one ks k) (G : Gl) (Φ : Phi) (ρ : Nm) (x : Value) : Rep G Φ k ρ x ↔ x = kv k := by
 cases one with
 | true =>
  obtain ⟨c,_,hc⟩ := h
  have : kv k = cv k := by cases k <;> first | rfl | (revert hc; rcases c with _ | _ | _ <;> simp [AV.isK])
  rw [this]
  exact isK_rep hc G Φ ρ x
 | false =>
  obtain ⟨cs,rfl,hk⟩ := h
  simp only [Rep,kv]
  constructor
  ·rintro ⟨A,rfl,hs,hr⟩
   congr 1
   rw [areK_rep hk] at hr
   apply Array.ext
   ·simp [hs]
   ·intro i h1 h2
    have hi : i < cs.length := by omega
    have := hr i cs[i] (List.getElem?_eq_getElem hi)
    rw [Nat.zero_add,Array.getElem?_eq_getElem h1] at this
    simp at this ⊢
    exact this
  ·rintro rfl
   refine ⟨_,rfl,by simp,?_⟩
   rw [areK_rep hk]
   intro j c hj
   simp [hj]

theorem kv_inj {one : Bool} {ks : List CK} {k k' : AV} (h : kOk one ks k) (h' : kOk one ks k') (e : kv k = kv k') : k = k' := by
 cases one with
 | true =>
  obtain ⟨c,hk,hc⟩ := h
  obtain ⟨c',hk',hc'⟩ := h'
  rw [hk] at hk'; cases hk'
  have e1 : kv k = cv k := by cases k <;> first | rfl | (revert hc; rcases c with _ | _ | _ <;> simp [AV.isK])
  have e2 : kv k' = cv k' := by cases k' <;> first | rfl | (revert hc'; rcases c with _ | _ | _ <;> simp [AV.isK])
  rw [e1,e2] at e
  exact cv_inj hc hc' e
 | false =>
  obtain ⟨cs,rfl,hk⟩ := h
  obtain ⟨ds,rfl,hk'⟩ := h'
  simp only [kv,Value.agg.injEq] at e
  rw [areK_inj hk hk' (by simpa using e)]

/-- A key of such a type can be looked up. -/
theorem chkIn_ok {P : Program} {em : Bool} : ∀ (d n : Nat) (t : TypeId) (ks : List CK),d ≤ n → flatK P d t = some ks → ∀ (xs : Array Value) (o : Nat) (w : World),o + ks.length ≤ xs.size →
  ∃ x,(part t xs o).run P w = .ok x w ∧ (Instr.checkKey em n t x).run P w = .ok () w
 | 0,_,_,_,_,h => by simp [flatK] at h
 | d + 1,0,_,_,hd,_ => by omega
 | d + 1,n + 1,t,ks,hd,h => by
  have ih := fun t ks => chkIn_ok (P := P) (em := em) d n t ks (by omega)
  simp only [flatK] at h
  intro xs o w hlen
  have one : ∀ (kd : TypeDesc),P.underlying t = some kd → aggOf kd = false → ks.length = 1 → (∀ x,(Instr.checkKey em (n + 1) t x).run P w = .ok () w) → ∃ x,(part t xs o).run P w = .ok x w ∧ (Instr.checkKey em (n + 1) t x).run P w = .ok () w := by
   intro kd hu hagg hk hc
   have hx : xs[o]? = some xs[o] := Array.getElem?_eq_getElem (by omega)
   exact ⟨xs[o],by simp [part,run_isAgg hu,hagg,hx],hc _⟩
  split at h
  case h_1 hu => exact one _ hu rfl (by cases h; rfl) (fun x => by simp [Instr.checkKey,run_underlying hu,Result.andThen])
  case h_2 hu => exact one _ hu rfl (by cases h; rfl) (fun x => by simp [Instr.checkKey,run_underlying hu,Result.andThen])
  case h_3 k hu => exact one _ hu rfl (by cases h; rfl) (fun x => by simp [Instr.checkKey,run_underlying hu,Result.andThen])
  case h_4 m e hu =>
   split at h
   ·cases h
   rename_i k1 hk1
   cases hc : (P.cellsOf e == k1.length && P.cellsOf t == m * k1.length && (P.info? e).isSome && (P.info? t).isSome) with
   | false => rw [hc] at h; cases h
   | true =>
    rw [hc] at h
    simp only [cond_true,Option.some.injEq] at h
    subst h
    simp only [Bool.and_eq_true,beq_iff_eq] at hc
    obtain ⟨⟨⟨e1,e2⟩,e3⟩,e4⟩ := hc
    obtain ⟨i,hi⟩ := Option.isSome_iff_exists.1 e3
    obtain ⟨j,hj⟩ := Option.isSome_iff_exists.1 e4
    have hsz : j.size = m * k1.length := by rw [← e2]; simp [Program.cellsOf,hj]
    have p1 : (part t xs o).run P w = .ok (.agg (xs.extract o (o + j.size))) w := by
     have := part_ok (P := P) (t := t) (agg := true) (sz := j.size) ⟨_,j,hu,hj,rfl,rfl,by simp⟩ xs o w
     simpa using this
    refine ⟨_,p1,?_⟩
    rw [repl_length] at hlen
    have hA : (xs.extract o (o + j.size)).size = m * k1.length := by simp; omega
    obtain ⟨A,hAe⟩ : ∃ A,A = xs.extract o (o + j.size) := ⟨_,rfl⟩
    rw [← hAe] at hA ⊢
    rw [Instr.checkKey]
    simp only [Sem.run_bind,run_underlying hu,Result.andThen_ok]
    simp only [Std.Legacy.Range.forIn_eq_forIn_range',Std.Legacy.Range.size,Nat.sub_zero,Nat.add_one_sub_one,Nat.div_one]
    have each : ∀ a ∈ List.range' 0 m,a < m := fun a ha => by simp at ha; exact ha
    generalize List.range' 0 m = is at each
    induction is with
    | nil => simp
    | cons a is ih2 =>
     have ha := each a (by simp)
     have hb : a * k1.length + k1.length ≤ A.size := by
      rw [hA,← Nat.succ_mul]
      exact Nat.mul_le_mul_right _ ha
     obtain ⟨y,q1,q2⟩ := ih _ _ hk1 A (a * k1.length) w hb
     simp only [List.forIn_cons,Sem.run_bind,run_sizeOf w hi,Result.andThen_ok,e1,q1,q2,Sem.run_pure]
     exact ih2 (fun b hb => each b (by simp [hb]))
  case h_5 fs hu =>
   cases hst : P.stoodInHeld t with
   | true => rw [hst] at h; cases h
   | false =>
    rw [hst] at h
    simp only [cond_false] at h
    split at h
    ·cases h
    rename_i k1 hk1
    cases hc : (P.cellsOf t == k1.length && (P.info? t).isSome) with
    | false => rw [hc] at h; cases h
    | true =>
     rw [hc] at h
     simp only [cond_true,Option.some.injEq] at h
     subst h
     simp only [Bool.and_eq_true,beq_iff_eq] at hc
     obtain ⟨e2,e4⟩ := hc
     obtain ⟨j,hj⟩ := Option.isSome_iff_exists.1 e4
     have hsz : j.size = k1.length := by rw [← e2]; simp [Program.cellsOf,hj]
     have p1 : (part t xs o).run P w = .ok (.agg (xs.extract o (o + j.size))) w := by
      have := part_ok (P := P) (t := t) (agg := true) (sz := j.size) ⟨_,j,hu,hj,rfl,rfl,by simp⟩ xs o w
      simpa using this
     refine ⟨_,p1,?_⟩
     have hA : (xs.extract o (o + j.size)).size = k1.length := by simp; omega
     obtain ⟨A,hAe⟩ : ∃ A,A = xs.extract o (o + j.size) := ⟨_,rfl⟩
     rw [← hAe] at hA ⊢
     rw [Instr.checkKey]
     simp only [Sem.run_bind,run_underlying hu,Result.andThen_ok]
     rw [← Array.forIn_toList]
     have hle : 0 + k1.length ≤ A.size := by omega
     revert hle hk1
     generalize (0 : Nat) = off
     clear hA e2 hsz p1 hlen hu one
     generalize fs.toList = L
     intro hk1
     induction L generalizing off k1 with
     | nil => intro _; simp
     | cons f L ih2 =>
      intro hle
      simp only [flatFs] at hk1
      cases hc : ((f.offset == off) && (f.name != "_")) with
      | false => rw [hc] at hk1; cases hk1
      | true =>
       rw [hc] at hk1
       simp only [cond_true] at hk1
       simp only [Bool.and_eq_true,beq_iff_eq,bne_iff_ne,ne_eq] at hc
       obtain ⟨hoff,hnm⟩ := hc
       split at hk1
       ·cases hk1
       rename_i ka hka
       split at hk1
       ·cases hk1
       rename_i kb hkb
       cases hk1
       rw [List.length_append] at hle
       obtain ⟨y,q1,q2⟩ := ih _ _ hka A off w (by omega)
       simp only [List.forIn_cons,Sem.run_bind,hnm,ne_eq,not_false_eq_true,if_true,hoff,q1,q2,Result.andThen_ok,Sem.run_pure]
       exact ih2 kb (off + ka.length) hkb (by omega)
  case h_6 => cases h


/-- The type of the keys of a map. -/
def KeyT (P : Program) (one : Bool) (ks : List CK) (t : TypeId) : Prop := flatK P 100 t = some ks ∧ P.cellsOf t = ks.length ∧ ∃ d,P.underlying t = some d ∧ aggOf d = !one

theorem isKey_of {P : Program} {ks : List CK} {t : TypeId} {k : AV} (h : KeyT P true ks t) (hk : kOk true ks k) : ∃ d,P.underlying t = some d ∧ MapKept.IsKey d (kv k) := by
 obtain ⟨hf,_,d,hu,ha⟩ := h
 obtain ⟨c,rfl,hc⟩ := hk
 refine ⟨d,hu,?_⟩
 have hf : flatK P (99 + 1) t = some [c] := hf
 rw [flatK] at hf
 simp only [hu] at hf
 cases d <;> simp [aggOf] at ha <;> simp at hf
 case bool => subst hf; cases k <;> simp [AV.isK] at hc; simp [kv,cv,MapKept.IsKey]
 case string => subst hf; cases k <;> simp [AV.isK] at hc; simp [kv,cv,MapKept.IsKey]
 case int q => subst hf; cases k <;> simp [AV.isK] at hc; simp [kv,cv,MapKept.IsKey]; exact kindEq_eq hc

theorem equal_agg {P : Program} {ks : List CK} {t : TypeId} {cs ds : List AV} (h : KeyT P false ks t) (h1 : AreK ks cs) (h2 : AreK ks ds) (w : World) :
  ∃ r,(Op.equal t (kv (.agg cs)) (kv (.agg ds))).run P w = .ok r w ∧ (r = true ↔ cs = ds) := by
 obtain ⟨hf,hsz,dsc,hu,hag⟩ := h
 obtain ⟨i,hi⟩ := info_of_underlying hu
 have his : i.size = ks.length := by rw [← hsz]; simp [Program.cellsOf,hi]
 have G : Gl := ⟨P,fun _ => 0,0,0,fun _ => True,fun _ _ _ _ => trivial⟩
 have a2 : RepAt G (fun _ => none) cs (fun _ => none) (cs.map cv).toArray 0 := (areK_rep h1).2 (fun j c hj => by simp [hj])
 have d2 : RepAt G (fun _ => none) ds (fun _ => none) (ds.map cv).toArray 0 := (areK_rep h2).2 (fun j c hj => by simp [hj])
 obtain ⟨r',hr',hiff⟩ := eqIn_ok 100 10000 t ks (by omega) hf G (fun _ => none) (fun _ => none) _ _ 0 0 cs ds w h1 h2 a2 d2
 have p1 : ∀ (zs : Array Value),zs.size = ks.length → (part t zs 0).run P w = .ok (.agg zs) w := fun zs hz => by
  have := part_ok (P := P) (t := t) (agg := true) (sz := i.size) ⟨_,i,hu,hi,rfl,hag,by simp⟩ zs 0 w
  simp only [Nat.zero_add] at this
  rw [this,his,← hz,Array.extract_size]
 rw [Sem.run_bind,p1 _ (by simp [h1.length]),Result.andThen_ok,Sem.run_bind,p1 _ (by simp [h2.length]),Result.andThen_ok] at hr'
 exact ⟨r',hr',hiff⟩

theorem asking_ok {P : Program} {ks : List CK} {t : TypeId} {k : AV} (h : KeyT P false ks t) (hk : kOk false ks k) (w : World) : ∀ (es : List MapEntry) (i : Nat),(∀ e ∈ es,∃ k',kOk false ks k' ∧ e.key = kv k') →
  ((Instr.findAsking t (kv k) es i).run P w = .ok none w ∧ ∀ e ∈ es,e.key ≠ kv k) ∨ ∃ j e,(Instr.findAsking t (kv k) es i).run P w = .ok (some (i + j,e.val)) w ∧ es[j]? = some e ∧ e.key = kv k
 | [],i,_ => .inl ⟨by simp [Instr.findAsking],by simp⟩
 | e :: es,i,hes => by
  obtain ⟨k',hk',he⟩ := hes e (by simp)
  obtain ⟨cs,rfl,h1⟩ := hk
  obtain ⟨ds,rfl,h2⟩ := hk'
  obtain ⟨r,hr,hiff⟩ := equal_agg h h1 h2 w
  rw [← he] at hr
  cases r with
  | true =>
   have : cs = ds := hiff.1 rfl
   subst this
   exact .inr ⟨0,e,by simp [Instr.findAsking,hr,Result.andThen],rfl,he⟩
  | false =>
   have hne : e.key ≠ kv (.agg cs) := fun e1 => by
    rw [he] at e1
    have e2 := kv_inj (one := false) (ks := ks) ⟨_,rfl,h2⟩ ⟨_,rfl,h1⟩ e1
    simp at e2
    exact absurd (hiff.2 e2.symm) (by simp)
   rcases asking_ok h ⟨cs,rfl,h1⟩ w es (i + 1) (fun x hx => hes x (by simp [hx])) with ⟨q1,q2⟩ | ⟨j,e',q1,q2,q3⟩
   ·exact .inl ⟨by simp [Instr.findAsking,hr,Result.andThen,q1],fun x hx => by rcases List.mem_cons.1 hx with rfl | hx; exact hne; exact q2 x hx⟩
   ·exact .inr ⟨j + 1,e',by simp [Instr.findAsking,hr,Result.andThen,q1]; omega,by simpa using q2,q3⟩

/-- A key is found, or it is not there. -/
theorem find_ok {P : Program} {one : Bool} {ks : List CK} {t : TypeId} {k : AV} (h : KeyT P one ks t) (hk : kOk one ks k) (w : World) (es : List MapEntry) (hes : ∀ e ∈ es,∃ k',kOk one ks k' ∧ e.key = kv k') :
  ((Instr.findKey t (kv k) es).run P w = .ok none w ∧ ∀ e ∈ es,e.key ≠ kv k) ∨ ∃ j e,(Instr.findKey t (kv k) es).run P w = .ok (some (j,e.val)) w ∧ es[j]? = some e ∧ e.key = kv k := by
 cases one with
 | true =>
  obtain ⟨d,hu,hd⟩ := isKey_of h hk
  have hks : ∀ x ∈ es,MapKept.IsKey d x.key := fun x hx => by
   obtain ⟨k',hk',e⟩ := hes x hx
   obtain ⟨d',hu',hd'⟩ := isKey_of h hk'
   rw [hu] at hu'; cases hu'
   rw [e]; exact hd'
  rcases MapKept.findNow_spec hd es 0 hks with ⟨h1,h2⟩ | ⟨j,e0,h1,h2,h3⟩
  ·exact .inl ⟨MapKept.run_findKey hu h1,h2⟩
  ·exact .inr ⟨j,e0,by simpa using MapKept.run_findKey hu h1,h2,h3⟩
 | false =>
  have hwide : (match P.underlying t with | some (.array _ _) | some (.struct _) => true | _ => false) = true := by
   obtain ⟨_,_,d,hu,ha⟩ := h
   rw [hu]
   cases d <;> simp [aggOf] at ha <;> rfl
  rw [run_findKey_eq w hwide]
  rcases asking_ok h hk w es 0 hes with h1 | ⟨j,e,h1,h2⟩
  ·exact .inl h1
  ·exact .inr ⟨j,e,by simpa using h1,h2⟩

theorem check_ok {P : Program} {one em : Bool} {ks : List CK} {t : TypeId} {k : AV} (h : KeyT P one ks t) (hk : kOk one ks k) (w : World) : (Instr.checkKey em 10000 t (kv k)).run P w = .ok () w := by
 cases one with
 | true =>
  obtain ⟨d,hu,hd⟩ := isKey_of h hk
  exact MapKept.run_checkKey hu hd em 9999
 | false =>
  obtain ⟨hf,hsz,dsc,hu,hag⟩ := h
  obtain ⟨cs,rfl,h1⟩ := hk
  obtain ⟨i,hi⟩ := info_of_underlying hu
  have his : i.size = ks.length := by rw [← hsz]; simp [Program.cellsOf,hi]
  obtain ⟨x,q1,q2⟩ := chkIn_ok (em := em) 100 10000 t ks (by omega) hf (cs.map cv).toArray 0 w (by simp [h1.length])
  have := part_ok (P := P) (t := t) (agg := true) (sz := i.size) ⟨_,i,hu,hi,rfl,hag,by simp⟩ (cs.map cv).toArray 0 w
  simp only [Nat.zero_add] at this
  rw [this] at q1
  have e : (cs.map cv).toArray.extract 0 i.size = (cs.map cv).toArray := by
   have : (cs.map cv).toArray.size = i.size := by simp [h1.length,his]
   rw [← this,Array.extract_size]
  rw [e] at q1
  have hx : x = kv (.agg cs) := by
   have q1' : Result.ok (Value.agg (cs.map cv).toArray) w = Result.ok x w := q1
   simpa [kv] using (Result.ok.inj q1').1.symm
  rw [← hx]
  exact q2

theorem stays_ok {P : Program} {one : Bool} {ks : List CK} {t : TypeId} {k : AV} (h : KeyT P one ks t) (hk : kOk one ks k) (w : World) : (Instr.keyThatStays (kv k) (kv k)).run P w = .ok (kv k) w := by
 cases one with
 | true =>
  obtain ⟨d,hu,hd⟩ := isKey_of h hk
  exact MapKept.run_keyThatStays hd
 | false =>
  obtain ⟨cs,rfl,h1⟩ := hk
  have one : ∀ {c : CK} {a : AV},AV.isK c a = true → Instr.sameBits 9999 (cv a) (cv a) = true := fun {c a} hc => by
   rcases c with _ | _ | _ <;> cases a <;> simp [AV.isK] at hc <;> simp [cv,Instr.sameBits,MapKept.bytes_beq]
  have all : ∀ {ks : List CK} {cs : List AV},AreK ks cs → ∀ c ∈ cs,Instr.sameBits 9999 (cv c) (cv c) = true := by
   intro ks
   induction ks with
   | nil => intro cs h c hc; cases cs with | nil => cases hc | cons => exact h.elim
   | cons k ks ih =>
    intro cs h c hc
    cases cs with
    | nil => exact h.elim
    | cons d cs =>
     rcases List.mem_cons.1 hc with rfl | hc
     ·exact one h.1
     ·exact ih h.2 c hc
  have hz : ∀ (l : List Value),(∀ x ∈ l,Instr.sameBits 9999 x x = true) → ((l.zip l).all fun p => Instr.sameBits 9999 p.1 p.2) = true := by
   intro l
   induction l with
   | nil => intro _; rfl
   | cons x l ih => intro hl; simp only [List.zip_cons_cons,List.all_cons,Bool.and_eq_true]; exact ⟨hl x (by simp),ih (fun y hy => hl y (by simp [hy]))⟩
  have hs : Instr.sameBits 10000 (kv (.agg cs)) (kv (.agg cs)) = true := by
   show Instr.sameBits (9999 + 1) (.agg (cs.map cv).toArray) (.agg (cs.map cv).toArray) = true
   simp only [Instr.sameBits,Bool.and_eq_true]
   refine ⟨by simp,?_⟩
   exact hz _ (fun x hx => by
    simp only [List.mem_map] at hx
    obtain ⟨c,hc,rfl⟩ := hx
    exact all h1 c hc)
  simp [Instr.keyThatStays,hs]

theorem mapR_stay {m : MC} {G : Gl} {Φ : Phi} {ρ : Nm} {w : World} {h : Hd} (hr : mapR m G Φ ρ w h) : ∀ w' Φ' ρ',(∀ b ∈ h.fp,w'.heap[b]? = w.heap[b]?) → PhiLe Φ Φ' → NmLe ρ ρ' → (∀ b o,Φ' b = some o → w'.heap[b]? = some o) → mapR m G Φ' ρ' w' h := by
 intro w' Φ' ρ' h1 h2 _ _
 obtain ⟨a1,a2,a3,es,cl,a4,a5,a6,a7⟩ := hr
 refine ⟨a1,a2,a3,es,cl,by rw [h1 _ (by simp [a1])]; exact a4,a5,fun e he => ?_,fun k v hm => ?_⟩
 ·obtain ⟨k,v,b1,b2,b3,b4⟩ := a6 e he
  exact ⟨k,v,b1,b2,Rep.mono h2 k (NmLe.refl _) b3,Rep.mono h2 v (NmLe.refl _) b4⟩
 ·obtain ⟨b0,e,he,b1,b2⟩ := a7 k v hm
  exact ⟨b0,e,he,Rep.mono h2 k (NmLe.refl _) b1,Rep.mono h2 v (NmLe.refl _) b2⟩

/-- What a zero value reads as. -/
def AV.ofVal : Value → AV
 | .agg C => .agg (C.toList.map AV.ofConst)
 | v => AV.ofConst v
theorem rep_ofVal (G : Gl) (Φ : Phi) (ρ : Nm) (v : Value) : Rep G Φ (AV.ofVal v) ρ v := by
 cases v
 case agg C =>
  simp only [AV.ofVal,Rep]
  refine ⟨C,rfl,by simp,RepAt.mk fun j c hj => ?_⟩
  rw [List.getElem?_map] at hj
  cases e : C.toList[j]? with
  | none => rw [e] at hj; cases hj
  | some v =>
   rw [e] at hj; cases hj
   exact ⟨v,by rw [Nat.zero_add]; simpa using e,rep_const _ _ _ _⟩
 all_goals (simp only [AV.ofVal]; exact rep_const _ _ _ _)

section ops
variable {G : Gl} {o : Oper}

theorem ok_mkmap {t : TypeId} {one : Bool} {ks : List CK} (ho : o.op = .makeMap t none) : OpOk G o (ex1 (.mkmap one ks)) := by
 intro B X w0 S K a w ρ Φ Q next he hw hfr hT hK
 simp only [ex1] at hT
 let hd : Hd := ⟨w.heap.size,0,0,false,.map (some w.heap.size),[w.heap.size]⟩
 have hR : mapR ⟨one,ks,noM⟩ G Φ (upd ρ S.next (some hd)) { w with heap := w.heap.push (.map #[] 0) } hd :=
  ⟨rfl,rfl,fun _ _ _ h => h.elim,#[],0,by simp [hd],MapKept.stamped_empty 0,fun e he => by simp at he,fun _ _ h => h.elim⟩
 refine wp_value (v := .map (some w.heap.size)) (w' := { w with heap := w.heap.push (.map #[] 0) }) ?_
  (hK _ _ _ _ (upd ρ S.next (some hd)) Φ hT rfl (NmTo.new hfr hd) (PhiTo.refl _ _) (Wf0.push hw hfr _ hd _ rfl rfl ⟨hR,mapR_stay hR⟩) ?_)
 ·simp [execOp,ho,Instr.makeMap,newObj,Sem.run]
 ·simp only [Rep]
  exact ⟨hd,upd_same _ _ _,rfl,rfl⟩

theorem mapAt {B : Nat} {X : Nat → Prop} {w0 w : World} {ρ : Nm} {Φ : Phi} {H : Nat → Option AO} (hw : Wf0 G B X w0 ρ Φ H w) {n : Nat} {m : MC} {hd : Hd} (hH : H n = some (.opq (mapR m))) (hρ : ρ n = some hd) : mapR m G Φ ρ w hd := by
 obtain ⟨hd',h1,h2,_⟩ := hw.objs n _ hH
 rw [hρ] at h1; cases h1
 exact h2.1

theorem look_fin {B : Nat} {X : Nat → Prop} {w0 w : World} {ρ : Nm} {Φ : Phi} {S : St} {KK : AV → St → Prop} {a : Act} {Q : Exit → Act → World → Prop} {next : Act → World → Prop} {t K E : TypeId} {i : TypeInfo} {z : Value} {one ok : Bool} {ks : List CK} {x k : Operand} (ho : o.op = .lookup t x k ok) (ht : G.P.underlying t = some (.map K E)) (hk : KeyT G.P one ks K)
  (hi : G.P.info? E = some i) (hz : i.zero = some z) (he : EnvRel G Φ ρ S.env a) (hw : Wf0 G B X w0 ρ Φ S.heap w) {b : Nat} {es : Array MapEntry} {cl : Nat} {M : AV → AV → Prop} {kk : AV} (h1 : a.eval x = .map (some b)) (hkk : S.ev k = some kk) (a4 : w.heap[b]? = some (.map es cl))
  (a3 : ∀ k v v',M k v → M k v' → v = v') (a6 : ∀ e ∈ es.toList,∃ k v,M k v ∧ kOk one ks k ∧ Rep G Φ k (fun _ => none) e.key ∧ Rep G Φ v (fun _ => none) e.val)
  (a7 : ∀ k v,M k v → kOk one ks k ∧ ∃ e ∈ es.toList,Rep G Φ k (fun _ => none) e.key ∧ Rep G Φ v (fun _ => none) e.val) (hko : kOk one ks kk) {r : Option AV} (hr : match r with | some v => M kk v | none => ∀ v,¬ M kk v)
  (hT : KK (cond ok (.tup [r.getD (AV.ofVal z),.bool r.isSome]) (r.getD (AV.ofVal z))) S)
  (hK : ∀ v S' x w' ρ' Φ',KK v S' → S'.env = S.env → NmTo S.next S'.next ρ ρ' → PhiTo B Φ Φ' → Wf0 G B X w0 ρ' Φ' S'.heap w' → Rep G Φ' v ρ' x → next (a.put o.dst x) w') : o.wp G.P a w next Q := by
 have hkey := (kOk_rep hko G Φ ρ _).1 (evRel he hkk)
 have hzr : (zeroValue E).run G.P w = .ok z w := by simp [zeroValue,typeInfo,hi,hz]
 have hes : ∀ e ∈ es.toList,∃ k',kOk one ks k' ∧ e.key = kv k' := fun e he => by
  obtain ⟨k',v',_,b2,b3,_⟩ := a6 e he
  exact ⟨k',b2,(kOk_rep b2 _ _ _ _).1 b3⟩
 have fin : ∀ (v : Value),(match r with | some u => Rep G Φ u ρ v | none => v = z) →
   (Instr.lookup t (.map (some b)) (kv kk) ok).run G.P w = .ok (if ok then .tuple #[v,.bool r.isSome] else v) w → o.wp G.P a w next Q := by
  intro v hv hrun
  refine wp_value (v := if ok then .tuple #[v,.bool r.isSome] else v) (w' := w) ?_ (hK _ S _ w ρ Φ hT rfl (NmTo.refl _ _) (PhiTo.refl _ _) hw ?_)
  ·simp [execOp,ho,h1,hkey,hrun]
  ·have hg : Rep G Φ (r.getD (AV.ofVal z)) ρ v := by
    cases r with
    | some u => exact hv
    | none => simp only at hv; subst hv; exact rep_ofVal _ _ _ _
   cases ok
   ·simpa using hg
   ·simp only [if_true]
    exact ⟨_,rfl,rfl,⟨v,rfl,hg⟩,⟨.bool r.isSome,rfl,by simp [Rep]⟩,trivial⟩
 rcases find_ok hk hko w es.toList hes with ⟨q1,q2⟩ | ⟨j,e,q1,q2,q3⟩
 ·cases r with
  | some u =>
   obtain ⟨_,e,he2,b1,b2⟩ := a7 _ _ hr
   exact absurd ((kOk_rep hko _ _ _ _).1 b1) (q2 e he2)
  | none =>
   refine fin z rfl ?_
   simp [Instr.lookup,run_underlying ht,MapKept.run_getObj_map a4,check_ok hk hko,q1,hzr,Result.andThen]
 ·obtain ⟨k',v',b1,b2,b3,b4⟩ := a6 e (List.mem_of_getElem? q2)
  have : k' = kk := by
   refine kv_inj b2 hko ?_
   rw [← (kOk_rep b2 _ _ _ _).1 b3,q3]
  subst this
  cases r with
  | none => exact absurd b1 (hr v')
  | some u =>
   have : u = v' := a3 _ _ _ hr b1
   subst this
   refine fin e.val (Rep.mono (PhiLe.refl _) u (fun _ _ e => by cases e) b4) ?_
   simp [Instr.lookup,run_underlying ht,MapKept.run_getObj_map a4,check_ok hk hko,q1,Result.andThen]

theorem ok_mlook {t K E : TypeId} {i : TypeInfo} {z : Value} {one ok : Bool} {ks : List CK} {x k : Operand} (ho : o.op = .lookup t x k ok) (ht : G.P.underlying t = some (.map K E)) (hk : KeyT G.P one ks K)
  (hi : G.P.info? E = some i) (hz : i.zero = some z) : OpOk G o (ex1 (.mlook one ks (AV.ofVal z) ok x k)) := by
 intro B X w0 S KK a w ρ Φ Q next he hw hfr hT hK
 simp only [ex1] at hT
 split at hT
 case h_3 => exact hT.elim
 case h_1 =>
  rename_i n kk hx hkk
  have h1 := evRel he hx
  simp only [Rep] at h1
  obtain ⟨hd,hρ,h1,_⟩ := h1
  split at hT
  case h_2 => exact hT.elim
  rename_i R hH
  obtain ⟨M,rfl,hko,r,hr,hT⟩ := hT
  obtain ⟨a1,a2,a3,es,cl,a4,a5,a6,a7⟩ := mapAt hw hH hρ
  dsimp only at a3 a6 a7
  exact look_fin ho ht hk hi hz he hw (h1.trans a2) hkk a4 a3 a6 a7 hko hr (by cases ok <;> exact hT) hK
 case h_2 =>
  rename_i R kk hx hkk
  have h1 := evRel he hx
  simp only [Rep] at h1
  obtain ⟨_,Φ1,hle,h1⟩ := h1
  obtain ⟨M,rfl,hko,r,hr,hT⟩ := hT
  obtain ⟨b,es,cl,a2,a4,a3,a6,a7⟩ := h1
  dsimp only at a3 a6 a7
  refine look_fin ho ht hk hi hz he hw a2 hkk (hw.phi _ _ (hle _ _ a4)) a3 (fun e he => ?_) (fun k v hm => ?_) hko hr (by cases ok <;> exact hT) hK
  ·obtain ⟨k,v,b1,b2,b3,b4⟩ := a6 e he
   exact ⟨k,v,b1,b2,Rep.mono hle k (NmLe.refl _) b3,Rep.mono hle v (NmLe.refl _) b4⟩
  ·obtain ⟨b0,e,he,b1,b2⟩ := a7 k v hm
   exact ⟨b0,e,he,Rep.mono hle k (NmLe.refl _) b1,Rep.mono hle v (NmLe.refl _) b2⟩

theorem ok_mput {t K E : TypeId} {one : Bool} {ks : List CK} {x k v : Operand} (ho : o.op = .mapUpdate t x k v ∨ o.op = .insert t x k v) (ht : G.P.underlying t = some (.map K E)) (hk : KeyT G.P one ks K) :
  OpOk G o (ex1 (.mput one ks x k v)) := by
 intro B X w0 S KK a w ρ Φ Q next he hw hfr hT hK
 simp only [ex1] at hT
 split at hT
 case h_2 => exact hT.elim
 rename_i n kk vv hx hkk hvv
 have h1 := evRel he hx
 have h2 := evRel he hvv
 simp only [Rep] at h1
 obtain ⟨hd,hρ,h1,_⟩ := h1
 split at hT
 case h_2 => exact hT.elim
 rename_i R hH
 obtain ⟨M,⟨rfl,hko,hnn⟩,hT⟩ := hT
 obtain ⟨a1,a2,a3,es,cl,a4,a5,a6,a7⟩ := mapAt hw hH hρ
 dsimp only at a3 a6 a7
 have hkey := (kOk_rep hko G Φ ρ _).1 (evRel he hkk)
 have hval : Rep G Φ vv (fun _ => none) (a.eval v) := hnn _ _ _ _ _ h2
 have hkr : Rep G Φ kk (fun _ => none) (kv kk) := (kOk_rep hko _ _ _ _).2 rfl
 have hes : ∀ e ∈ es.toList,∃ k',kOk one ks k' ∧ e.key = kv k' := fun e he => by
  obtain ⟨k',v',_,b2,b3,_⟩ := a6 e he
  exact ⟨k',b2,(kOk_rep b2 _ _ _ _).1 b3⟩
 have fn : ∀ k v v',putM M kk vv k v → putM M kk vv k v' → v = v' := by
  rintro k u u' (⟨e1,rfl⟩ | ⟨e1,c1⟩) (⟨e2,rfl⟩ | ⟨e2,c2⟩)
  ·rfl
  ·exact absurd e1 e2
  ·exact absurd e2 e1
  ·exact a3 _ _ _ c1 c2
 have hlt : hd.b < w.heap.size := (Array.getElem?_eq_some_iff.1 a4).1
 have fin : ∀ es' cl',(Instr.mapUpdate t (.map (some hd.b)) (kv kk) (a.eval v)).run G.P w = .ok () { w with heap := w.heap.setIfInBounds hd.b (.map es' cl') } → MapKept.Stamped es' cl' →
   (∀ e ∈ es'.toList,∃ k v,putM M kk vv k v ∧ kOk one ks k ∧ Rep G Φ k (fun _ => none) e.key ∧ Rep G Φ v (fun _ => none) e.val) →
   (∀ k v,putM M kk vv k v → kOk one ks k ∧ ∃ e ∈ es'.toList,Rep G Φ k (fun _ => none) e.key ∧ Rep G Φ v (fun _ => none) e.val) → o.wp G.P a w next Q := by
  intro es' cl' hrun hst g1 g2
  have hR : mapR ⟨one,ks,putM M kk vv⟩ G Φ ρ { w with heap := w.heap.setIfInBounds hd.b (.map es' cl') } hd :=
   ⟨a1,a2,fn,es',cl',by simp [hlt],hst,g1,g2⟩
  have hw' := hw.write (o := .opq (mapR ⟨one,ks,putM M kk vv⟩)) (w' := { w with heap := w.heap.setIfInBounds hd.b (.map es' cl') }) hH rfl hρ rfl rfl rfl (by simp)
   (fun b hb => by rw [a1] at hb; simp at hb; simp [Ne.symm hb]) ⟨hR,mapR_stay hR⟩
  refine wp_unit ?_ (hK _ _ undef _ ρ Φ hT rfl (NmTo.refl _ _) (PhiTo.refl _ _) hw' (by simp [Rep]))
  rcases ho with ho | ho <;> simp [execOp,ho,h1,a2,hkey,hrun]
 rcases find_ok hk hko w es.toList hes with ⟨q1,q2⟩ | ⟨j,e0,q1,q2,q3⟩
 ·refine fin (es.push ⟨kv kk,a.eval v,cl⟩) (cl + 1) ?_ (MapKept.stamped_push a5 q2) (fun e he => ?_) (fun k u hm => ?_)
  ·simp [Instr.mapUpdate,run_underlying ht,MapKept.run_getObj_map a4,check_ok hk hko,q1,MapKept.run_setObj_map _ a4,Result.andThen]
  ·simp only [Array.toList_push,List.mem_append,List.mem_singleton] at he
   rcases he with he | rfl
   ·obtain ⟨k',v',b1,b2,b3,b4⟩ := a6 e he
    refine ⟨k',v',.inr ⟨fun e1 => q2 e he ?_,b1⟩,b2,b3,b4⟩
    rw [← e1]; exact (kOk_rep b2 _ _ _ _).1 b3
   ·exact ⟨kk,vv,.inl ⟨rfl,rfl⟩,hko,hkr,hval⟩
  ·rcases hm with ⟨rfl,rfl⟩ | ⟨_,hm⟩
   ·exact ⟨hko,⟨kv k,a.eval v,cl⟩,by simp,hkr,hval⟩
   ·obtain ⟨b0,e,he,b1,b2⟩ := a7 _ _ hm
    exact ⟨b0,e,by simp; exact .inl (by simpa using he),b1,b2⟩
 ·have hj : es[j]? = some e0 := by simpa using q2
  have hjlt : j < es.size := (Array.getElem?_eq_some_iff.1 hj).1
  have hget : ∀ i,(es.modify j fun e => { e with key := kv kk,val := a.eval v })[i]? = if j = i then (es[i]?).map (fun e => { e with key := kv kk,val := a.eval v }) else es[i]? := fun i => Array.getElem?_modify ..
  have hdis := ((MapKept.stamped_iff es cl).1 a5).2.2
  have apart : ∀ i e,es[i]? = some e → i ≠ j → e.key ≠ e0.key := by
   intro i e hi hij
   rw [List.pairwise_iff_getElem] at hdis
   obtain ⟨l1,g1⟩ := Array.getElem?_eq_some_iff.1 hi
   obtain ⟨l2,g2⟩ := Array.getElem?_eq_some_iff.1 hj
   rcases Nat.lt_or_gt_of_ne hij with h | h
   ·have := hdis i j (by simpa using l1) (by simpa using l2) h
    simp only [Array.getElem_toList,g1,g2] at this
    exact this
   ·have := hdis j i (by simpa using l2) (by simpa using l1) h
    simp only [Array.getElem_toList,g1,g2] at this
    exact fun e => this e.symm
  refine fin (es.modify j fun e => { e with key := kv kk,val := a.eval v }) cl ?_ (MapKept.stamped_modify a5 j _ (fun _ _ => rfl) (fun e _ he => ?_)) (fun e he => ?_) (fun k u hm => ?_)
  ·simp [Instr.mapUpdate,run_underlying ht,MapKept.run_getObj_map a4,check_ok hk hko,q1,hj,q3,stays_ok hk hko,MapKept.run_setObj_map _ a4,Result.andThen]
  ·rw [hj] at he; cases he; exact q3.symm
  ·obtain ⟨i,hi⟩ := List.getElem?_of_mem he
   rw [Array.getElem?_toList,hget] at hi
   by_cases hij : j = i
   ·subst hij
    rw [if_pos rfl,hj] at hi
    simp at hi
    subst hi
    exact ⟨kk,vv,.inl ⟨rfl,rfl⟩,hko,hkr,hval⟩
   ·rw [if_neg hij] at hi
    obtain ⟨k',v',b1,b2,b3,b4⟩ := a6 e (by simpa using Array.mem_of_getElem? hi)
    refine ⟨k',v',.inr ⟨fun e1 => apart i e hi (Ne.symm hij) ?_,b1⟩,b2,b3,b4⟩
    rw [q3,← e1]; exact (kOk_rep b2 _ _ _ _).1 b3
  ·rcases hm with ⟨rfl,rfl⟩ | ⟨hne,hm⟩
   ·refine ⟨hko,{ e0 with key := kv k,val := a.eval v },List.mem_of_getElem? (i := j) ?_,hkr,hval⟩
    rw [Array.getElem?_toList,hget,if_pos rfl,hj]; rfl
   ·obtain ⟨hk2,e,he,b1,b2⟩ := a7 _ _ hm
    obtain ⟨i,hi⟩ := List.getElem?_of_mem he
    have hij : j ≠ i := by
     rintro rfl
     rw [q2] at hi; cases hi
     exact hne (kv_inj hk2 hko (by rw [← (kOk_rep hk2 _ _ _ _).1 b1,q3]))
    refine ⟨hk2,e,List.mem_of_getElem? (i := i) ?_,b1,b2⟩
    rw [Array.getElem?_toList,hget,if_neg hij]
    simpa using hi
end ops


section range
variable {G : Gl} {B : Nat} {X : Nat → Prop} {w0 : World} {ρ : Nm} {Φ : Phi} {H : Nat → Option AO} {nx : Nat} {w : World}

theorem rangeR_stay {n : Nat} {m : MC} {D : AV → Prop} {cur : Option (AV × AV)} {h : Hd} (hr : rangeR n m D cur G Φ ρ w h) :
  ∀ w' Φ' ρ',(∀ b ∈ h.fp,w'.heap[b]? = w.heap[b]?) → PhiLe Φ Φ' → NmLe ρ ρ' → (∀ b o,Φ' b = some o → w'.heap[b]? = some o) → rangeR n m D cur G Φ' ρ' w' h := by
 intro w' Φ' ρ' h1 h2 h3 _
 obtain ⟨hm,a0,a1,a2,a3,a4,a5,es,cl,seen,b1,b2,b3,b4,b5,b6,b7⟩ := hr
 refine ⟨hm,h3 _ _ a0,a1,a2,a3,a4,a5,es,cl,seen,by rw [h1 _ (by simp [a3])]; exact b1,by rw [h1 _ (by simp [a3])]; exact b2,b3,fun e he => ?_,fun k v hk => ?_,fun e he k v hm hk => ?_,?_⟩
 ·obtain ⟨k,v,c1,c2,c3,c4⟩ := b4 e he
  exact ⟨k,v,c1,c2,Rep.mono h2 k (NmLe.refl _) c3,Rep.mono h2 v (NmLe.refl _) c4⟩
 ·obtain ⟨c0,e,he,c1,c2⟩ := b5 k v hk
  exact ⟨c0,e,he,Rep.mono h2 k (NmLe.refl _) c1,Rep.mono h2 v (NmLe.refl _) c2⟩
 ·have c0 := (b5 k v hm).1
  have := (kOk_rep c0 G Φ' _ _).1 hk
  exact b6 e he k v hm ((kOk_rep c0 G Φ _ _).2 this)
 ·cases cur with
  | none => trivial
  | some p =>
   obtain ⟨e,he,s,c1,c2,c3⟩ := b7
   exact ⟨e,he,s,c1,Rep.mono h2 _ (NmLe.refl _) c2,Rep.mono h2 _ (NmLe.refl _) c3⟩

/-- A new block joins the block of a name, under the next name. -/
theorem Wf0.join (h : Wf0 G B X w0 ρ Φ H w) (hfr : ρ nx = none) {n : Nat} {old o : AO} {hm hd : Hd} (hn : H n = some old) (hr : ρ n = some hm) (ob : Obj) (hfp : hd.fp = [hm.b,w.heap.size]) (hmf : hm.fp = [hm.b])
  (ho : ORep G Φ (upd ρ nx (some hd)) { w with heap := w.heap.push ob } hd o) :
  Wf0 G B X w0 (upd ρ nx (some hd)) Φ (upd (upd H n none) nx (some o)) { w with heap := w.heap.push ob } where
 os := h.os
 tape := h.tape
 output := h.output
 size := by have := h.size; simp; omega
 base := by have := h.base; simp; omega
 frame := fun k hk hx => by
  have := h.base
  rw [push_get w ob (by omega)]; exact h.frame k hk hx
 gb := h.gb
 phi := fun b o' e => by
  have e1 := h.phi b o' e
  rw [push_get w ob (Array.getElem?_eq_some_iff.1 e1).1]; exact e1
 objs := fun k o' e => by
  by_cases hk : k = nx
  ·subst hk
   rw [upd_same] at e; cases e
   refine ⟨hd,upd_same _ _ _,ho,?_⟩
   obtain ⟨hm',p1,_,p3⟩ := h.objs n old hn
   rw [hr] at p1; cases p1
   obtain ⟨p4,p5,p6⟩ := p3 hm.b (by rw [hmf]; simp)
   intro b hbf
   rw [hfp] at hbf
   simp at hbf
   rcases hbf with rfl | rfl
   ·exact ⟨p4,p5,by simp; omega⟩
   ·refine ⟨.inl h.base,?_,by simp⟩
    cases hp : Φ w.heap.size with
    | none => rfl
    | some o2 => have := (Array.getElem?_eq_some_iff.1 (h.phi _ _ hp)).1; omega
  ·rw [upd_ne _ _ hk] at e
   have hkn : k ≠ n := by intro e2; subst e2; rw [upd_same] at e; cases e
   rw [upd_ne _ _ hkn] at e
   obtain ⟨x,h1,h2,h3⟩ := h.objs k o' e
   refine ⟨x,by rw [upd_ne _ _ hk]; exact h1,ORep.mono (PhiLe.refl _) (NmLe.upd hfr hd) ?_ ?_ h2,?_⟩
   ·intro b o2 e2
    have e1 := h.phi b o2 e2
    rw [push_get w ob (Array.getElem?_eq_some_iff.1 e1).1]; exact e1
   ·intro b hb'
    exact push_get w ob (h3 b hb').2.2
   ·intro b hb'
    obtain ⟨h4,h5,h6⟩ := h3 b hb'
    exact ⟨h4,h5,by simp; omega⟩
 disj := fun i j x y hij h1 h2 e1 e2 => by
  have low : ∀ k z,k ≠ nx → upd (upd H n none) nx (some o) k ≠ none → upd ρ nx (some hd) k = some z → k ≠ n ∧ H k ≠ none ∧ ρ k = some z ∧ ∀ b ∈ z.fp,b < w.heap.size := by
   intro k z hk hH hz
   rw [upd_ne _ _ hk] at hH hz
   have hkn : k ≠ n := by intro e2; subst e2; rw [upd_same] at hH; exact hH rfl
   rw [upd_ne _ _ hkn] at hH
   cases e : H k with
   | none => exact absurd e hH
   | some o2 =>
    obtain ⟨z',h3,_,h5⟩ := h.objs k o2 e
    rw [hz] at h3; cases h3
    exact ⟨hkn,by simp,hz,fun b hb => (h5 b hb).2.2⟩
  have one : ∀ k z,k ≠ nx → upd (upd H n none) nx (some o) k ≠ none → upd ρ nx (some hd) k = some z → ∀ b ∈ z.fp,b ∉ hd.fp := by
   intro k z hk a1 a2 b hb hb2
   obtain ⟨c1,c2,c3,c4⟩ := low k z hk a1 a2
   rw [hfp] at hb2
   simp at hb2
   rcases hb2 with rfl | rfl
   ·exact h.disj k n z hm c1 c2 (by rw [hn]; simp) c3 hr _ hb (by rw [hmf]; simp)
   ·have := c4 _ hb; omega
  by_cases hi : i = nx
  ·subst hi
   rw [upd_same] at e1; cases e1
   intro b hbf hbg
   exact one j y (by omega) h2 e2 b hbg hbf
  ·by_cases hj : j = nx
   ·subst hj
    rw [upd_same] at e2; cases e2
    intro b hbf hbg
    exact one i x hi h1 e1 b hbf hbg
   ·obtain ⟨_,c2,c3,_⟩ := low i x hi h1 e1
    obtain ⟨_,d2,d3,_⟩ := low j y hj h2 e2
    exact h.disj i j x y hij c2 d2 c3 d3

/-- A name gives its block to another, of which nothing is known yet. -/
theorem Wf0.give (h : Wf0 G B X w0 ρ Φ H w) {n j : Nat} {old o : AO} {hm hd : Hd} (hne : n ≠ j) (hj : H j = some old) (hrj : ρ j = some hd) (hrn : ρ n = some hm) (hn : H n = none) (hsub : ∀ b ∈ hm.fp,b ∈ hd.fp)
  (ho : ORep G Φ ρ w hm o) : Wf0 G B X w0 ρ Φ (upd (upd H j none) n (some o)) w where
 os := h.os
 tape := h.tape
 output := h.output
 size := h.size
 base := h.base
 frame := h.frame
 phi := h.phi
 gb := h.gb
 objs := fun k o' e => by
  by_cases hk : k = n
  ·subst hk
   rw [upd_same] at e; cases e
   obtain ⟨hd',p1,_,p3⟩ := h.objs j old hj
   rw [hrj] at p1; cases p1
   exact ⟨hm,hrn,ho,fun b hb => p3 b (hsub b hb)⟩
  ·rw [upd_ne _ _ hk] at e
   have hkj : k ≠ j := by intro e2; subst e2; rw [upd_same] at e; cases e
   rw [upd_ne _ _ hkj] at e
   exact h.objs k o' e
 disj := fun i l x y hil h1 h2 e1 e2 => by
  have low : ∀ k z,upd (upd H j none) n (some o) k ≠ none → ρ k = some z → (k = n ∧ z = hm) ∨ (k ≠ n ∧ k ≠ j ∧ H k ≠ none) := by
   intro k z hH hz
   by_cases hk : k = n
   ·subst hk; rw [hrn] at hz; cases hz; exact .inl ⟨rfl,rfl⟩
   ·rw [upd_ne _ _ hk] at hH
    have hkj : k ≠ j := by intro e2; subst e2; rw [upd_same] at hH; exact hH rfl
    rw [upd_ne _ _ hkj] at hH
    exact .inr ⟨hk,hkj,hH⟩
  rcases low i x h1 e1 with ⟨rfl,rfl⟩ | ⟨a1,a2,a3⟩ <;> rcases low l y h2 e2 with ⟨rfl,rfl⟩ | ⟨b1,b2,b3⟩
  ·exact absurd rfl hil
  ·intro b hb hb2
   exact h.disj j l hd y (Ne.symm b2) (by rw [hj]; simp) b3 hrj e2 b (hsub b hb) hb2
  ·intro b hb hb2
   exact h.disj i j x hd a2 a3 (by rw [hj]; simp) e1 hrj b hb (hsub b hb2)
  ·exact h.disj i l x y hil a3 b3 e1 e2

end range

end Qk
