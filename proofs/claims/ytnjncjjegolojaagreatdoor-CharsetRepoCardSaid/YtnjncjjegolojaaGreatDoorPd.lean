/-
  Chapter 32: globs in plain words; contracts; the parser.
-/
import Derived.Test.YtnjncjjegolojaaGreatDoorPa
import Derived.Test.YtnjncjjegolojaaGreatDoorPc

/-
  Chapter 32: globs, what they match, and what their parts have in common; in plain words.
-/
namespace Qk

/-- An element of a component pattern. -/
inductive El where
 | star
 | any
 | lit (c : UInt8)
 | cls (neg : Bool) (tab : List Bool)
 deriving DecidableEq,Inhabited

def El.isStar : El → Bool
 | .star => true
 | _ => false
/-- Does a byte fit? -/
def El.fit : El → UInt8 → Bool
 | .star,_ => false
 | .any,c => !(c == 47)
 | .lit d,c => c == d
 | .cls neg tab,c => !(c == 47) && (tab.getD c.toNat false != neg)

/-- A row of patterns, some of which take any number of things, the others one thing each, takes a row of things. -/
def gm {ε σ : Type} (star : ε → Bool) (fit : ε → σ → Bool) : List ε → List σ → Bool
 | [],s => s.isEmpty
 | e :: l,[] => star e && gm star fit l []
 | e :: l,c :: s => match star e with
  | true => gm star fit l (c :: s) || gm star fit (e :: l) s
  | false => fit e c && gm star fit l s
termination_by l s => (l.length,s.length)

section gm
variable {ε σ : Type} {star : ε → Bool} {fit : ε → σ → Bool}

theorem gm_nil_cons (c : σ) (s : List σ) : gm star fit [] (c :: s) = false := by simp [gm]
theorem gm_cons_nil (e : ε) (l : List ε) : gm star fit (e :: l) [] = (star e && gm star fit l []) := by simp [gm]
theorem gm_star (e : ε) (l : List ε) (c : σ) (s : List σ) (h : star e = true) : gm star fit (e :: l) (c :: s) = (gm star fit l (c :: s) || gm star fit (e :: l) s) := by
 rw [gm]; simp [h]
theorem gm_one (e : ε) (l : List ε) (c : σ) (s : List σ) (h : star e = false) : gm star fit (e :: l) (c :: s) = (fit e c && gm star fit l s) := by
 rw [gm]; simp [h]
theorem gm_nil_all (l : List ε) : gm star fit l [] = l.all star := by
 induction l with
 | nil => simp [gm]
 | cons e l ih => rw [gm_cons_nil,ih,List.all_cons]
/-- A star takes nothing, or more. -/
theorem gm_star' (e : ε) (l : List ε) (s : List σ) (h : star e = true) : gm star fit (e :: l) s = (gm star fit l s || match s with | [] => false | _ :: r => gm star fit (e :: l) r) := by
 cases s with
 | nil => rw [gm_cons_nil,h]; simp
 | cons c s => rw [gm_star _ _ _ _ h]

/-- Where one can be, among patterns, behind a thing: the places that follow the place i. -/
def aft (star : ε → Bool) (fit : ε → σ → Bool) (c : σ) : Nat → List ε → List Nat
 | _,[] => []
 | i,e :: l => match star e with
  | true => i :: aft star fit c (i + 1) l
  | false => if fit e c then [i + 1] else []

theorem aft_ok (c : σ) (s : List σ) (full : List ε) : ∀ (l : List ε) (i : Nat),full.drop i = l → gm star fit l (c :: s) = (aft star fit c i l).any fun j => gm star fit (full.drop j) s
 | [],i,_ => by simp [gm,aft]
 | e :: l,i,h => by
  have h1 : full.drop (i + 1) = l := by rw [← List.drop_drop,h]; rfl
  rw [aft]
  cases he : star e with
  | true =>
   rw [gm_star _ _ _ _ he,aft_ok c s full l (i + 1) h1]
   simp only [List.any_cons,h]
   rw [Bool.or_comm]
  | false =>
   rw [gm_one _ _ _ _ he]
   cases hf : fit e c with
   | true => simp [h1]
   | false => simp

/-- One of these places leads to the end. -/
def anyAt (star : ε → Bool) (fit : ε → σ → Bool) (full : List ε) (M : Nat → Prop) (s : List σ) : Prop := ∃ i,M i ∧ gm star fit (full.drop i) s = true

theorem anyAt_step (full : List ε) (M M' : Nat → Prop) (c : σ) (s : List σ) (h : ∀ j,M' j ↔ ∃ i,M i ∧ j ∈ aft star fit c i (full.drop i)) : anyAt star fit full M (c :: s) ↔ anyAt star fit full M' s := by
 unfold anyAt
 constructor
 ·rintro ⟨i,hi,hm⟩
  rw [aft_ok c s full _ i rfl,List.any_eq_true] at hm
  obtain ⟨j,hj,hg⟩ := hm
  exact ⟨j,(h j).2 ⟨i,hi,hj⟩,hg⟩
 ·rintro ⟨j,hj,hg⟩
  obtain ⟨i,hi,hm⟩ := (h j).1 hj
  refine ⟨i,hi,?_⟩
  rw [aft_ok c s full _ i rfl,List.any_eq_true]
  exact ⟨j,hm,hg⟩

/-- Places closed under leaving out stars. -/
def Closed (star : ε → Bool) (full : List ε) (M : Nat → Prop) : Prop := ∀ i e,M i → full[i]? = some e → star e = true → M (i + 1)

/-- The step among closed places: a star stays, another takes one. -/
theorem anyAt_closed (full : List ε) (M M' : Nat → Prop) (c : σ) (s : List σ) (hc : Closed star full M)
  (h : ∀ j,M' j ↔ ∃ i e,M i ∧ full[i]? = some e ∧ ((star e = true ∧ j = i) ∨ (star e = false ∧ fit e c = true ∧ j = i + 1))) : anyAt star fit full M (c :: s) ↔ anyAt star fit full M' s := by
 have drop_at : ∀ i e,full[i]? = some e → full.drop i = e :: full.drop (i + 1) := by
  intro i e he
  obtain ⟨h1,h2⟩ := List.getElem?_eq_some_iff.1 he
  rw [List.drop_eq_getElem_cons h1,h2]
 unfold anyAt
 constructor
 ·rintro ⟨i,hi,hm⟩
  -- go on to the right as long as stars are left out
  obtain ⟨n,hn⟩ : ∃ n,n = full.length - i := ⟨_,rfl⟩
  induction n generalizing i with
  | zero =>
   have : full.drop i = [] := List.drop_of_length_le (by omega)
   rw [this,gm_nil_cons] at hm
   cases hm
  | succ n ih =>
   have hlt : i < full.length := by omega
   have he : full[i]? = some full[i] := List.getElem?_eq_getElem hlt
   rw [drop_at i _ he] at hm
   cases hs : star full[i] with
   | true =>
    rw [gm_star _ _ _ _ hs,Bool.or_eq_true] at hm
    rcases hm with hm | hm
    ·exact ih (i + 1) (hc i _ hi he hs) hm (by omega)
    ·exact ⟨i,(h i).2 ⟨i,_,hi,he,.inl ⟨hs,rfl⟩⟩,by rw [drop_at i _ he]; exact hm⟩
   | false =>
    rw [gm_one _ _ _ _ hs,Bool.and_eq_true] at hm
    exact ⟨i + 1,(h (i + 1)).2 ⟨i,_,hi,he,.inr ⟨hs,hm.1,rfl⟩⟩,hm.2⟩
 ·rintro ⟨j,hj,hg⟩
  obtain ⟨i,e,hi,he,(⟨hs,rfl⟩ | ⟨hs,hf,rfl⟩)⟩ := (h j).1 hj
  ·exact ⟨j,hi,by rw [drop_at _ _ he,gm_star _ _ _ _ hs,← drop_at _ _ he,hg,Bool.or_true]⟩
  ·exact ⟨i,hi,by rw [drop_at _ _ he,gm_one _ _ _ _ hs,hf,hg]; rfl⟩

/-- Closing places changes nothing. -/
theorem anyAt_close (full : List ε) (M M' : Nat → Prop) (s : List σ) (h1 : ∀ i,M i → M' i) (h2 : ∀ j,M' j → ∃ i,M i ∧ i ≤ j ∧ ∀ k,i ≤ k → k < j → ∃ e,full[k]? = some e ∧ star e = true) :
  anyAt star fit full M s ↔ anyAt star fit full M' s := by
 unfold anyAt
 constructor
 ·rintro ⟨i,hi,hm⟩; exact ⟨i,h1 i hi,hm⟩
 ·rintro ⟨j,hj,hm⟩
  obtain ⟨i,hi,hle,hk⟩ := h2 j hj
  refine ⟨i,hi,?_⟩
  obtain ⟨n,hn⟩ : ∃ n,n = j - i := ⟨_,rfl⟩
  clear hi
  induction n generalizing i with
  | zero => have : i = j := by omega
            subst this; exact hm
  | succ n ih =>
   obtain ⟨e,he,hs⟩ := hk i (Nat.le_refl _) (by omega)
   have hlt := (List.getElem?_eq_some_iff.1 he).1
   rw [List.drop_eq_getElem_cons hlt]
   have hee : full[i] = e := (List.getElem?_eq_some_iff.1 he).2
   rw [hee,gm_star' _ _ _ hs,ih (i + 1) (by omega) (fun k a b => hk k (by omega) b) (by omega)]
   rfl

/-- At the end of the things. -/
theorem anyAt_end (full : List ε) (M : Nat → Prop) : anyAt star fit full M [] ↔ ∃ i,M i ∧ (full.drop i).all star = true := by
 unfold anyAt
 simp only [gm_nil_all]
theorem anyAt_endC (full : List ε) (M : Nat → Prop) (hc : Closed star full M) (hb : ∀ i,M i → i ≤ full.length) : anyAt star fit full M [] ↔ M full.length := by
 rw [anyAt_end]
 constructor
 ·rintro ⟨i,hi,ha⟩
  obtain ⟨n,hn⟩ : ∃ n,n = full.length - i := ⟨_,rfl⟩
  induction n generalizing i with
  | zero => have := hb i hi
            have : i = full.length := by omega
            subst this; exact hi
  | succ n ih =>
   have hlt : i < full.length := by omega
   rw [List.drop_eq_getElem_cons hlt,List.all_cons,Bool.and_eq_true] at ha
   exact ih (i + 1) (hc i _ hi (List.getElem?_eq_getElem hlt) ha.1) ha.2 (by omega)
 ·intro h
  exact ⟨_,h,by simp⟩
theorem anyAt_start (full : List ε) (s : List σ) : anyAt star fit full (fun i => i = 0) s ↔ gm star fit full s = true := by
 unfold anyAt
 constructor
 ·rintro ⟨i,rfl,h⟩; simpa using h
 ·intro h; exact ⟨0,rfl,by simpa using h⟩
end gm

/-! ### Parsing -/

/-- The byte at the beginning, quoted or not, and how many bytes it takes. -/
def byte1 : List UInt8 → Option (UInt8 × Nat)
 | [] => none
 | c :: r => if c == 92 then (match r with | [] => none | d :: _ => some (d,2)) else some (c,1)

def setR (tab : List Bool) (low high : Nat) : List Bool := (List.range 256).map fun b => tab.getD b false || (decide (low ≤ b) && decide (b ≤ high))

/-- The upper end of a range of a class, and what follows it. -/
def upto (low : UInt8) (r : List UInt8) : Option (UInt8 × List UInt8) :=
 match r with
 | h :: d :: r2 => if h == 45 && !(d == 93) then (match byte1 (d :: r2) with | none => none | some (hi,m) => some (hi,(d :: r2).drop m)) else some (low,r)
 | _ => some (low,r)

/-- The items of a class. -/
def items : Nat → List Bool → Nat → List UInt8 → Option (List Bool × Nat × List UInt8)
 | 0,_,_,_ => none
 | _ + 1,_,_,[] => none
 | f + 1,tab,n,c :: r => if c == 93 then some (tab,n,r) else
  match byte1 (c :: r) with
  | none => none
  | some (low,m) => match upto low ((c :: r).drop m) with
   | none => none
   | some (high,r3) => if high.toNat < low.toNat then none else items f (setR tab low.toNat high.toNat) (n + 1) r3

def noTab : List Bool := List.replicate 256 false
def someB (f : UInt8 → Bool) : Bool := (List.range 256).any fun b => f (UInt8.ofNat b)

/-- A class behind its opening bracket. -/
def isNeg : List UInt8 → Bool
 | c :: _ => c == 33
 | [] => false
def classL (r : List UInt8) : Option (El × List UInt8) :=
 match items (r.length + 1) noTab 0 (if isNeg r then r.drop 1 else r) with
 | none => none
 | some (tab,n,rest) => if decide (0 < n) && someB (El.cls (isNeg r) tab).fit then some (.cls (isNeg r) tab,rest) else none

def elL : List UInt8 → Option (El × List UInt8)
 | [] => none
 | c :: r => if c == 42 then some (.star,r) else if c == 63 then some (.any,r) else if c == 91 then classL r else
  match byte1 (c :: r) with
  | none => none
  | some (d,n) => some (.lit d,(c :: r).drop n)

def elsL : Nat → List UInt8 → Option (List El)
 | _,[] => some []
 | 0,_ :: _ => none
 | f + 1,c :: r => match elL (c :: r) with
  | none => none
  | some (e,rest) => match elsL f rest with
   | none => none
   | some l => some (e :: l)

structure Comp where
 any : Bool
 els : List El
 deriving DecidableEq,Inhabited

def compL (s : List UInt8) : Option Comp :=
 if s = [42,42] then some ⟨true,[]⟩ else if s = [] then none else (elsL s.length s).map fun l => ⟨false,l⟩

/-- The parts between the slashes. -/
def splitS : List UInt8 → List (List UInt8)
 | [] => [[]]
 | c :: r => if c == 47 then [] :: splitS r else match splitS r with
  | p :: ps => (c :: p) :: ps
  | [] => [[c]]
def partsL (s : List UInt8) : List (List UInt8) := if s = [] then [] else splitS s

def compsL : List (List UInt8) → Option (List Comp)
 | [] => some []
 | s :: r => match compL s with
  | none => none
  | some c => match compsL r with
   | none => none
   | some l => some (c :: l)
def globL (g : List UInt8) : Option (List Comp) := if 200 < g.length then none else compsL (splitS g)

/-! ### Matching -/
def Comp.fit (c : Comp) (s : List UInt8) : Bool := gm El.isStar El.fit c.els s
def matchL (l : List Comp) (ps : List (List UInt8)) : Bool := gm Comp.any Comp.fit l ps
def matchG (g path : List UInt8) : Bool := match globL g with
 | none => false
 | some l => matchL l (partsL path)

def checkG (g : List UInt8) : Int := if 200 < g.length then 4 else match globL g with | none => 3 | some _ => 0

/-! ### What two rows of patterns have in common -/

def gov {ε : Type} (star : ε → Bool) (meet : ε → ε → Bool) : List ε → List ε → Bool
 | [],[] => true
 | e :: l,[] => star e && gov star meet l []
 | [],f :: m => star f && gov star meet [] m
 | e :: l,f :: m => match star e || star f with
  | true => gov star meet l (f :: m) || gov star meet (e :: l) m
  | false => meet e f && gov star meet l m
termination_by l m => (l.length,m.length)

section gov
variable {ε σ : Type} {star : ε → Bool} {fit : ε → σ → Bool} {meet : ε → ε → Bool}

theorem gov_nn : gov star meet [] [] = true := by simp [gov]
theorem gov_cn (e : ε) (l : List ε) : gov star meet (e :: l) [] = (star e && gov star meet l []) := by simp [gov]
theorem gov_nc (e : ε) (l : List ε) : gov star meet [] (e :: l) = (star e && gov star meet [] l) := by simp [gov]
theorem gov_star (e f : ε) (l m : List ε) (h : (star e || star f) = true) : gov star meet (e :: l) (f :: m) = (gov star meet l (f :: m) || gov star meet (e :: l) m) := by
 rw [gov]; simp only [h]
theorem gov_one (e f : ε) (l m : List ε) (h : (star e || star f) = false) : gov star meet (e :: l) (f :: m) = (meet e f && gov star meet l m) := by
 rw [gov]; simp only [h]

end gov

def El.meet (e f : El) : Bool := someB fun c => e.fit c && f.fit c
def Comp.meet (c d : Comp) : Bool := gov El.isStar El.meet c.els d.els
def overL (x y : List Comp) : Bool := gov Comp.any Comp.meet x y
def overG (a b : List UInt8) : Bool := match globL a,globL b with
 | some x,some y => overL x y
 | _,_ => false

/-! ### The beginning that all matching paths have -/
def lits : List El → List UInt8 × Bool
 | [] => ([],true)
 | .lit c :: l => (c :: (lits l).1,(lits l).2)
 | _ :: _ => ([],false)
def fixL : Bool → List Comp → List UInt8
 | _,[] => []
 | first,c :: l => if c.any then (if !first && l.any (fun d => !d.any) then [47] else []) else
  (if first then [] else [47]) ++ (if (lits c.els).2 then (lits c.els).1 ++ fixL false l else (lits c.els).1)
def fixG (g : List UInt8) : List UInt8 := match globL g with
 | none => []
 | some l => fixL true l

end Qk

/-
  Chapter 32: the statements, in plain words.
-/
namespace Qk

/-! ### Parts of strings -/
def NoSl (s : List UInt8) : Prop := ∀ c ∈ s,c ≠ 47
theorem splitS_ne (s : List UInt8) : splitS s ≠ [] := by
 cases s with
 | nil => simp [splitS]
 | cons c r =>
  rw [splitS]
  split
  ·simp
  ·split <;> simp
theorem splitS_cons (c : UInt8) (r : List UInt8) (h : ¬ c = 47) : ∃ p ps,splitS r = p :: ps ∧ splitS (c :: r) = (c :: p) :: ps := by
 cases hs : splitS r with
 | nil => exact absurd hs (splitS_ne r)
 | cons p ps =>
  refine ⟨p,ps,rfl,?_⟩
  rw [splitS,if_neg (by simpa using h),hs]
/-- A string without slashes, and what follows a slash. -/
theorem split_app : ∀ (s t : List UInt8),NoSl s → splitS (s ++ 47 :: t) = s :: splitS t
 | [],t,_ => by rw [List.nil_append,splitS,if_pos (by rfl)]
 | c :: s,t,h => by
  have hc : ¬ c = 47 := h c (by simp)
  obtain ⟨p,ps,h1,h2⟩ := splitS_cons c (s ++ 47 :: t) hc
  rw [List.cons_append,h2]
  rw [split_app s t (fun d hd => h d (by simp [hd]))] at h1
  cases h1
  rfl
theorem split_one : ∀ (s : List UInt8),NoSl s → splitS s = [s]
 | [],_ => rfl
 | c :: s,h => by
  obtain ⟨p,ps,h1,h2⟩ := splitS_cons c s (h c (by simp))
  rw [h2]
  rw [split_one s (fun d hd => h d (by simp [hd]))] at h1
  cases h1
  rfl
/-! ### What is parsed is of the right form -/
def El.good (e : El) : Prop := e.isStar = false → ∃ c,e.fit c = true
theorem someB_iff {f : UInt8 → Bool} : someB f = true ↔ ∃ c,f c = true := by
 unfold someB
 rw [List.any_eq_true]
 constructor
 ·rintro ⟨b,_,h⟩; exact ⟨_,h⟩
 ·rintro ⟨c,h⟩
  refine ⟨c.toNat,by simp [c.toNat_lt],?_⟩
  rw [UInt8.ofNat_toNat]; exact h
theorem class_good {r rest : List UInt8} {e : El} (h : classL r = some (e,rest)) : e.good := by
 unfold classL at h
 cases hi : items (r.length + 1) noTab 0 (if isNeg r = true then r.drop 1 else r) with
 | none => rw [hi] at h; cases h
 | some q =>
  obtain ⟨tab,n,rest'⟩ := q
  rw [hi] at h
  simp only at h
  cases hc : decide (0 < n) && someB (El.cls (isNeg r) tab).fit with
  | false => rw [hc] at h; cases h
  | true =>
   rw [hc] at h
   cases h
   rw [Bool.and_eq_true] at hc
   intro _
   exact someB_iff.1 hc.2
theorem el_good {r rest : List UInt8} {e : El} (h : elL r = some (e,rest)) : e.good := by
 cases r with
 | nil => simp [elL] at h
 | cons c r =>
  rw [elL] at h
  split at h
  ·cases h; intro h; cases h
  ·split at h
   ·cases h; intro _; exact ⟨0,rfl⟩
   ·split at h
    ·exact class_good h
    ·split at h
     ·cases h
     ·cases h; rename_i d _ _; intro _; exact ⟨d,by simp [El.fit]⟩
theorem els_good : ∀ {f : Nat} {r : List UInt8} {l : List El},elsL f r = some l → ∀ e ∈ l,e.good
 | _,[],l,h => by simp only [elsL,Option.some.injEq] at h; subst h; intro e he; cases he
 | 0,_ :: _,l,h => by simp [elsL] at h
 | f + 1,c :: r,l,h => by
  rw [elsL] at h
  split at h
  ·cases h
  ·rename_i e rest he
   split at h
   ·cases h
   ·rename_i l' hl'
    cases h
    intro x hx
    rcases List.mem_cons.1 hx with rfl | hx
    ·exact el_good he
    ·exact els_good hl' x hx
theorem comp_good {s : List UInt8} {c : Comp} (h : compL s = some c) : (∀ e ∈ c.els,e.good) ∧ s ≠ [] := by
 unfold compL at h
 split at h
 ·rename_i hs; cases h; exact ⟨(fun e he => by cases he),(by rw [hs]; simp)⟩
 ·split at h
  ·cases h
  ·rename_i _ hs
   rw [Option.map_eq_some_iff] at h
   obtain ⟨l,hl,rfl⟩ := h
   exact ⟨els_good hl,hs⟩
theorem comps_good : ∀ {ps : List (List UInt8)} {l : List Comp},compsL ps = some l → ∀ c ∈ l,∀ e ∈ c.els,e.good
 | [],l,h => by simp only [compsL,Option.some.injEq] at h; subst h; intro c hc; cases hc
 | s :: r,l,h => by
  rw [compsL] at h
  split at h
  ·cases h
  ·rename_i c hc
   split at h
   ·cases h
   ·rename_i l' hl'
    cases h
    intro x hx
    rcases List.mem_cons.1 hx with rfl | hx
    ·exact (comp_good hc).1
    ·exact comps_good hl' x hx
theorem comps_len : ∀ {ps : List (List UInt8)} {l : List Comp},compsL ps = some l → l.length = ps.length
 | [],l,h => by simp only [compsL,Option.some.injEq] at h; subst h; rfl
 | s :: r,l,h => by
  rw [compsL] at h
  split at h
  ·cases h
  ·split at h
   ·cases h
   ·rename_i l' hl'
    cases h
    simp [comps_len hl']
theorem glob_good {g : List UInt8} {l : List Comp} (h : globL g = some l) : (∀ c ∈ l,∀ e ∈ c.els,e.good) ∧ l ≠ [] ∧ g.length ≤ 200 := by
 unfold globL at h
 split at h
 ·cases h
 ·rename_i hg
  refine ⟨comps_good h,?_,by omega⟩
  have := comps_len h
  intro e
  rw [e] at this
  exact splitS_ne g (List.length_eq_zero_iff.1 this.symm)
theorem check_zero {g : List UInt8} : checkG g = 0 ↔ ∃ l,globL g = some l := by
 unfold checkG
 constructor
 ·intro h
  split at h
  ·cases h
  ·split at h
   ·cases h
   ·exact ⟨_,by assumption⟩
 ·rintro ⟨l,h⟩
  rw [if_neg (by have := (glob_good h).2.2; omega),h]

/-! ### Overlapping -/
end Qk

/-
  Chapter 32: the other statements, in plain words.
-/
namespace Qk

/-! ### Two patterns one behind the other -/
section
variable {ε σ : Type} {star : ε → Bool} {fit : ε → σ → Bool}
end

/-! ### Two stars before a glob -/
/-! ### Two globs with a slash between them -/
/-! ### The beginning of what matches -/
/-! ### Quoted paths -/
end Qk

/-
  Chapter 32: what the functions give; small functions.
-/
namespace Qk
open Go Go.RowKit

def boos (l : List Bool) : List AV := l.map .bool
theorem boos_length (l : List Bool) : (boos l).length = l.length := by simp [boos]
theorem boos_get {l : List Bool} {i : Nat} (h : i < l.length) : (boos l)[i]? = some (.bool (l.getD i false)) := by
 simp [boos,List.getD,h]
theorem boos_set (l : List Bool) (i : Nat) (b : Bool) : (boos l).set i (.bool b) = boos (l.set i b) := by simp [boos,List.map_set]
theorem plain_boos (l : List Bool) : ∀ c ∈ boos l,PlainV c := by
 intro c hc
 obtain ⟨b,_,rfl⟩ := List.mem_map.1 hc
 exact plain_bool b
theorem nnl_boos (l : List Bool) : NNL (boos l) := nnl_plain (plain_boos l)
theorem boos_all (l : List Bool) : AllOne (boos l) := by
 intro c hc
 obtain ⟨b,_,rfl⟩ := List.mem_map.1 hc
 rfl
theorem repl_boos (n : Nat) : repl n [AV.bool false] = boos (List.replicate n false) := by
 induction n with
 | zero => rfl
 | succ n ih => rw [repl,ih]; rfl
/-! ### The program's own form -/
def elA : El → List AV
 | .star => [.bool true,.bool false,.int .u8 0,.raw .nilFunc]
 | .any => [.bool false,.bool false,.int .u8 0,.clo (1000000 + 101) []]
 | .lit c => [.bool false,.bool true,.int .u8 c.toNat,.clo 2 [.iref [.int .u8 c.toNat] 0]]
 | .cls neg tab => [.bool false,.bool false,.int .u8 0,.clo 3 [.iref (boos tab) 0,.iref [.bool neg] 0]]
def flatE (l : List El) : List AV := l.flatMap elA
def elsA (l : List El) : AV := .ilist 4 l.length (flatE l)
def cpA (c : Comp) : List AV := [.bool c.any,elsA c.els]
def flatC (l : List Comp) : List AV := l.flatMap cpA
def cpsA (l : List Comp) : AV := .ilist 2 l.length (flatC l)

/-- Tables are of 256. -/
def El.wf : El → Prop
 | .cls _ tab => tab.length = 256
 | _ => True
def okEs (l : List El) : Prop := (∀ e ∈ l,e.wf) ∧ l.length ≤ 1000000000
def okCs (l : List Comp) : Prop := (∀ c ∈ l,okEs c.els) ∧ l.length ≤ 1000000000

theorem elA_len (e : El) : (elA e).length = 4 := by cases e <;> rfl
theorem flatE_len (l : List El) : (flatE l).length = l.length * 4 := by
 induction l with
 | nil => rfl
 | cons e l ih => rw [flatE,List.flatMap_cons,List.length_append,elA_len]; unfold flatE at ih; rw [ih,List.length_cons]; omega
theorem flatC_len (l : List Comp) : (flatC l).length = l.length * 2 := by
 induction l with
 | nil => rfl
 | cons e l ih => rw [flatC,List.flatMap_cons,List.length_append]; unfold flatC at ih; rw [ih,List.length_cons]; simp [cpA]; omega
/-- The cells of an element of a row. -/
theorem flat_cell {α : Type} {f : α → List AV} {n : Nat} (hf : ∀ a,(f a).length = n) : ∀ (l : List α) (i k : Nat) (a : α),l[i]? = some a → k < n → (l.flatMap f)[i * n + k]? = (f a)[k]?
 | [],i,k,a,h,_ => by simp at h
 | b :: l,0,k,a,h,hk => by
  simp at h; subst h
  rw [List.flatMap_cons,Nat.zero_mul,Nat.zero_add,List.getElem?_append_left (by rw [hf]; exact hk)]
 | b :: l,i + 1,k,a,h,hk => by
  rw [List.flatMap_cons,List.getElem?_append_right (by rw [hf,Nat.succ_mul]; omega),hf]
  have e : (i + 1) * n + k - n = i * n + k := by rw [Nat.succ_mul]; omega
  rw [e]
  exact flat_cell hf l i k a (by simpa using h) hk
theorem flat_take {α : Type} {f : α → List AV} {n : Nat} (hf : ∀ a,(f a).length = n) (l : List α) (i : Nat) (a : α) (h : l[i]? = some a) : ((l.flatMap f).drop (i * n)).take n = f a := by
 apply List.ext_getElem?
 intro k
 rw [List.getElem?_take]
 split
 ·rw [List.getElem?_drop,flat_cell hf l i k a h (by assumption)]
 ·symm
  rw [List.getElem?_eq_none_iff,hf]
  omega

theorem nnl_one {v : AV} (h : NN v) : NNL [v] := by
 intro G Φ ρ ρ' C i hr
 simp only [RepAt,and_true] at hr ⊢
 obtain ⟨x,hx,hr⟩ := hr
 exact ⟨x,hx,h _ _ _ _ _ hr⟩
theorem nnl_cons {v : AV} {l : List AV} (h : NN v) (h2 : NNL l) : NNL (v :: l) := by
 intro G Φ ρ ρ' C i hr
 simp only [RepAt] at hr ⊢
 obtain ⟨⟨x,hx,hr⟩,hr2⟩ := hr
 exact ⟨⟨x,hx,h _ _ _ _ _ hr⟩,h2 _ _ _ _ _ _ hr2⟩
theorem nnl_nil : NNL [] := by intro G Φ ρ ρ' C i _; simp [RepAt]
theorem nnl_append {l m : List AV} (h : NNL l) (h2 : NNL m) : NNL (l ++ m) := by
 induction l with
 | nil => exact h2
 | cons v l ih =>
  intro G Φ ρ ρ' C i hr
  rw [List.cons_append] at hr ⊢
  have h3 : RepAt G Φ (v :: l) ρ C i := RepAt.mk fun j c hj => by
   have : (v :: (l ++ m))[j]? = some c := by
    rw [← List.cons_append,List.getElem?_append_left (List.getElem?_eq_some_iff.1 hj).1]; exact hj
   exact RepAt.get hr this
  have h4 : RepAt G Φ m ρ C (i + (v :: l).length) := RepAt.mk fun j c hj => by
   have : (v :: (l ++ m))[(v :: l).length + j]? = some c := by
    rw [← List.cons_append,List.getElem?_append_right (by omega)]
    simpa using hj
   obtain ⟨x,hx,hr⟩ := RepAt.get hr this
   exact ⟨x,by rw [← hx]; congr 1; omega,hr⟩
  rw [← List.cons_append]
  exact RepAt.app (h _ _ _ ρ' _ _ h3) (h2 _ _ _ ρ' _ _ h4)
theorem nnl_flat {α : Type} {f : α → List AV} (hf : ∀ a,NNL (f a)) : ∀ (l : List α),NNL (l.flatMap f)
 | [] => nnl_nil
 | a :: l => by rw [List.flatMap_cons]; exact nnl_append (hf a) (nnl_flat hf l)
theorem nn_iref (cs : List AV) (o : Nat) : NN (.iref cs o) := fun _ _ _ _ _ h => by simpa only [Rep] using h
theorem nn_ilist (e n : Nat) (cs : List AV) : NN (.ilist e n cs) := fun _ _ _ _ _ h => by simpa only [Rep] using h
theorem nn_clo {t : Nat} {cs : List AV} (h : NNL cs) : NN (.clo t cs) := fun G Φ ρ ρ' v hr => by
 simp only [Rep] at hr ⊢
 obtain ⟨A,h1,h2,h3⟩ := hr
 exact ⟨A,h1,h2,h _ _ _ _ _ _ h3⟩
theorem nnl_elA (e : El) : NNL (elA e) := by
 cases e
 case star => exact nnl_cons (plain_bool _).nn (nnl_cons (plain_bool _).nn (nnl_cons (plain_int _ _).nn (nnl_one (plain_raw _).nn)))
 case any => exact nnl_cons (plain_bool _).nn (nnl_cons (plain_bool _).nn (nnl_cons (plain_int _ _).nn (nnl_one (nn_clo nnl_nil))))
 case lit c => exact nnl_cons (plain_bool _).nn (nnl_cons (plain_bool _).nn (nnl_cons (plain_int _ _).nn (nnl_one (nn_clo (nnl_one (nn_iref _ _))))))
 case cls n t => exact nnl_cons (plain_bool _).nn (nnl_cons (plain_bool _).nn (nnl_cons (plain_int _ _).nn (nnl_one (nn_clo (nnl_cons (nn_iref _ _) (nnl_one (nn_iref _ _)))))))
theorem nnl_flatE (l : List El) : NNL (flatE l) := nnl_flat nnl_elA l
theorem nnl_cpA (c : Comp) : NNL (cpA c) := nnl_cons (plain_bool _).nn (nnl_one (nn_ilist _ _ _))
theorem nnl_flatC (l : List Comp) : NNL (flatC l) := nnl_flat nnl_cpA l

def parseR (g : List UInt8) : List Comp × Int := if 200 < g.length then ([],4) else match compsL (splitS g) with | none => ([],3) | some l => (l,0)

def strs (l : List (List UInt8)) : List AV := l.map .str
theorem strs_length (l : List (List UInt8)) : (strs l).length = l.length := by simp [strs]
theorem strs_get {l : List (List UInt8)} {i : Nat} (h : i < l.length) : (strs l)[i]? = some (.str (l.getD i [])) := by
 simp [strs,List.getD,h]
theorem plain_strs (l : List (List UInt8)) : ∀ c ∈ strs l,PlainV c := by
 intro c hc
 obtain ⟨b,_,rfl⟩ := List.mem_map.1 hc
 exact plain_str b
theorem nnl_strs (l : List (List UInt8)) : NNL (strs l) := nnl_plain (plain_strs l)
def C_glob_any : PC := ⟨UInt8,fun c => [.int .u8 c.toNat],fun _ => True,fun c => .bool (!(c == 47))⟩
def C_glob_lit : PC := ⟨UInt8 × UInt8,fun x => [.int .u8 x.1.toNat,.iref [.int .u8 x.2.toNat] 0],fun _ => True,fun x => .bool (x.1 == x.2)⟩
def C_glob_cls : PC := ⟨UInt8 × Bool × List Bool,fun x => [.int .u8 x.1.toNat,.iref (boos x.2.2) 0,.iref [.bool x.2.1] 0],fun x => x.2.2.length = 256,fun x => .bool ((El.cls x.2.1 x.2.2).fit x.1)⟩
def closL : List (Nat × PC) := [(1000000 + 101,C_glob_any),(2,C_glob_lit),(3,C_glob_cls)]
def C_glob_ended : PC := ⟨List El × Nat,fun x => [elsA x.1,.int .i64 x.2],fun x => okEs x.1 ∧ x.2 ≤ x.1.length,fun x => .bool ((x.1.drop x.2).all El.isStar)⟩
def B_glob_after : BC := ⟨List El × Nat × UInt8,fun x => [elsA x.1,.int .i64 x.2.1,.int .u8 x.2.2.toNat],fun _ => True,4,fun x => [.int .i64 x.2.1],fun x => [.iref [elsA x.1] 0,.iref [.int .u8 x.2.2.toNat] 0]⟩
def parseA (r : List Comp × Int) : AV := .tup [if r.2 = 0 then cpsA r.1 else .raw (.slice none 0 0),.int .i64 r.2]
def C_glob_parse : PC := ⟨List UInt8,fun g => [.str g],fun g => g.length ≤ 1000000000,fun g => parseA (parseR g)⟩
def F_strings_Split : FC := ⟨List UInt8,fun s => [.str s,.str [47]],fun s => s.length ≤ 1000000000,1,fun s => (splitS s).length,fun s => strs (splitS s)⟩
def F_glob_split : FC := ⟨List UInt8,fun s => [.str s],fun s => s.length ≤ 1000000000,1,fun s => (partsL s).length,fun s => strs (partsL s)⟩
def F_quiltref32_Split : FC := ⟨List UInt8,fun s => [.str s],fun s => s.length ≤ 1000000000,1,fun s => (partsL s).length,fun s => strs (partsL s)⟩
def C__quilt_glob_component__fits : PC := ⟨Comp × List UInt8,fun x => [.agg (cpA x.1),.str x.2],fun x => okEs x.1.els ∧ x.2.length ≤ 1000000000,fun x => .bool (x.1.fit x.2)⟩
def C_glob_Match : PC := ⟨List UInt8 × List UInt8,fun x => [.str x.1,.str x.2],fun x => x.1.length ≤ 1000000000 ∧ x.2.length ≤ 1000000000,fun x => .bool (matchG x.1 x.2)⟩
def C_glob_Check : PC := ⟨List UInt8,fun g => [.str g],fun g => g.length ≤ 1000000000,fun g => .int .i64 (checkG g)⟩
/-! ### The reference's form -/
def El.setB (e : El) : List Bool := (List.range 256).map fun b => e.fit (UInt8.ofNat b)
def El.isLit : El → Bool
 | .lit _ => true
 | _ => false
def refA (e : El) : List AV := .bool e.isStar :: .bool e.isLit :: boos e.setB
theorem refA_len (e : El) : (refA e).length = 258 := by simp [refA,boos,El.setB]
def rElsA (l : List El) : AV := .ilist 258 l.length (l.flatMap refA)
def rCpA (c : Comp) : List AV := [.bool c.any,rElsA c.els]
def rCpsA (l : List Comp) : AV := .ilist 2 l.length (l.flatMap rCpA)
def C_quiltref32_one : PC := ⟨List UInt8,fun s => [.str s],fun s => s.length ≤ 1000000000,fun s => match byte1 s with | none => .tup [.int .u8 0,.int .i64 0] | some (c,n) => .tup [.int .u8 c.toNat,.int .i64 n]⟩
end Qk

/-
  Chapter 32: the elements of a parsed glob never take a slash; tables of what two rows have in common.
-/
namespace Qk
open Go Go.RowKit

/-! ### Tables -/
section
variable {ε : Type} {star : ε → Bool} {meet : ε → ε → Bool} {x y : List ε}
end

end Qk

/-
  Chapter 32: small functions in the form of the executor (printed by a program).
-/
namespace Qk
open Go Go.RowKit

/-- (*quilt/glob.parser).one$1 -/
def ir___quilt_glob_parser__one_1 : IF := ⟨(.seq (.ops [⟨some 2,none,.mov (.const (.bool false))⟩])
 (.seq (.ops [⟨some 3,none,.mov (t 0)⟩,⟨some 4,none,.bin .neq (t 3) (.const (.int .u8 47))⟩,⟨some 2,none,.mov (t 4)⟩])
 .ret)),[.tmp 2]⟩
/-- (*quilt/glob.parser).one$2 -/
def ir___quilt_glob_parser__one_2 : IF := ⟨(.seq (.ops [⟨some 3,none,.mov (.const (.bool false))⟩])
 (.seq (.ops [⟨some 4,none,.mov (t 0)⟩,⟨some 5,none,.load1 (t 1)⟩,⟨some 6,none,.bin .eql (t 4) (t 5)⟩,⟨some 3,none,.mov (t 6)⟩])
 .ret)),[.tmp 3]⟩
/-- (*quilt/glob.parser).class$1 -/
def ir___quilt_glob_parser__class_1 : IF := ⟨(.seq (.ops [⟨some 4,none,.mov (.const (.bool false))⟩])
 (.seq (.ops [⟨some 5,none,.mov (t 0)⟩,⟨some 6,none,.bin .neq (t 5) (.const (.int .u8 47))⟩,⟨some 7,none,.mov (t 6)⟩,⟨some 8,some (7,true),.mov (t 0)⟩,⟨some 9,some (7,true),.idxA 1 256 (t 1) (t 8)⟩,⟨some 10,some (7,true),.load1 (t 9)⟩,
  ⟨some 11,some (7,true),.load1 (t 2)⟩,⟨some 12,some (7,true),.beq true (t 10) (t 11)⟩,⟨some 13,none,.pick (t 7) (t 12) (.const (.bool false))⟩,⟨some 4,none,.mov (t 13)⟩])
 .ret)),[.tmp 4]⟩
/-- quilt/glob.ended -/
def ir_glob_ended : IF := ⟨(.seq (.ops [⟨some 4,none,.mov (.const (.bool false))⟩])
 (.seq (.block 0 (.loop (.seq (.seq (.ops [⟨some 5,none,.mov (t 1)⟩,⟨some 6,none,.mov (t 0)⟩,⟨some 7,none,.lenL (t 6)⟩,⟨some 8,none,.bin .lss (t 5) (t 7)⟩])
 (.cond (t 8) .skip
 (.exit 0)))
 (.seq (.block 1 (.seq (.ops [⟨some 11,none,.mov (t 0)⟩,⟨some 12,none,.mov (t 1)⟩,⟨some 13,none,.idxL 4 (t 11) (t 12)⟩,
  ⟨some 14,none,.fldA 0 (t 13)⟩,⟨some 15,none,.load1 (t 14)⟩,⟨some 16,none,.not (t 15)⟩])
 (.cond (t 16) (.seq (.ops [⟨some 4,none,.mov (.const (.bool false))⟩])
 .ret)
 .skip)))
 (.ops [⟨some 9,none,.mov (t 1)⟩,⟨some 10,none,.bin .add (t 9) (ci 1)⟩,⟨some 1,none,.mov (t 10)⟩])))))
 (.seq (.ops [⟨some 4,none,.mov (.const (.bool true))⟩])
 .ret))),[.tmp 4]⟩
/-- quilt/glob.after -/
def ir_glob_after : IF := ⟨(.seq (.ops [⟨some 3,none,.box (t 0)⟩,⟨some 4,none,.box (t 1)⟩,⟨some 5,none,.box (t 2)⟩,⟨some 6,none,.mov (.const .nilFunc)⟩])
 (.seq (.ops [⟨some 7,none,.mkclo 4 [(t 4),(t 3),(t 5)]⟩,⟨some 6,none,.mov (t 7)⟩])
 .ret)),[.tmp 6]⟩
/-- (*quilt/glob.parser).peek -/
def ir___quilt_glob_parser__peek : IF := ⟨(.seq (.ops [⟨some 4,none,.mov (.const (.int .u8 0))⟩,⟨some 5,none,.mov (.const (.bool false))⟩])
 (.seq (.seq (.ops [⟨some 6,none,.mov (t 0)⟩,⟨some 7,none,.nilck (t 6)⟩,⟨some 8,none,.fldA 1 (t 7)⟩,⟨some 9,none,.load1 (t 8)⟩,⟨some 10,none,.mov (t 1)⟩,
  ⟨some 11,none,.bin .add (t 9) (t 10)⟩,⟨some 12,none,.mov (t 0)⟩,⟨some 13,none,.nilck (t 12)⟩,⟨some 14,none,.fldA 0 (t 13)⟩,⟨some 15,none,.load1 (t 14)⟩,⟨some 16,none,.lenS (t 15)⟩,
  ⟨some 17,none,.bin .geq (t 11) (t 16)⟩])
 (.cond (t 17) (.seq (.ops [⟨some 4,none,.mov (.const (.int .u8 0))⟩,⟨some 5,none,.mov (.const (.bool false))⟩])
 .ret)
 .skip))
 (.seq (.ops [⟨some 18,none,.mov (t 0)⟩,⟨some 19,none,.nilck (t 18)⟩,⟨some 20,none,.fldA 0 (t 19)⟩,⟨some 21,none,.load1 (t 20)⟩,⟨some 22,none,.mov (t 0)⟩,
  ⟨some 23,none,.nilck (t 22)⟩,⟨some 24,none,.fldA 1 (t 23)⟩,⟨some 25,none,.load1 (t 24)⟩,⟨some 26,none,.mov (t 1)⟩,⟨some 27,none,.bin .add (t 25) (t 26)⟩,⟨some 28,none,.idxS (t 21) (t 27)⟩,
  ⟨some 4,none,.mov (t 28)⟩,⟨some 5,none,.mov (.const (.bool true))⟩])
 .ret))),[.tmp 4,.tmp 5]⟩
def H___quilt_glob_parser__peek : HTran := inl 2 ir___quilt_glob_parser__peek.code ir___quilt_glob_parser__peek.res
/-- (*quilt/glob.parser).plain -/
def ir___quilt_glob_parser__plain : IF := ⟨(.seq (.ops [⟨some 2,none,.mov (.const (.int .u8 0))⟩,⟨some 3,none,.mov (.const (.bool false))⟩])
 (.seq (.seq (.ops [⟨some 4,none,.mov (t 0)⟩,⟨some 5,none,.nilck (t 4)⟩,⟨some 6,none,.fldA 1 (t 5)⟩,⟨some 7,none,.load1 (t 6)⟩,⟨some 8,none,.mov (t 0)⟩,
  ⟨some 9,none,.nilck (t 8)⟩,⟨some 10,none,.fldA 0 (t 9)⟩,⟨some 11,none,.load1 (t 10)⟩,⟨some 12,none,.lenS (t 11)⟩,⟨some 13,none,.bin .lss (t 7) (t 12)⟩,⟨some 14,none,.mov (t 13)⟩,
  ⟨some 15,some (14,true),.mov (t 0)⟩,⟨some 16,some (14,true),.nilck (t 15)⟩,⟨some 17,some (14,true),.fldA 0 (t 16)⟩,⟨some 18,some (14,true),.load1 (t 17)⟩,⟨some 19,some (14,true),.mov (t 0)⟩,⟨some 20,some (14,true),.nilck (t 19)⟩,
  ⟨some 21,some (14,true),.fldA 1 (t 20)⟩,⟨some 22,some (14,true),.load1 (t 21)⟩,⟨some 23,some (14,true),.idxS (t 18) (t 22)⟩,⟨some 24,some (14,true),.bin .eql (t 23) (.const (.int .u8 92))⟩,⟨some 25,none,.pick (t 14) (t 24) (.const (.bool false))⟩])
 (.jn (.cond (t 25) (.ops [⟨some 26,none,.mov (t 0)⟩,⟨some 27,none,.nilck (t 26)⟩,
  ⟨some 28,none,.fldA 1 (t 27)⟩,⟨some 29,none,.load1 (t 28)⟩,⟨some 30,none,.bin .add (t 29) (ci 1)⟩,⟨some 31,none,.nilck (t 26)⟩,⟨some 32,none,.fldA 1 (t 31)⟩,⟨none,none,.stor1 (t 32) (t 30)⟩])
 .skip)))
 (.seq (.seq (.ops [⟨some 33,none,.mov (t 0)⟩,
  ⟨some 34,none,.nilck (t 33)⟩,⟨some 35,none,.fldA 1 (t 34)⟩,⟨some 36,none,.load1 (t 35)⟩,⟨some 37,none,.mov (t 0)⟩,⟨some 38,none,.nilck (t 37)⟩,⟨some 39,none,.fldA 0 (t 38)⟩,
  ⟨some 40,none,.load1 (t 39)⟩,⟨some 41,none,.lenS (t 40)⟩,⟨some 42,none,.bin .geq (t 36) (t 41)⟩])
 (.cond (t 42) (.seq (.ops [⟨some 2,none,.mov (.const (.int .u8 0))⟩,⟨some 3,none,.mov (.const (.bool false))⟩])
 .ret)
 .skip))
 (.seq (.ops [⟨some 43,none,.mov (t 0)⟩,⟨some 44,none,.nilck (t 43)⟩,⟨some 45,none,.fldA 1 (t 44)⟩,
  ⟨some 46,none,.load1 (t 45)⟩,⟨some 47,none,.bin .add (t 46) (ci 1)⟩,⟨some 48,none,.nilck (t 43)⟩,⟨some 49,none,.fldA 1 (t 48)⟩,⟨none,none,.stor1 (t 49) (t 47)⟩])
 (.seq (.ops [⟨some 50,none,.mov (t 0)⟩,⟨some 51,none,.nilck (t 50)⟩,
  ⟨some 52,none,.fldA 0 (t 51)⟩,⟨some 53,none,.load1 (t 52)⟩,⟨some 54,none,.mov (t 0)⟩,⟨some 55,none,.nilck (t 54)⟩,⟨some 56,none,.fldA 1 (t 55)⟩,⟨some 57,none,.load1 (t 56)⟩,
  ⟨some 58,none,.bin .sub (t 57) (ci 1)⟩,⟨some 59,none,.idxS (t 53) (t 58)⟩,⟨some 2,none,.mov (t 59)⟩,⟨some 3,none,.mov (.const (.bool true))⟩])
 .ret))))),[.tmp 2,.tmp 3]⟩
def H___quilt_glob_parser__plain : HTran := inl 1 ir___quilt_glob_parser__plain.code ir___quilt_glob_parser__plain.res
/-- quilt/glob.split -/
def ir_glob_split : IF := ⟨(.seq (.ops [⟨some 2,none,.mov (.const (.slice none 0 0))⟩])
 (.seq (.seq (.ops [⟨some 3,none,.mov (t 0)⟩,⟨some 4,none,.bin .eql (t 3) (.const (.string ⟨#[]⟩))⟩])
 (.cond (t 4) (.seq (.ops [⟨some 2,none,.mov (.const (.slice none 0 0))⟩])
 .ret)
 .skip))
 (.seq (.ops [⟨some 5,none,.mov (t 0)⟩,⟨some 6,none,.pcallF F_strings_Split [(t 5),(.const (.string ⟨#[47]⟩))]⟩,⟨some 2,none,.mov (t 6)⟩])
 .ret))),[.tmp 2]⟩
/-- quilt/glob.Check -/
def ir_glob_Check : IF := ⟨(.seq (.ops [⟨some 2,none,.mov (ci 0)⟩])
 (.seq (.ops [⟨some 6,none,.mov (t 0)⟩,⟨some 7,none,.pcall C_glob_parse [(t 6)]⟩,⟨some 5,none,.mov (t 7)⟩,⟨some 8,none,.extr (t 5) 0⟩,⟨some 9,none,.extr (t 5) 1⟩,⟨some 3,none,.mov (t 8)⟩,
  ⟨some 4,none,.mov (t 9)⟩])
 (.seq (.ops [⟨some 10,none,.mov (t 4)⟩,⟨some 2,none,.mov (t 10)⟩])
 .ret))),[.tmp 2]⟩

end Qk

/-
  Chapter 32: small functions.
-/
namespace Qk
open Go Go.RowKit

theorem cond_t {b : Bool} {A B : Prop} (h : b = true) (a : A) : cond b A B := by rw [h]; exact a
theorem cond_f {b : Bool} {A B : Prop} (h : b = false) (a : B) : cond b A B := by rw [h]; exact a
theorem hfixOf {τ : List Nat} {m : Nat} (k : Nat) (hm : m = k) (h : ((List.range k).all fun i => decide (τ[i]? = some i)) = true) : ∀ i,i < m → τ[i]? = some i := by
 intro i hi
 subst hm
 rw [List.all_eq_true] at h
 simpa using h i (List.mem_range.2 hi)
/-- A step that nothing runs, behind a piece of code. -/
theorem jn_to {c : Cx} {b : IC} {K : Exit → St → Prop} {S : St} (h : awp c b (fun e S' => match e with | .normal => ∃ S'',SubSt c.m S' S'' ∧ K .normal S'' | e => K e S') S) : awp c (.jn b) K S := by
 refine ⟨_,?_,h⟩
 intro e S' hk
 cases e with
 | normal => exact hk
 | exit id => exact ⟨S',SubSt.refl _,hk⟩
 | goto l => exact ⟨S',SubSt.refl _,hk⟩
 | ret => exact ⟨S',SubSt.refl _,hk⟩
 | panic ch => exact ⟨S',SubSt.refl _,hk⟩
 | outgrown => exact ⟨S',SubSt.refl _,hk⟩
/-- The same at the top level. -/
theorem jnT_to {c : Cx} {b : IC} {K : Exit → St → Prop} {S : St} (ht : c.ot = true ∧ c.m = 0) (h : awp c b (fun e S' => match e with | .normal => ∃ S'',SubTop S' S'' ∧ K .normal S'' | e => K e S') S) : awp c (.jnT b) K S := by
 refine ⟨ht,_,?_,h⟩
 intro e S' hk
 cases e with
 | normal => exact hk
 | exit id => exact ⟨S',SubTop.refl _,hk⟩
 | goto l => exact ⟨S',SubTop.refl _,hk⟩
 | ret => exact ⟨S',SubTop.refl _,hk⟩
 | panic ch => exact ⟨S',SubTop.refl _,hk⟩
 | outgrown => exact ⟨S',SubTop.refl _,hk⟩

theorem u8_eq {a b : UInt8} : ((a.toNat : Int) = (b.toNat : Int)) ↔ a = b := by
 constructor
 ·intro h
  have : a.toNat = b.toNat := by omega
  exact UInt8.toNat_inj.1 this
 ·intro h; rw [h]
theorem dec_u8 (a b : UInt8) : decide ((a.toNat : Int) = (b.toNat : Int)) = (a == b) := by
 by_cases h : a = b
 ·subst h; simp
 ·have : ¬ (a.toNat : Int) = b.toNat := fun e => h (u8_eq.1 e)
  simp [this,h]
theorem dec_u8k (a : UInt8) (n : Nat) (hn : n < 256) : decide ((a.toNat : Int) = (n : Int)) = (a == UInt8.ofNat n) := by
 have : (n : Int) = ((UInt8.ofNat n).toNat : Int) := by
  have : (UInt8.ofNat n).toNat = n := by simp; omega
  rw [this]
 rw [this,dec_u8]
theorem d_any : Does ir___quilt_glob_parser__one_1 C_glob_any := by
 intro (c : UInt8) _
 refine ⟨_,(by first | exact SubSt.refl _ | exact SubTop.refl _),?_⟩
 show AV.bool (!decide ((c.toNat : Int) = ((47 : Nat) : Int))) = AV.bool (!(c == 47))
 rw [dec_u8k c 47 (by decide)]; rfl

theorem d_lit : Does ir___quilt_glob_parser__one_2 C_glob_lit := by
 rintro ⟨c,d⟩ _
 refine ⟨_,rfl,?_⟩
 refine ⟨_,(by first | exact SubSt.refl _ | exact SubTop.refl _),?_⟩
 show AV.bool (decide ((c.toNat : Int) = (d.toNat : Int))) = AV.bool (c == d)
 rw [dec_u8]

theorem boos_at {l : List Bool} {i : Nat} (h : i < l.length) : (boos l)[i]? = some (.bool (l.getD i false)) := boos_get h

theorem d_cls : Does ir___quilt_glob_parser__class_1 C_glob_cls := by
 rintro ⟨c,neg,tab⟩ ht
 replace ht : tab.length = 256 := ht
 have e47 : (!decide ((c.toNat : Int) = ((47 : Nat) : Int))) = !(c == 47) := by rw [dec_u8k c 47 (by decide)]; rfl
 have hc := c.toNat_lt
 have fit : (El.cls neg tab).fit c = (!(c == 47) && (tab.getD c.toNat false != neg)) := rfl
 refine cond_split (fun h => ?_) (fun h => ?_)
 ·have h1 : (!(c == 47)) = true := by rw [← e47]; exact h
  iterate 1 (refine cond_t h ?_)
  refine And.intro ⟨by dsimp only; omega,by dsimp only; omega⟩ ?_
  iterate 1 (refine cond_t h ?_)
  have e0 : 0 + (c.toNat : Int).toNat * 1 = c.toNat := by omega
  refine ⟨.bool (tab.getD c.toNat false),by dsimp only; rw [e0]; exact boos_at (by omega),?_⟩
  iterate 1 (refine cond_t h ?_)
  refine ⟨.bool neg,rfl,?_⟩
  iterate 1 (refine cond_t h ?_)
  refine ⟨_,(by first | exact SubSt.refl _ | exact SubTop.refl _),?_⟩
  show AV.bool (cond (!decide ((c.toNat : Int) = ((47 : Nat) : Int))) (!decide (tab.getD c.toNat false = neg)) false) = AV.bool ((El.cls neg tab).fit c)
  rw [fit,h1,e47,h1]
  cases tab.getD c.toNat false <;> cases neg <;> rfl
 ·have h1 : (!(c == 47)) = false := by rw [← e47]; exact h
  iterate 5 (refine cond_f h ?_)
  refine ⟨_,(by first | exact SubSt.refl _ | exact SubTop.refl _),?_⟩
  show AV.bool false = AV.bool ((El.cls neg tab).fit c)
  rw [fit,h1]
  rfl

theorem star_cell {l : List El} {i : Nat} (h : i < l.length) : (flatE l)[i * 4 + 0]? = some (.bool (l[i]'h).isStar) := by
 rw [flatE,flat_cell elA_len l i 0 _ (List.getElem?_eq_getElem h) (by decide)]
 cases l[i]'h <;> rfl

theorem d_ended : Does ir_glob_ended C_glob_ended := by
 rintro ⟨l,i0⟩ ⟨⟨_,hl⟩,hi0⟩
 dsimp only at hl hi0
 refine ⟨Nat,fun i => i ≤ l.length ∧ (l.drop i0).all El.isStar = (l.drop i).all El.isStar,fun i => mks [(0,elsA l),(1,.int .i64 i)] [] 0,fun i => l.length - i,i0,⟨by omega,rfl⟩,?_,?_⟩
 ·refine sub_ren [] rfl (by decide) ⟨⟨_,rfl,rfl⟩,⟨_,rfl,rfl⟩,trivial⟩ trivial
 ·rintro i ⟨hi,hc⟩
  refine cond_split (fun h => ?_) (fun h => ?_)
  ·have hT : (i : Int) < l.length := of_decide_eq_true h
   have hlt : i < l.length := by omega
   have e0 : (i : Int).toNat * 4 + 0 = i * 4 + 0 := by omega
   refine And.intro ⟨rfl,by decide,by omega,by omega⟩ ?_
   refine ⟨_,by rw [e0]; exact star_cell hlt,?_⟩
   have hd : (l.drop i).all El.isStar = ((l[i]'hlt).isStar && (l.drop (i + 1)).all El.isStar) := by rw [List.drop_eq_getElem_cons hlt,List.all_cons]
   refine cond_split (fun h => ?_) (fun h => ?_)
   ·refine ⟨_,(by first | exact SubSt.refl _ | exact SubTop.refl _),?_⟩
    show AV.bool false = AV.bool ((l.drop i0).all El.isStar)
    rw [hc,hd]
    have : (l[i]'hlt).isStar = false := by simpa using h
    rw [this]; rfl
   ·have hs : (l[i]'hlt).isStar = true := by simpa using h
    refine And.intro (by omega) ?_
    refine ⟨i + 1,⟨by omega,by rw [hc,hd,hs]; rfl⟩,by dsimp only; omega,?_⟩
    refine sub_ren [] rfl (by decide) ⟨⟨_,rfl,rfl⟩,⟨_,rfl,eI (by omega)⟩,trivial⟩ trivial
  ·have hF : ¬ (i : Int) < l.length := of_decide_eq_false h
   have : i = l.length := by omega
   subst this
   refine ⟨_,(by first | exact SubSt.refl _ | exact SubTop.refl _),?_⟩
   show AV.bool true = AV.bool ((l.drop i0).all El.isStar)
   rw [hc]; simp

end Qk

/-
  Chapter 32: the parser, in the form of the executor (printed by a program).
-/
namespace Qk
open Go Go.RowKit

def V_glob_some : Nat → Option PC := look closL
def HV_glob_some : Nat → Option HTran := look []
/-- quilt/glob.some -/
def ir_glob_some : IF := ⟨(.seq (.ops [⟨some 2,none,.mov (.const (.bool false))⟩])
 (.seq (.seq (.ops [⟨some 4,none,.mov (ci 0)⟩])
 (.block 0 (.loop (.seq (.ops [⟨some 5,none,.bin .lss (t 4) (ci 256)⟩])
 (.seq (.cond (t 5) .skip
 (.exit 0))
 (.seq (.block 1 (.seq (.ops [⟨some 6,none,.mov (t 4)⟩,⟨some 3,none,.mov (t 6)⟩])
 (.seq (.sops [.op ⟨some 7,none,.mov (t 0)⟩,
  .op ⟨some 8,none,.mov (t 3)⟩,
  .op ⟨some 9,none,.conv .u8 (t 8)⟩,
  .dyn ⟨some 10,none,.vcall V_glob_some (t 7) [(t 9)]⟩ HV_glob_some (t 7) [(t 9)]])
 (.cond (t 10) (.seq (.ops [⟨some 2,none,.mov (.const (.bool true))⟩])
 .ret)
 .skip))))
 (.ops [⟨some 11,none,.bin .add (t 4) (ci 1)⟩,⟨some 4,none,.mov (t 11)⟩])))))))
 (.seq (.ops [⟨some 2,none,.mov (.const (.bool false))⟩])
 .ret))),[.tmp 2]⟩
def H_glob_some : HTran := inl 1 ir_glob_some.code ir_glob_some.res
/-- (*quilt/glob.parser).class -/
def ir___quilt_glob_parser__class : IF := ⟨(.seq (.ops [⟨some 2,none,.alloc [.bool false,.bool false,.int .u8 0,.raw .nilFunc]⟩,⟨some 3,none,.mov (.const (.bool false))⟩])
 (.seq (.ops [⟨some 4,none,.alloc (repl 256 [.bool false])⟩])
 (.seq (.sops [.op ⟨some 21,none,.mov (t 0)⟩,
  .call none (some 22) H___quilt_glob_parser__peek [(t 21),(ci 0)],
  .op ⟨some 20,none,.mov (t 22)⟩,
  .op ⟨some 23,none,.extr (t 20) 0⟩,
  .op ⟨some 24,none,.extr (t 20) 1⟩,
  .op ⟨some 5,none,.mov (t 23)⟩,
  .op ⟨some 6,none,.mov (t 24)⟩])
 (.seq (.ops [⟨some 25,none,.mov (t 5)⟩,⟨some 26,none,.bin .eql (t 25) (.const (.int .u8 33))⟩,⟨some 7,none,.alloc [.bool false]⟩,⟨none,none,.stor1 (t 7) (t 26)⟩])
 (.seq (.seq (.ops [⟨some 27,none,.load1 (t 7)⟩])
 (.jn (.cond (t 27) (.ops [⟨some 28,none,.mov (t 0)⟩,⟨some 29,none,.nilck (t 28)⟩,
  ⟨some 30,none,.fldA 1 (t 29)⟩,⟨some 31,none,.load1 (t 30)⟩,⟨some 32,none,.bin .add (t 31) (ci 1)⟩,⟨some 33,none,.nilck (t 28)⟩,⟨some 34,none,.fldA 1 (t 33)⟩,⟨none,none,.stor1 (t 34) (t 32)⟩])
 .skip)))
 (.seq (.ops [⟨some 8,none,.mov (ci 0)⟩])
 (.seq (.block 0 (.loop (.block 1 (.seq (.sops [.op ⟨some 36,none,.mov (t 0)⟩,
  .call none (some 37) H___quilt_glob_parser__peek [(t 36),(ci 0)],
  .op ⟨some 35,none,.mov (t 37)⟩,
  .op ⟨some 38,none,.extr (t 35) 0⟩,
  .op ⟨some 39,none,.extr (t 35) 1⟩,
  .op ⟨some 9,none,.mov (t 38)⟩,
  .op ⟨some 10,none,.mov (t 39)⟩])
 (.seq (.seq (.ops [⟨some 40,none,.mov (t 10)⟩,
  ⟨some 41,none,.not (t 40)⟩])
 (.cond (t 41) (.seq (.ops [⟨some 42,none,.build 4 [.bool false,.bool false,.int .u8 0,.raw .nilFunc] []⟩,⟨none,none,.storN 4 (t 2) (t 42)⟩,⟨some 3,none,.mov (.const (.bool false))⟩])
 .ret)
 .skip))
 (.seq (.seq (.ops [⟨some 43,none,.mov (t 9)⟩,⟨some 44,none,.bin .eql (t 43) (.const (.int .u8 93))⟩])
 (.cond (t 44) (.seq (.ops [⟨some 45,none,.mov (t 0)⟩,⟨some 46,none,.nilck (t 45)⟩,⟨some 47,none,.fldA 1 (t 46)⟩,
  ⟨some 48,none,.load1 (t 47)⟩,⟨some 49,none,.bin .add (t 48) (ci 1)⟩,⟨some 50,none,.nilck (t 45)⟩,⟨some 51,none,.fldA 1 (t 50)⟩,⟨none,none,.stor1 (t 51) (t 49)⟩])
 (.exit 0))
 .skip))
 (.seq (.sops [.op ⟨some 53,none,.mov (t 0)⟩,
  .call none (some 54) H___quilt_glob_parser__plain [(t 53)],
  .op ⟨some 52,none,.mov (t 54)⟩,
  .op ⟨some 55,none,.extr (t 52) 0⟩,
  .op ⟨some 56,none,.extr (t 52) 1⟩,
  .op ⟨some 11,none,.mov (t 55)⟩,
  .op ⟨some 12,none,.mov (t 56)⟩])
 (.seq (.ops [⟨some 57,none,.mov (t 11)⟩,⟨some 13,none,.mov (t 57)⟩])
 (.seq (.sops [.op ⟨some 59,none,.mov (t 0)⟩,
  .call none (some 60) H___quilt_glob_parser__peek [(t 59),(ci 0)],
  .op ⟨some 58,none,.mov (t 60)⟩,
  .op ⟨some 61,none,.extr (t 58) 0⟩,
  .op ⟨some 62,none,.extr (t 58) 1⟩,
  .op ⟨some 14,none,.mov (t 61)⟩,
  .op ⟨some 15,none,.mov (t 62)⟩])
 (.seq (.seq (.sops [.op ⟨some 64,none,.mov (t 0)⟩,
  .call none (some 65) H___quilt_glob_parser__peek [(t 64),(ci 1)],
  .op ⟨some 63,none,.mov (t 65)⟩,
  .op ⟨some 66,none,.extr (t 63) 0⟩,
  .op ⟨some 67,none,.extr (t 63) 1⟩,
  .op ⟨some 16,none,.mov (t 66)⟩,
  .op ⟨some 17,none,.mov (t 67)⟩])
 (.seq (.jn (.ops [⟨some 68,none,.mov (t 12)⟩,
  ⟨some 69,none,.mov (t 68)⟩,⟨some 70,some (69,true),.mov (t 14)⟩,⟨some 71,some (69,true),.bin .eql (t 70) (.const (.int .u8 45))⟩,⟨some 72,none,.pick (t 69) (t 71) (.const (.bool false))⟩,⟨some 73,none,.mov (t 72)⟩,⟨some 74,some (73,true),.mov (t 17)⟩,
  ⟨some 75,none,.pick (t 73) (t 74) (.const (.bool false))⟩,⟨some 76,none,.mov (t 75)⟩,⟨some 77,some (76,true),.mov (t 16)⟩,⟨some 78,some (76,true),.bin .neq (t 77) (.const (.int .u8 93))⟩,⟨some 79,none,.pick (t 76) (t 78) (.const (.bool false))⟩]))
 (.jn (.cond (t 79) (.seq (.ops [⟨some 80,none,.mov (t 0)⟩,⟨some 81,none,.nilck (t 80)⟩,
  ⟨some 82,none,.fldA 1 (t 81)⟩,⟨some 83,none,.load1 (t 82)⟩,⟨some 84,none,.bin .add (t 83) (ci 1)⟩,⟨some 85,none,.nilck (t 80)⟩,⟨some 86,none,.fldA 1 (t 85)⟩,⟨none,none,.stor1 (t 86) (t 84)⟩])
 (.sops [.op ⟨some 88,none,.mov (t 0)⟩,
  .call none (some 89) H___quilt_glob_parser__plain [(t 88)],
  .op ⟨some 87,none,.mov (t 89)⟩,
  .op ⟨some 90,none,.extr (t 87) 0⟩,
  .op ⟨some 91,none,.extr (t 87) 1⟩,
  .op ⟨some 13,none,.mov (t 90)⟩,
  .op ⟨some 12,none,.mov (t 91)⟩]))
 .skip))))
 (.seq (.seq (.ops [⟨some 92,none,.mov (t 12)⟩,
  ⟨some 93,none,.not (t 92)⟩,⟨some 94,none,.mov (t 93)⟩,⟨some 95,some (94,false),.mov (t 11)⟩,⟨some 96,some (94,false),.mov (t 13)⟩,⟨some 97,some (94,false),.bin .gtr (t 95) (t 96)⟩,⟨some 98,none,.pick (t 94) (.const (.bool true)) (t 97)⟩])
 (.cond (t 98) (.seq (.ops [⟨some 99,none,.build 4 [.bool false,.bool false,.int .u8 0,.raw .nilFunc] []⟩,
  ⟨none,none,.storN 4 (t 2) (t 99)⟩,⟨some 3,none,.mov (.const (.bool false))⟩])
 .ret)
 .skip))
 (.seq (.seq (.ops [⟨some 100,none,.mov (t 11)⟩,⟨some 101,none,.conv .i64 (t 100)⟩,⟨some 18,none,.mov (t 101)⟩])
 (.block 2 (.loop (.seq (.seq (.ops [⟨some 102,none,.mov (t 18)⟩,⟨some 103,none,.mov (t 13)⟩,⟨some 104,none,.conv .i64 (t 103)⟩,
  ⟨some 105,none,.bin .leq (t 102) (t 104)⟩])
 (.cond (t 105) .skip
 (.exit 2)))
 (.seq (.block 3 (.ops [⟨some 108,none,.mov (t 18)⟩,⟨some 109,none,.idxA 1 256 (t 4) (t 108)⟩,⟨none,none,.stor1 (t 109) (.const (.bool true))⟩]))
 (.ops [⟨some 106,none,.mov (t 18)⟩,⟨some 107,none,.bin .add (t 106) (ci 1)⟩,⟨some 18,none,.mov (t 107)⟩]))))))
 (.ops [⟨some 110,none,.mov (t 8)⟩,⟨some 111,none,.bin .add (t 110) (ci 1)⟩,
  ⟨some 8,none,.mov (t 111)⟩])))))))))))))
 (.seq (.ops [⟨some 112,none,.mkclo 3 [(t 4),(t 7)]⟩,⟨some 19,none,.mov (t 112)⟩])
 (.seq (.sops [.op ⟨some 113,none,.mov (t 19)⟩,
  .op ⟨some 114,none,.build 4 [.bool false,.bool false,.int .u8 0,.raw .nilFunc] [(3,1,(t 113))]⟩,
  .op ⟨some 115,none,.mov (t 8)⟩,
  .op ⟨some 116,none,.bin .gtr (t 115) (ci 0)⟩,
  .op ⟨some 117,none,.mov (t 116)⟩,
  .op ⟨some 118,some (117,true),.mov (t 19)⟩,
  .call (some (117,true)) (some 119) H_glob_some [(t 118)],
  .op ⟨some 120,none,.pick (t 117) (t 119) (.const (.bool false))⟩,
  .op ⟨none,none,.storN 4 (t 2) (t 114)⟩,
  .op ⟨some 3,none,.mov (t 120)⟩])
 .ret))))))))),[.cell 2 true 4,.tmp 3]⟩
def H___quilt_glob_parser__class : HTran := inl 1 ir___quilt_glob_parser__class.code ir___quilt_glob_parser__class.res
/-- (*quilt/glob.parser).one -/
def ir___quilt_glob_parser__one : IF := ⟨(.seq (.ops [⟨some 2,none,.alloc [.bool false,.bool false,.int .u8 0,.raw .nilFunc]⟩,⟨some 3,none,.mov (.const (.bool false))⟩])
 (.seq (.seq (.ops [⟨some 7,none,.mov (t 0)⟩,⟨some 8,none,.nilck (t 7)⟩,⟨some 9,none,.fldA 0 (t 8)⟩,⟨some 10,none,.load1 (t 9)⟩,⟨some 11,none,.mov (t 0)⟩,
  ⟨some 12,none,.nilck (t 11)⟩,⟨some 13,none,.fldA 1 (t 12)⟩,⟨some 14,none,.load1 (t 13)⟩,⟨some 15,none,.idxS (t 10) (t 14)⟩,⟨some 4,none,.mov (t 15)⟩])
 (.seq (.ops [⟨some 16,none,.mov (t 4)⟩])
 (.block 0 (.seq (.ops [⟨some 18,none,.bin .eql (t 16) (.const (.int .u8 42))⟩,⟨some 17,none,.mov (t 18)⟩])
 (.cond (t 17) (.seq (.ops [⟨some 19,none,.mov (t 0)⟩,
  ⟨some 20,none,.nilck (t 19)⟩,⟨some 21,none,.fldA 1 (t 20)⟩,⟨some 22,none,.load1 (t 21)⟩,⟨some 23,none,.bin .add (t 22) (ci 1)⟩,⟨some 24,none,.nilck (t 19)⟩,⟨some 25,none,.fldA 1 (t 24)⟩,
  ⟨none,none,.stor1 (t 25) (t 23)⟩])
 (.seq (.ops [⟨some 26,none,.build 4 [.bool false,.bool false,.int .u8 0,.raw .nilFunc] [(0,1,(.const (.bool true)))]⟩,⟨none,none,.storN 4 (t 2) (t 26)⟩,⟨some 3,none,.mov (.const (.bool true))⟩])
 .ret))
 (.seq (.ops [⟨some 28,none,.bin .eql (t 16) (.const (.int .u8 63))⟩,⟨some 27,none,.mov (t 28)⟩])
 (.cond (t 27) (.seq (.ops [⟨some 29,none,.mov (t 0)⟩,⟨some 30,none,.nilck (t 29)⟩,⟨some 31,none,.fldA 1 (t 30)⟩,
  ⟨some 32,none,.load1 (t 31)⟩,⟨some 33,none,.bin .add (t 32) (ci 1)⟩,⟨some 34,none,.nilck (t 29)⟩,⟨some 35,none,.fldA 1 (t 34)⟩,⟨none,none,.stor1 (t 35) (t 33)⟩])
 (.seq (.ops [⟨some 36,none,.build 4 [.bool false,.bool false,.int .u8 0,.raw .nilFunc] [(3,1,(.func 101))]⟩,⟨none,none,.storN 4 (t 2) (t 36)⟩,
  ⟨some 3,none,.mov (.const (.bool true))⟩])
 .ret))
 (.seq (.ops [⟨some 38,none,.bin .eql (t 16) (.const (.int .u8 91))⟩,⟨some 37,none,.mov (t 38)⟩])
 (.cond (t 37) (.seq (.jn (.ops [⟨some 39,none,.mov (t 0)⟩,⟨some 40,none,.nilck (t 39)⟩,⟨some 41,none,.fldA 1 (t 40)⟩,⟨some 42,none,.load1 (t 41)⟩,⟨some 43,none,.bin .add (t 42) (ci 1)⟩,
  ⟨some 44,none,.nilck (t 39)⟩,⟨some 45,none,.fldA 1 (t 44)⟩,⟨none,none,.stor1 (t 45) (t 43)⟩]))
 (.seq (.sops [.op ⟨some 46,none,.mov (t 0)⟩,
  .call none (some 47) H___quilt_glob_parser__class [(t 46)],
  .op ⟨some 48,none,.extr (t 47) 0⟩,
  .op ⟨some 49,none,.extr (t 47) 1⟩,
  .op ⟨none,none,.storN 4 (t 2) (t 48)⟩,
  .op ⟨some 3,none,.mov (t 49)⟩])
 .ret))
 .skip)))))))))
 (.seq (.sops [.op ⟨some 51,none,.mov (t 0)⟩,
  .call none (some 52) H___quilt_glob_parser__plain [(t 51)],
  .op ⟨some 50,none,.mov (t 52)⟩,
  .op ⟨some 53,none,.extr (t 50) 0⟩,
  .op ⟨some 54,none,.extr (t 50) 1⟩,
  .op ⟨some 5,none,.alloc [.int .u8 0]⟩,
  .op ⟨none,none,.stor1 (t 5) (t 53)⟩,
  .op ⟨some 6,none,.mov (t 54)⟩])
 (.seq (.ops [⟨some 55,none,.load1 (t 5)⟩,⟨some 56,none,.mkclo 2 [(t 5)]⟩,⟨some 57,none,.build 4 [.bool false,.bool false,.int .u8 0,.raw .nilFunc] [(1,1,(.const (.bool true))),(2,1,(t 55)),(3,1,(t 56))]⟩,⟨some 58,none,.mov (t 6)⟩,
  ⟨none,none,.storN 4 (t 2) (t 57)⟩,⟨some 3,none,.mov (t 58)⟩])
 .ret)))),[.cell 2 true 4,.tmp 3]⟩
def H___quilt_glob_parser__one : HTran := inl 1 ir___quilt_glob_parser__one.code ir___quilt_glob_parser__one.res
/-- quilt/glob.parse -/
def ir_glob_parse : IF := ⟨(.seq (.ops [⟨some 2,none,.mov (.const (.slice none 0 0))⟩,⟨some 3,none,.mov (ci 0)⟩])
 (.seq (.seq (.ops [⟨some 11,none,.mov (t 0)⟩,⟨some 12,none,.lenS (t 11)⟩,⟨some 13,none,.bin .gtr (t 12) (ci 200)⟩])
 (.cond (t 13) (.seq (.ops [⟨some 2,none,.mov (.const (.slice none 0 0))⟩,⟨some 3,none,.mov (ci 4)⟩])
 .ret)
 .skip))
 (.seq (.jn (.ops [⟨some 4,none,.mov (.const (.slice none 0 0))⟩]))
 (.seq (.seq (.ops [⟨some 14,none,.mov (t 0)⟩,⟨some 15,none,.pcallF F_strings_Split [(t 14),(.const (.string ⟨#[47]⟩))]⟩,
  ⟨some 16,none,.lenL (t 15)⟩,⟨some 17,none,.mov (ci 0)⟩])
 (.block 0 (.loop (.seq (.ops [⟨some 18,none,.bin .lss (t 17) (t 16)⟩])
 (.seq (.cond (t 18) .skip
 (.exit 0))
 (.seq (.block 1 (.seq (.ops [⟨some 19,none,.idxL 1 (t 15) (t 17)⟩,⟨some 20,none,.load1 (t 19)⟩,⟨some 6,none,.mov (t 20)⟩])
 (.seq (.seq (.ops [⟨some 21,none,.mov (t 6)⟩,⟨some 22,none,.bin .eql (t 21) (.const (.string ⟨#[]⟩))⟩])
 (.cond (t 22) (.seq (.ops [⟨some 2,none,.mov (.const (.slice none 0 0))⟩,⟨some 3,none,.mov (ci 3)⟩])
 .ret)
 .skip))
 (.seq (.ops [⟨some 23,none,.mov (t 6)⟩,
  ⟨some 24,none,.bin .eql (t 23) (.const (.string ⟨#[42,42]⟩))⟩,⟨some 25,none,.build 2 [.bool false,.raw (.slice none 0 0)] [(0,1,(t 24))]⟩,⟨some 7,none,.alloc [.bool false,.raw (.slice none 0 0)]⟩,⟨none,none,.storN 2 (t 7) (t 25)⟩])
 (.seq (.seq (.jn (.ops [⟨some 26,none,.mov (t 6)⟩,⟨some 27,none,.build 2 [.str [],.int .i64 0] [(0,1,(t 26))]⟩,⟨some 28,none,.box (t 27)⟩,
  ⟨some 8,none,.mov (t 28)⟩]))
 (.block 2 (.loop (.seq (.seq (.jn (.ops [⟨some 29,none,.mov (t 8)⟩,⟨some 30,none,.nilck (t 29)⟩,⟨some 31,none,.fldA 1 (t 30)⟩,⟨some 32,none,.load1 (t 31)⟩,⟨some 33,none,.mov (t 6)⟩,⟨some 34,none,.lenS (t 33)⟩,
  ⟨some 35,none,.bin .lss (t 32) (t 34)⟩,⟨some 36,none,.mov (t 35)⟩,⟨some 37,some (36,true),.fldA 0 (t 7)⟩,⟨some 38,some (36,true),.load1 (t 37)⟩,⟨some 39,some (36,true),.not (t 38)⟩,⟨some 40,none,.pick (t 36) (t 39) (.const (.bool false))⟩]))
 (.cond (t 40) .skip
 (.exit 2)))
 (.block 3 (.seq (.sops [.op ⟨some 42,none,.mov (t 8)⟩,
  .call none (some 43) H___quilt_glob_parser__one [(t 42)],
  .op ⟨some 41,none,.mov (t 43)⟩,
  .op ⟨some 44,none,.extr (t 41) 0⟩,
  .op ⟨some 45,none,.extr (t 41) 1⟩,
  .op ⟨some 9,none,.alloc [.bool false,.bool false,.int .u8 0,.raw .nilFunc]⟩,
  .op ⟨none,none,.storN 4 (t 9) (t 44)⟩,
  .op ⟨some 10,none,.mov (t 45)⟩])
 (.seq (.seq (.ops [⟨some 46,none,.mov (t 10)⟩,
  ⟨some 47,none,.not (t 46)⟩])
 (.cond (t 47) (.seq (.ops [⟨some 2,none,.mov (.const (.slice none 0 0))⟩,⟨some 3,none,.mov (ci 3)⟩])
 .ret)
 .skip))
 (.jnT (.ops [⟨some 48,none,.fldA 1 (t 7)⟩,⟨some 49,none,.load1 (t 48)⟩,⟨some 50,none,.loadN 4 (t 9)⟩,⟨some 51,none,.bslice 4 [.bool false,.bool false,.int .u8 0,.raw .nilFunc] 1 [(0,4,(t 50))]⟩,⟨some 52,none,.app 4 16 (t 49) (t 51)⟩,
  ⟨some 53,none,.fldA 1 (t 7)⟩,⟨none,none,.stor1 (t 53) (t 52)⟩])))))))))
 (.jnT (.ops [⟨some 54,none,.mov (t 4)⟩,⟨some 55,none,.loadN 2 (t 7)⟩,⟨some 56,none,.bslice 2 [.bool false,.raw (.slice none 0 0)] 1 [(0,2,(t 55))]⟩,⟨some 57,none,.app 2 32 (t 54) (t 56)⟩,⟨some 4,none,.mov (t 57)⟩])))))))
 (.ops [⟨some 58,none,.bin .add (t 17) (ci 1)⟩,
  ⟨some 17,none,.mov (t 58)⟩])))))))
 (.seq (.ops [⟨some 59,none,.mov (t 4)⟩,⟨some 2,none,.mov (t 59)⟩,⟨some 3,none,.mov (ci 0)⟩])
 .ret))))),[.tmp 2,.tmp 3]⟩

end Qk

/-
  Chapter 32: the parser of components.
-/
namespace Qk
open Go Go.RowKit

theorem sub_to {m : Nat} {S : St} {env : List (Nat × AV)} {H : Heap} {nx : Nat} (h1 : HasE S env) (h2 : S.heap = H) (h3 : S.next ≤ nx) : SubSt m S ⟨mk env,H,nx⟩ :=
 sub_forget (fun k v e => h1.get k v e) (fun n o e => by rw [h2]; exact e) h3
theorem upd_twice {α : Type} (H : Nat → Option α) (n : Nat) (a b : Option α) : upd (upd H n a) n b = upd H n b := by
 funext k; simp only [upd]; cases Nat.beq k n <;> rfl
theorem upd_id {α : Type} {H : Nat → Option α} {n : Nat} {v : Option α} (h : H n = v) : upd H n v = H := by
 funext k; simp only [upd]
 cases h1 : Nat.beq k n with
 | false => rfl
 | true => rw [Nat.eq_of_beq_eq_true h1,h]; rfl

theorem byte1_plain {c : UInt8} {r : List UInt8} (h : ¬ c = 92) : byte1 (c :: r) = some (c,1) := by simp [byte1,h]
def OutOf (ks : List Nat) (H R : Heap) : Prop := ∀ k,k ∉ ks → H k = R k
theorem out_refl {ks : List Nat} {R : Heap} : OutOf ks R R := fun _ _ => rfl
theorem out_upd {ks : List Nat} {H R : Heap} {n : Nat} {v : Option AO} (h : OutOf ks H R) (hn : n ∈ ks) : OutOf ks (upd H n v) R := by
 intro k hk
 have : Nat.beq k n = false := by
  cases e : Nat.beq k n with
  | false => rfl
  | true => rw [Nat.eq_of_beq_eq_true e] at hk; exact absurd hn hk
 simp only [upd,this]
 exact h k hk
def EqOn (H H' : Heap) : List Nat → Prop
 | [] => True
 | k :: ks => H k = H' k ∧ EqOn H H' ks
theorem EqOn.get {H H' : Heap} : ∀ {ks : List Nat},EqOn H H' ks → ∀ k ∈ ks,H k = H' k
 | [],_,_,h => by cases h
 | j :: ks,h,k,hk => by
  rcases List.mem_cons.1 hk with rfl | hk
  ·exact h.1
  ·exact EqOn.get h.2 k hk
theorem heap_is (ks : List Nat) {H H' : Heap} (R : Heap) (h : OutOf ks H R) (h' : OutOf ks H' R) (he : EqOn H H' ks) : H = H' := by
 funext k
 by_cases hk : k ∈ ks
 ·exact he.get k hk
 ·rw [h k hk,h' k hk]

def PA (s : List UInt8) (a : Nat) : AO := .cl false [.str s,.int .i64 a]
def b0 (s : List UInt8) (i : Nat) : AV := .int .u8 ((s.getD i 0).toNat : Int)

theorem t_peek' {R : Heap} {nx : Nat} {K : AV → Heap → Nat → Prop} {s : List UInt8} {a d : Nat} (hd : d ≤ 1) (ha : a ≤ 1000000000)
  (hK : K (.tup [b0 s (a + d),.bool (decide (a + d < s.length))]) (upd R 4 (some (PA s a))) nx) : H___quilt_glob_parser__peek [.ref 4 0,.int .i64 d] (upd R 4 (some (PA s a))) nx K := by
 refine And.intro rfl ?_
 refine ⟨_,rfl,?_⟩
 refine And.intro (by omega) ?_
 refine ⟨_,rfl,?_⟩
 refine cond_split (fun h => ?_) (fun h => ?_)
 ·have hT : (s.length : Int) ≤ (a : Int) + d := of_decide_eq_true h
  refine ⟨_,(by first | exact SubSt.refl _ | exact SubTop.refl _),?_⟩
  have e1 : b0 s (a + d) = .int .u8 0 := by unfold b0; rw [List.getD,List.getElem?_eq_none (by omega)]; rfl
  have e2 : decide (a + d < s.length) = false := by simp; omega
  rw [e1,e2] at hK
  exact hK
 ·have hF : ¬ ((s.length : Int) ≤ (a : Int) + d) := of_decide_eq_false h
  refine ⟨_,rfl,?_⟩
  refine ⟨_,rfl,?_⟩
  refine And.intro (by omega) ?_
  refine And.intro ⟨by omega,by omega⟩ ?_
  refine ⟨_,(by first | exact SubSt.refl _ | exact SubTop.refl _),?_⟩
  have e2 : decide (a + d < s.length) = true := by simp; omega
  have e3 : ((a : Int) + d).toNat = a + d := by omega
  rw [e2] at hK
  rw [b0,← e3] at hK
  exact hK

theorem t_peek {H : Heap} {nx : Nat} {K : AV → Heap → Nat → Prop} {s : List UInt8} {a d : Nat} (hd : d ≤ 1) (ha : a ≤ 1000000000) (hH : H 4 = some (PA s a))
  (hK : K (.tup [b0 s (a + d),.bool (decide (a + d < s.length))]) H nx) : H___quilt_glob_parser__peek [.ref 4 0,.int .i64 d] H nx K := by
 rw [← upd_id hH] at hK ⊢
 exact t_peek' hd ha hK

/-- Where the parser stands behind a byte that may be quoted. -/
def plainAt (s : List UInt8) (a : Nat) : Nat := match byte1 (s.drop a) with
 | none => s.length
 | some (_,m) => a + m
def plainB (s : List UInt8) (a : Nat) : UInt8 := match byte1 (s.drop a) with
 | none => 0
 | some (c,_) => c
theorem drop_cons {s : List UInt8} {a : Nat} (h : a < s.length) : s.drop a = s.getD a 0 :: s.drop (a + 1) := by
 rw [List.drop_eq_getElem_cons h,List.getD,List.getElem?_eq_getElem h]; rfl

theorem ret_tt {m a b : Nat} {K : AV → Heap → Nat → Prop} {S : St} {va vb : AV} {H : Heap} {nx : Nat} (ha : S.env a = some va) (hb : S.env b = some vb) (hh : S.heap = H) (hn : S.next = nx)
  (hk : K (.tup [va,vb]) H nx) : retH m [.tmp a,.tmp b] K .ret S := by
 refine ⟨S,SubSt.refl _,?_⟩
 simp only [resK,rvs,rv,ha,hb]
 rw [hh,hn]
 exact hk
theorem ret_t {m a : Nat} {K : AV → Heap → Nat → Prop} {S : St} {va : AV} {H : Heap} {nx : Nat} (ha : S.env a = some va) (hh : S.heap = H) (hn : S.next = nx)
  (hk : K va H nx) : retH m [.tmp a] K .ret S := by
 refine ⟨S,SubSt.refl _,?_⟩
 simp only [resK,rv,ha]
 rw [hh,hn]
 exact hk

theorem t_plain' {R : Heap} {nx : Nat} {K : AV → Heap → Nat → Prop} {s : List UInt8} {a : Nat} (ha : a ≤ s.length) (hs : s.length ≤ 1000000000)
  (hK : K (.tup [.int .u8 (plainB s a).toNat,.bool (byte1 (s.drop a)).isSome]) (upd R 4 (some (PA s (plainAt s a)))) nx) :
  H___quilt_glob_parser__plain [.ref 4 0] (upd R 4 (some (PA s a))) nx K := by
 refine And.intro rfl ?_
 refine ⟨_,rfl,?_⟩
 refine ⟨_,rfl,?_⟩
 by_cases hlt : a < s.length
 ·have hc := drop_cons hlt
  have hb : decide ((a : Int) < s.length) = true := by simp; omega
  iterate 4 (refine cond_t hb ?_)
  refine ⟨_,rfl,?_⟩
  iterate 4 (refine cond_t hb ?_)
  refine ⟨_,rfl,?_⟩
  iterate 1 (refine cond_t hb ?_)
  refine And.intro ⟨by omega,by omega⟩ ?_
  iterate 1 (refine cond_t hb ?_)
  have e92 : decide (((s.getD (a : Int).toNat 0).toNat : Int) = ((92 : Nat) : Int)) = (s.getD a 0 == 92) := by rw [Int.toNat_natCast,dec_u8k _ 92 (by decide)]; rfl
  refine jn_plain ?_
  refine cond_split (fun h => ?_) (fun h => ?_)
  ·have h9 : s.getD a 0 = 92 := by
    have h' : (cond (decide ((a : Int) < s.length)) (decide (((s.getD (a : Int).toNat 0).toNat : Int) = ((92 : Nat) : Int))) false) = true := h
    rw [hb,e92] at h'
    simpa using h'
   refine ⟨_,rfl,?_⟩
   refine And.intro (by omega) ?_
   refine And.intro (show 1 < 2 by decide) ?_
   refine ⟨_,rfl,?_⟩
   refine ⟨_,rfl,?_⟩
   refine cond_split (fun h => ?_) (fun h => ?_)
   ·have hT : (s.length : Int) ≤ (a : Int) + 1 := of_decide_eq_true h
    have e1 : s.drop (a + 1) = [] := List.drop_of_length_le (by omega)
    have e2 : byte1 (s.drop a) = none := by rw [hc,e1,h9]; rfl
    have e3 : plainAt s a = a + 1 := by unfold plainAt; rw [e2]; show s.length = _; omega
    have e4 : plainB s a = 0 := by unfold plainB; rw [e2]
    rw [e2,e3,e4] at hK
    exact ret_tt rfl rfl (upd_twice _ _ _ _) rfl hK
   ·have hF : ¬ ((s.length : Int) ≤ (a : Int) + 1) := of_decide_eq_false h
    have e1 := drop_cons (s := s) (a := a + 1) (by omega)
    have e2 : byte1 (s.drop a) = some (s.getD (a + 1) 0,2) := by rw [hc,e1,h9]; rfl
    have e3 : plainAt s a = a + 2 := by unfold plainAt; rw [e2]
    have e4 : plainB s a = s.getD (a + 1) 0 := by unfold plainB; rw [e2]
    rw [e2,e3,e4] at hK
    refine ⟨_,rfl,?_⟩
    refine And.intro (by omega) ?_
    refine And.intro (show 1 < 2 by decide) ?_
    refine ⟨_,rfl,?_⟩
    refine ⟨_,rfl,?_⟩
    refine And.intro (by omega) ?_
    refine And.intro ⟨by omega,by omega⟩ ?_
    have e5 : ((a : Int) + 1 + 1 - 1).toNat = a + 1 := by omega
    rw [← e5] at hK
    refine ret_tt rfl rfl ?_ rfl hK
    rw [e5]
    exact (upd_twice _ _ _ _).trans (upd_twice _ _ _ _)
  ·have h9 : ¬ s.getD a 0 = 92 := by
    have h' : (cond (decide ((a : Int) < s.length)) (decide (((s.getD (a : Int).toNat 0).toNat : Int) = ((92 : Nat) : Int))) false) = false := h
    rw [hb,e92] at h'
    simpa using h'
   refine ⟨_,rfl,?_⟩
   refine ⟨_,rfl,?_⟩
   have hF : decide ((s.length : Int) ≤ (a : Int)) = false := by simp; omega
   iterate 1 (refine cond_f hF ?_)
   have e2 : byte1 (s.drop a) = some (s.getD a 0,1) := by rw [hc]; exact byte1_plain h9
   have e3 : plainAt s a = a + 1 := by unfold plainAt; rw [e2]
   have e4 : plainB s a = s.getD a 0 := by unfold plainB; rw [e2]
   rw [e2,e3,e4] at hK
   refine ⟨_,rfl,?_⟩
   refine And.intro (by omega) ?_
   refine And.intro (show 1 < 2 by decide) ?_
   refine ⟨_,rfl,?_⟩
   refine ⟨_,rfl,?_⟩
   refine And.intro (by omega) ?_
   refine And.intro ⟨by omega,by omega⟩ ?_
   have e5 : ((a : Int) + 1 - 1).toNat = a := by omega
   have hK' : K (.tup [.int .u8 (s.getD ((a : Int) + 1 - 1).toNat 0).toNat,.bool true]) (upd R 4 (some (PA s (a + 1)))) nx := by rw [e5]; exact hK
   exact ret_tt rfl rfl (upd_twice _ _ _ _) rfl hK'
 ·have hb : decide ((a : Int) < s.length) = false := by simp; omega
  iterate 11 (refine cond_f hb ?_)
  refine jn_plain ?_
  refine ⟨_,rfl,?_⟩
  refine ⟨_,rfl,?_⟩
  have hT : decide ((s.length : Int) ≤ (a : Int)) = true := by simp; omega
  iterate 1 (refine cond_t hT ?_)
  have e1 : s.drop a = [] := List.drop_of_length_le (by omega)
  have e2 : byte1 (s.drop a) = none := by rw [e1]; rfl
  have e3 : plainAt s a = a := by unfold plainAt; rw [e2]; show s.length = _; omega
  have e4 : plainB s a = 0 := by unfold plainB; rw [e2]
  rw [e2,e3,e4] at hK
  exact ret_tt rfl rfl rfl rfl hK

theorem t_plain {H : Heap} {nx : Nat} {K : AV → Heap → Nat → Prop} {s : List UInt8} {a : Nat} (ha : a ≤ s.length) (hs : s.length ≤ 1000000000) (hH : H 4 = some (PA s a))
  (hK : K (.tup [.int .u8 (plainB s a).toNat,.bool (byte1 (s.drop a)).isSome]) (upd H 4 (some (PA s (plainAt s a)))) nx) :
  H___quilt_glob_parser__plain [.ref 4 0] H nx K := by
 rw [← upd_id hH]
 refine t_plain' ha hs ?_
 exact hK

theorem t_peek_some {H : Heap} {nx : Nat} {K : AV → Heap → Nat → Prop} {s : List UInt8} {a d : Nat} (hd : d ≤ 1) (ha : a ≤ 1000000000) (hl : a + d < s.length) (hH : H 4 = some (PA s a))
  (hK : K (.tup [b0 s (a + d),.bool true]) H nx) : H___quilt_glob_parser__peek [.ref 4 0,.int .i64 d] H nx K := by
 refine t_peek hd ha hH ?_
 rw [decide_eq_true hl]; exact hK
theorem t_peek_none {H : Heap} {nx : Nat} {K : AV → Heap → Nat → Prop} {s : List UInt8} {a d : Nat} (hd : d ≤ 1) (ha : a ≤ 1000000000) (hl : ¬ a + d < s.length) (hH : H 4 = some (PA s a))
  (hK : K (.tup [.int .u8 0,.bool false]) H nx) : H___quilt_glob_parser__peek [.ref 4 0,.int .i64 d] H nx K := by
 refine t_peek hd ha hH ?_
 have e1 : b0 s (a + d) = .int .u8 0 := by unfold b0; rw [List.getD,List.getElem?_eq_none (by omega)]; rfl
 rw [decide_eq_false hl,e1]; exact hK
theorem t_plain_some {H : Heap} {nx : Nat} {K : AV → Heap → Nat → Prop} {s : List UInt8} {a m : Nat} {c : UInt8} (ha : a ≤ s.length) (hs : s.length ≤ 1000000000) (hH : H 4 = some (PA s a)) (hb : byte1 (s.drop a) = some (c,m))
  (hK : K (.tup [.int .u8 c.toNat,.bool true]) (upd H 4 (some (PA s (a + m)))) nx) : H___quilt_glob_parser__plain [.ref 4 0] H nx K := by
 refine t_plain ha hs hH ?_
 unfold plainAt plainB
 rw [hb]
 exact hK
theorem t_plain_none {H : Heap} {nx : Nat} {K : AV → Heap → Nat → Prop} {s : List UInt8} {a : Nat} (ha : a ≤ s.length) (hs : s.length ≤ 1000000000) (hH : H 4 = some (PA s a)) (hb : byte1 (s.drop a) = none)
  (hK : K (.tup [.int .u8 0,.bool false]) (upd H 4 (some (PA s s.length))) nx) : H___quilt_glob_parser__plain [.ref 4 0] H nx K := by
 refine t_plain ha hs hH ?_
 unfold plainAt plainB
 rw [hb]
 exact hK

end Qk

/-
  Chapter 32: classes.
-/
namespace Qk
open Go Go.RowKit

theorem ofNat_toNat {i : Nat} (h : i < 256) : (UInt8.ofNat i).toNat = i := by simp; omega
theorem someB_step (f : UInt8 → Bool) (i : Nat) : ((List.range (i + 1)).any fun b => f (UInt8.ofNat b)) = (((List.range i).any fun b => f (UInt8.ofNat b)) || f (UInt8.ofNat i)) := by
 rw [List.range_succ,List.any_append]; simp

set_option maxRecDepth 4000 in
theorem t_some {R : Heap} {nx : Nat} {K : AV → Heap → Nat → Prop} {neg : Bool} {tab : List Bool} (ht : tab.length = 256)
  (hK : K (.bool (someB (El.cls neg tab).fit)) (upd (upd R 7 (some (.cl false (boos tab)))) 8 (some (.cl false [.bool neg]))) nx) :
  H_glob_some [.clo 3 [.ref 7 0,.ref 8 0]] (upd (upd R 7 (some (.cl false (boos tab)))) 8 (some (.cl false [.bool neg]))) nx K := by
 refine And.intro rfl ?_
 refine ⟨Nat,fun i => i ≤ 256 ∧ ((List.range i).any fun b => (El.cls neg tab).fit (UInt8.ofNat b)) = false,
  fun i => ⟨mk [(0,.clo 3 [.ref 7 0,.ref 8 0]),(4,.int .i64 i)],upd (upd R 7 (some (.cl false (boos tab)))) 8 (some (.cl false [.bool neg])),nx⟩,fun i => 256 - i,0,⟨by omega,rfl⟩,?_,?_⟩
 ·exact sub_to ⟨rfl,rfl,trivial⟩ rfl (Nat.le_refl _)
 ·rintro i ⟨hi,hc⟩
  refine cond_split (fun h => ?_) (fun h => ?_)
  ·have hT : (i : Int) < 256 := of_decide_eq_true h
   have hlt : i < 256 := by omega
   refine And.intro (nnl_boos tab) ?_
   refine And.intro (nnl_plain (by intro c hc; simp at hc; subst hc; exact plain_bool _)) ?_
   refine ⟨(UInt8.ofNat i,neg,tab),?_,ht,?_⟩
   ·show [AV.int .u8 ((i : Int) % 256),_,_] = [AV.int .u8 ((UInt8.ofNat i).toNat : Int),_,_]
    rw [ofNat_toNat hlt]
    have : (i : Int) % 256 = i := by omega
    rw [this]
   refine And.intro (plain_bool _) ?_
   refine cond_split (fun h => ?_) (fun h => ?_)
   ·have h' : (El.cls neg tab).fit (UInt8.ofNat i) = true := h
    have e : someB (El.cls neg tab).fit = true := List.any_eq_true.2 ⟨i,List.mem_range.2 hlt,h'⟩
    rw [e] at hK
    exact ret_t rfl rfl rfl hK
   ·have h' : (El.cls neg tab).fit (UInt8.ofNat i) = false := h
    refine And.intro (by omega) ?_
    refine ⟨i + 1,⟨by omega,by rw [someB_step,hc,h']; rfl⟩,by dsimp only; omega,?_⟩
    exact sub_to ⟨rfl,rfl,trivial⟩ rfl (Nat.le_refl _)
  ·have hF : ¬ (i : Int) < 256 := of_decide_eq_false h
   have : i = 256 := by omega
   subst this
   have e : someB (El.cls neg tab).fit = false := hc
   rw [e] at hK
   exact ret_t rfl rfl rfl hK

/-- A table in which the bytes from low on, ahead of b, are laid. -/
def tabAt (tab : List Bool) (low b : Nat) : List Bool := (List.range 256).map fun j => tab.getD j false || (decide (low ≤ j) && decide (j < b))
theorem tabAt_len (tab : List Bool) (low b : Nat) : (tabAt tab low b).length = 256 := by simp [tabAt]
theorem tabAt_start {tab : List Bool} {low : Nat} (h : tab.length = 256) : tabAt tab low low = tab := by
 apply List.ext_getElem?
 intro j
 unfold tabAt
 rw [List.getElem?_map]
 by_cases hj : j < 256
 ·rw [List.getElem?_range hj,List.getElem?_eq_getElem (by omega)]
  have : (decide (low ≤ j) && decide (j < low)) = false := by
   by_cases h1 : low ≤ j <;> simp [h1] <;> omega
  simp [this,List.getD,List.getElem?_eq_getElem (show j < tab.length by omega)]
 ·rw [List.getElem?_eq_none (by simp; omega),List.getElem?_eq_none (by omega)]; rfl
theorem tabAt_step {tab : List Bool} {low b : Nat} (hb : low ≤ b) : (tabAt tab low b).set b true = tabAt tab low (b + 1) := by
 apply List.ext_getElem?
 intro j
 rw [List.getElem?_set,tabAt_len]
 unfold tabAt
 rw [List.getElem?_map,List.getElem?_map]
 by_cases hj : j < 256
 ·rw [List.getElem?_range hj]
  by_cases e : b = j
  ·subst e
   simp [hj,hb]
  ·simp [e]
   by_cases h1 : j < b
   ·have : j < b + 1 := by omega
    simp [h1,this]
   ·have : ¬ j < b + 1 := by omega
    simp [h1,this]
 ·have h0 : (List.range 256)[j]? = none := List.getElem?_eq_none (by simp; omega)
  rw [h0]
  by_cases e : b = j
  ·subst e; simp [hj]
  ·simp [e]
theorem tabAt_end (tab : List Bool) (low high : Nat) : tabAt tab low (high + 1) = setR tab low high := by
 unfold tabAt setR
 apply List.map_congr_left
 intro j _
 congr 2
 exact decide_eq_decide.2 (by omega)
theorem setR_len (tab : List Bool) (low high : Nat) : (setR tab low high).length = 256 := by simp [setR]

/-- More fuel changes nothing. -/
theorem byte1_pos {r : List UInt8} {c : UInt8} {m : Nat} (h : byte1 r = some (c,m)) : 1 ≤ m ∧ m ≤ r.length := by
 cases r with
 | nil => cases h
 | cons d r =>
  by_cases hd : d = 92
  ·subst hd
   cases r with
   | nil => cases h
   | cons e r =>
    have : byte1 (92 :: e :: r) = some (e,2) := rfl
    rw [this] at h
    cases h
    simp
  ·rw [byte1_plain hd] at h
   cases h
   simp
theorem upto_len {low high : UInt8} {r r3 : List UInt8} (h : upto low r = some (high,r3)) : r3.length ≤ r.length := by
 unfold upto at h
 split at h
 ·split at h
  ·split at h
   ·cases h
   ·cases h; simp; omega
  ·cases h; simp
 ·cases h; simp
theorem items_len : ∀ {f : Nat} {tab tab' : List Bool} {n n' : Nat} {r rest : List UInt8},items f tab n r = some (tab',n',rest) → rest.length < r.length
 | 0,_,_,_,_,_,_,h => by simp [items] at h
 | f + 1,tab,_,n,_,[],_,h => by simp [items] at h
 | f + 1,tab,_,n,_,c :: r,_,h => by
  simp only [items] at h
  split at h
  ·cases h; simp
  ·split at h
   ·cases h
   ·rename_i low m hb
    have hm := byte1_pos hb
    split at h
    ·cases h
    ·rename_i high r3 hu
     have hl := upto_len hu
     rw [List.length_drop] at hl
     simp only [List.length_cons] at *
     split at h
     ·cases h
     ·have := items_len h
      omega
theorem class_len {r rest : List UInt8} {e : El} (h : classL r = some (e,rest)) : rest.length < r.length := by
 unfold classL at h
 split at h
 ·cases h
 ·rename_i hi
  split at h
  ·cases h
   have := items_len hi
   split at this
   ·rw [List.length_drop] at this; omega
   ·exact this
  ·cases h
theorem items_fuel : ∀ (f g : Nat) (tab : List Bool) (n : Nat) (r : List UInt8),r.length < f → r.length < g → items f tab n r = items g tab n r
 | 0,_,_,_,_,h,_ => by omega
 | _ + 1,0,_,_,_,_,h => by omega
 | f + 1,g + 1,tab,n,[],_,_ => by simp [items]
 | f + 1,g + 1,tab,n,c :: r,h1,h2 => by
  simp only [items]
  split
  ·rfl
  ·split
   ·rfl
   ·rename_i low m hb
    have hm := byte1_pos hb
    split
    ·rfl
    ·rename_i high r3 hu
     have hl := upto_len hu
     rw [List.length_drop] at hl
     simp only [List.length_cons] at *
     split
     ·rfl
     ·exact items_fuel f g _ _ _ (by omega) (by omega)

theorem upto_no {low : UInt8} {s : List UInt8} {a : Nat} (h : ¬ (a + 1 < s.length ∧ s.getD a 0 = 45 ∧ s.getD (a + 1) 0 ≠ 93)) : upto low (s.drop a) = some (low,s.drop a) := by
 by_cases h1 : a + 1 < s.length
 ·rw [drop_cons (show a < s.length by omega),drop_cons h1]
  have : (s.getD a 0 == 45 && !(s.getD (a + 1) 0 == 93)) = false := by
   cases e : (s.getD a 0 == 45 && !(s.getD (a + 1) 0 == 93)) with
   | false => rfl
   | true =>
    rw [Bool.and_eq_true] at e
    exact absurd ⟨h1,by simpa using e.1,by simpa using e.2⟩ h
  simp only [upto,this]
  rfl
 ·by_cases h2 : a < s.length
  ·rw [drop_cons h2,List.drop_of_length_le (by omega)]; rfl
  ·rw [List.drop_of_length_le (by omega)]; rfl
theorem upto_yes {low : UInt8} {s : List UInt8} {a : Nat} (h1 : a + 1 < s.length) (h2 : s.getD a 0 = 45) (h3 : s.getD (a + 1) 0 ≠ 93) :
  upto low (s.drop a) = match byte1 (s.drop (a + 1)) with | none => none | some (hi,m) => some (hi,s.drop (a + 1 + m)) := by
 have e : (s.getD a 0 == 45 && !(s.getD (a + 1) 0 == 93)) = true := by simp only [h2,Bool.and_eq_true]; exact ⟨rfl,by simpa using h3⟩
 rw [drop_cons (show a < s.length by omega),drop_cons h1]
 simp only [upto,e]
 rw [← drop_cons h1]
 cases byte1 (s.drop (a + 1)) with
 | none => rfl
 | some x => obtain ⟨hi,m⟩ := x; simp only [if_true]; rw [List.drop_drop]

section
variable {s : List UInt8} {tab : List Bool} {n a : Nat}
theorem it_end (h : ¬ a < s.length) : items (s.length + 1) tab n (s.drop a) = none := by
 rw [List.drop_of_length_le (by omega)]; simp [items]
theorem it_close (h : a < s.length) (h2 : s.getD a 0 = 93) : items (s.length + 1) tab n (s.drop a) = some (tab,n,s.drop (a + 1)) := by
 rw [drop_cons h]; simp only [items]; rw [h2]; rfl
theorem it_step (h : a < s.length) (h2 : ¬ s.getD a 0 = 93) : items (s.length + 1) tab n (s.drop a) = match byte1 (s.drop a) with
  | none => none
  | some (low,m) => match upto low (s.drop (a + m)) with
   | none => none
   | some (high,r3) => if high.toNat < low.toNat then none else items s.length (setR tab low.toNat high.toNat) (n + 1) r3 := by
 have e : (s.getD a 0 == 93) = false := by simpa using h2
 conv => lhs; rw [drop_cons h]
 simp only [items,e]
 rw [← drop_cons h]
 cases byte1 (s.drop a) with
 | none => rfl
 | some x => obtain ⟨low,m⟩ := x; simp only [List.drop_drop]; rfl
end
theorem class_at {s : List UInt8} {a a1 : Nat} (h : s.drop a1 = if isNeg (s.drop a) then (s.drop a).drop 1 else s.drop a) : classL (s.drop a) = match items (s.length + 1) noTab 0 (s.drop a1) with
  | none => none
  | some (tab,n,rest) => if decide (0 < n) && someB (El.cls (isNeg (s.drop a)) tab).fit then some (.cls (isNeg (s.drop a)) tab,rest) else none := by
 unfold classL
 rw [h]
 rw [items_fuel ((s.drop a).length + 1) (s.length + 1)]
 all_goals first | rfl | (split <;> (rw [List.length_drop]; try rw [List.length_drop]) <;> omega)

theorem t_some2 {H : Heap} {nx : Nat} {K : AV → Heap → Nat → Prop} {neg : Bool} {tab : List Bool} (ht : tab.length = 256) (h7 : H 7 = some (.cl false (boos tab))) (h8 : H 8 = some (.cl false [.bool neg]))
  (hK : K (.bool (someB (El.cls neg tab).fit)) H nx) : H_glob_some [.clo 3 [.ref 7 0,.ref 8 0]] H nx K := by
 have e : H = upd (upd H 7 (some (.cl false (boos tab)))) 8 (some (.cl false [.bool neg])) := by rw [upd_id h7,upd_id h8]
 rw [e] at hK ⊢
 exact t_some ht hK

end Qk

/-
  Chapter 32: the parser reads a class.
-/
namespace Qk
open Go Go.RowKit

def z4 : List AV := [.bool false,.bool false,.int .u8 0,.raw .nilFunc]
/-- The memory while a class is read. -/
def CH (R : Heap) (s : List UInt8) (a : Nat) (tab : List Bool) (neg : Bool) : Heap :=
 upd (upd (upd (upd R 6 (some (.cl false z4))) 4 (some (PA s a))) 7 (some (.cl false (boos tab)))) 8 (some (.cl false [.bool neg]))
def CS (R : Heap) (s : List UInt8) (a : Nat) (tab : List Bool) (neg : Bool) (n : Nat) : St :=
 ⟨mk [(0,.ref 4 0),(2,.ref 6 0),(4,.ref 7 0),(7,.ref 8 0),(8,.int .i64 n)],CH R s a tab neg,9⟩
def classC : List AV := [.bool false,.bool false,.int .u8 0,.clo 3 [.ref 7 0,.ref 8 0]]

theorem ret_ct {m a b n : Nat} {K : AV → Heap → Nat → Prop} {S : St} {l : List AV} {vb : AV} {H : Heap} {nx : Nat} (ha : S.env a = some (.ref n 0)) (hl : H n = some (.cl false l)) (h4 : l.length = 4) (hb : S.env b = some vb) (hh : S.heap = H) (hn : S.next = nx)
  (hk : K (.tup [.agg l,vb]) H nx) : retH m [.cell a true 4,.tmp b] K .ret S := by
 refine ⟨S,SubSt.refl _,?_⟩
 subst hh hn
 simp only [resK,rvs,rv,ha,hb,hl]
 exact ⟨l,⟨by rw [List.drop_zero,List.take_of_length_le (by omega)],h4,Nat.zero_le _⟩,hk⟩

theorem drop_more (s : List UInt8) (a m : Nat) : (s.drop a).drop m = s.drop (a + m) := List.drop_drop ..

theorem allOne4 {a b c d : AV} (h1 : a.isOne = true) (h2 : b.isOne = true) (h3 : c.isOne = true) (h4 : d.isOne = true) : AllOne [a,b,c,d] := by
 intro x hx
 simp only [List.mem_cons,List.not_mem_nil,or_false] at hx
 rcases hx with rfl | rfl | rfl | rfl <;> assumption

set_option maxRecDepth 4000 in
set_option maxHeartbeats 1000000 in
theorem t_class' {R : Heap} {K : AV → Heap → Nat → Prop} {s : List UInt8} {a : Nat} (ha : a ≤ s.length) (hs : s.length ≤ 1000000000)
  (hK1 : classL (s.drop a) = none → ∀ r H',r.length = 4 → AllOne r → OutOf [4,6,7,8] H' R → K (.tup [.agg r,.bool false]) H' 9)
  (hK2 : ∀ neg tab rest,classL (s.drop a) = some (.cls neg tab,rest) → tab.length = 256 → rest.length ≤ s.length → K (.tup [.agg classC,.bool true]) (upd (CH R s (s.length - rest.length) tab neg) 6 (some (.cl false classC))) 9) :
  H___quilt_glob_parser__class [.ref 4 0] (upd R 4 (some (PA s a))) 6 K := by
 refine And.intro rfl ?_
 refine t_peek (s := s) (a := a) (d := 0) (by decide) (by omega) rfl ?_
 refine ⟨_,rfl,?_⟩
 refine ⟨_,rfl,?_⟩
 refine And.intro (show 0 < 1 by decide) ?_
 refine ⟨_,rfl,?_⟩
 have enz : decide (((s.getD (a + 0) 0).toNat : Int) = ((33 : Nat) : Int)) = isNeg (s.drop a) := by
  rw [dec_u8k _ 33 (by decide),Nat.add_zero]
  by_cases h : a < s.length
  ·rw [drop_cons h]; rfl
  ·rw [List.drop_of_length_le (by omega),List.getD,List.getElem?_eq_none (by omega)]; rfl
 obtain ⟨neg,hneg⟩ : ∃ neg,neg = isNeg (s.drop a) := ⟨_,rfl⟩
 obtain ⟨a1,ha1⟩ : ∃ a1,a1 = if isNeg (s.drop a) then a + 1 else a := ⟨_,rfl⟩
 have hd1 : s.drop a1 = if isNeg (s.drop a) then (s.drop a).drop 1 else s.drop a := by
  rw [ha1]; split
  ·rw [drop_more]
  ·rfl
 have hl1 : a1 ≤ s.length ∧ a ≤ a1 := by
  rw [ha1]; split
  ·rename_i h
   have : a < s.length := by
    by_cases h2 : a < s.length
    ·exact h2
    ·rw [List.drop_of_length_le (by omega)] at h; cases h
   omega
  ·omega
 have b1 : decide (((s.getD (a + 0) 0).toNat : Int) = ((33 : Nat) : Int)) = neg := by rw [enz,hneg]
 have cl := class_at hd1
 rw [← hneg] at cl
 refine jn_at (fun _ : Unit => ⟨mk [(0,.ref 4 0),(2,.ref 6 0),(4,.ref 7 0),(7,.ref 8 0)],CH R s a1 noTab neg,9⟩) (fun _ => True) ?_ ?_
 ·refine cond_split (fun h => ?_) (fun h => ?_)
  ·have hn : neg = true := by rw [← b1]; exact h
   refine ⟨_,rfl,?_⟩
   refine And.intro (by omega) ?_
   refine And.intro (show 1 < 2 by decide) ?_
   refine ⟨(),trivial,sub_to ⟨rfl,rfl,rfl,rfl,trivial⟩ ?_ (Nat.le_refl 9)⟩
   have e : a1 = a + 1 := by rw [ha1,← hneg,hn]; rfl
   rw [← b1,e]
   refine heap_is [4,6,7,8] R (by (try dsimp only [St.set]); (repeat (first | exact out_refl | refine out_upd ?_ (by decide)))) (by (try dsimp only [St.set,CS,CH]); (repeat (first | exact out_refl | refine out_upd ?_ (by decide)))) ⟨rfl,rfl,?_,rfl,trivial⟩
   show some (AO.cl false (repl 256 [.bool false])) = some (AO.cl false (boos noTab))
   rw [repl_boos]; rfl
  ·have hn : neg = false := by rw [← b1]; exact h
   refine ⟨(),trivial,sub_to ⟨rfl,rfl,rfl,rfl,trivial⟩ ?_ (Nat.le_refl 9)⟩
   have e : a1 = a := by rw [ha1,← hneg,hn]; rfl
   rw [← b1,e]
   refine heap_is [4,6,7,8] R (by (try dsimp only [St.set]); (repeat (first | exact out_refl | refine out_upd ?_ (by decide)))) (by (try dsimp only [St.set,CS,CH]); (repeat (first | exact out_refl | refine out_upd ?_ (by decide)))) ⟨rfl,rfl,?_,rfl,trivial⟩
   show some (AO.cl false (repl 256 [.bool false])) = some (AO.cl false (boos noTab))
   rw [repl_boos]; rfl
 ·rintro _ _
  refine ⟨Nat × List Bool × Nat,fun x => x.1 ≤ s.length ∧ x.2.1.length = 256 ∧ x.2.2 ≤ x.1 ∧ items (s.length + 1) noTab 0 (s.drop a1) = items (s.length + 1) x.2.1 x.2.2 (s.drop x.1),
   fun x => CS R s x.1 x.2.1 neg x.2.2,fun x => s.length - x.1,(a1,noTab,0),⟨hl1.1,rfl,Nat.zero_le _,rfl⟩,?_,?_⟩
  ·exact sub_to ⟨rfl,rfl,rfl,rfl,rfl,trivial⟩ rfl (Nat.le_refl 9)
  ·rintro ⟨p,tab,n⟩ ⟨hp,ht,hn,hi⟩
   dsimp only at hp ht hn hi
   by_cases hlt : p < s.length
   ·refine t_peek_some (s := s) (a := p) (d := 0) (by decide) (by omega) hlt rfl ?_
    refine ⟨_,rfl,?_⟩
    refine ⟨_,rfl,?_⟩
    have e93 : decide (((s.getD (p + 0) 0).toNat : Int) = ((93 : Nat) : Int)) = (s.getD p 0 == 93) := by rw [dec_u8k _ 93 (by decide)]; rfl
    refine cond_split (fun h => ?_) (fun h => ?_)
    ·have h93 : s.getD p 0 = 93 := by
      have h' : decide (((s.getD (p + 0) 0).toNat : Int) = ((93 : Nat) : Int)) = true := h
      rw [e93] at h'; simpa using h'
     rw [hi,it_close hlt h93] at cl
     dsimp only at cl
     refine ⟨_,rfl,?_⟩
     refine And.intro (by omega) ?_
     refine And.intro (show 1 < 2 by decide) ?_
     refine And.intro rfl ?_
     refine cond_split (fun h => ?_) (fun h => ?_)
     ·have h0 : decide (0 < n) = true := by
       have : (0 : Int) < n := of_decide_eq_true h
       simp; omega
      iterate 1 (refine cond_t h ?_)
      refine t_some2 ht rfl rfl ?_
      refine And.intro ⟨rfl,allOne4 rfl rfl rfl rfl⟩ ?_
      refine And.intro (Nat.le_refl 4) ?_
      refine ⟨_,lay_all rfl,?_⟩
      rw [h0,Bool.true_and] at cl
      cases hsb : someB (El.cls neg tab).fit with
      | true =>
       rw [hsb] at cl
       have hk := hK2 neg tab _ cl ht (by rw [List.length_drop]; omega)
       have e1 : s.length - (s.drop (p + 1)).length = p + 1 := by rw [List.length_drop]; omega
       rw [e1] at hk
       refine ret_ct (l := classC) rfl rfl rfl (show _ = some (AV.bool true) from congrArg some (eBo ?_)) ?_ rfl hk
       ·show cond (decide ((0 : Int) < n)) _ false = true
        rw [show decide ((0 : Int) < n) = true from h]; rfl
       ·exact heap_is [4,6,7,8] R (by (try dsimp only [St.set,CS,CH]); (repeat (first | exact out_refl | refine out_upd ?_ (by decide)))) (by (try dsimp only [St.set,CS,CH]); (repeat (first | exact out_refl | refine out_upd ?_ (by decide)))) ⟨rfl,rfl,rfl,rfl,trivial⟩
      | false =>
       rw [hsb] at cl
       have hk := hK1 cl classC
       refine ret_ct (l := classC) rfl rfl rfl (show _ = some (AV.bool false) from congrArg some (eBo ?_)) rfl rfl (hk _ rfl (allOne4 rfl rfl rfl rfl) ?_)
       ·show cond (decide ((0 : Int) < n)) _ false = false
        rw [show decide ((0 : Int) < n) = true from h]; rfl
       ·exact (by (try dsimp only [St.set,CS,CH]); (repeat (first | exact out_refl | refine out_upd ?_ (by decide))))
     ·have h0 : decide (0 < n) = false := by
       have : ¬ (0 : Int) < n := of_decide_eq_false h
       simp; omega
      iterate 2 (refine cond_f h ?_)
      refine And.intro ⟨rfl,allOne4 rfl rfl rfl rfl⟩ ?_
      refine And.intro (Nat.le_refl 4) ?_
      refine ⟨_,lay_all rfl,?_⟩
      rw [h0,Bool.false_and] at cl
      exact ret_ct (l := classC) rfl rfl rfl rfl rfl rfl (hK1 cl classC _ rfl (allOne4 rfl rfl rfl rfl) (by (try dsimp only [St.set,CS,CH]); (repeat (first | exact out_refl | refine out_upd ?_ (by decide)))))
    ·have h93 : ¬ s.getD p 0 = 93 := by
      have h' : decide (((s.getD (p + 0) 0).toNat : Int) = ((93 : Nat) : Int)) = false := h
      rw [e93] at h'; simpa using h'
     have it := it_step (tab := tab) (n := n) hlt h93
     cases hb : byte1 (s.drop p) with
     | none =>
      rw [hi,it,hb] at cl
      dsimp only at cl
      refine t_plain_none (s := s) (a := p) hp hs rfl hb ?_
      refine ⟨_,rfl,?_⟩
      refine ⟨_,rfl,?_⟩
      refine t_peek_none (s := s) (a := s.length) (d := 0) (by decide) (by omega) (by omega) rfl ?_
      refine ⟨_,rfl,?_⟩
      refine ⟨_,rfl,?_⟩
      refine t_peek_none (s := s) (a := s.length) (d := 1) (by decide) (by omega) (by omega) rfl ?_
      refine ⟨_,rfl,?_⟩
      refine ⟨_,rfl,?_⟩
      refine jn_plain ?_
      refine jn_plain ?_
      refine And.intro rfl ?_
      refine And.intro ⟨rfl,allOne4 rfl rfl rfl rfl⟩ ?_
      refine And.intro (Nat.le_refl 4) ?_
      refine ⟨_,lay_all rfl,?_⟩
      exact ret_ct (l := z4) rfl rfl rfl rfl rfl rfl (hK1 cl z4 _ rfl (allOne4 rfl rfl rfl rfl) (by (try dsimp only [St.set,CS,CH]); (repeat (first | exact out_refl | refine out_upd ?_ (by decide)))))
     | some x =>
      obtain ⟨low,m⟩ := x
      have hm := byte1_pos hb
      rw [List.length_drop] at hm
      obtain ⟨q,hq⟩ : ∃ q,q = p + m := ⟨_,rfl⟩
      rw [hi,it,hb] at cl
      dsimp only at cl
      rw [← hq] at cl
      refine t_plain_some (s := s) (a := p) hp hs rfl hb ?_
      rw [← hq]
      refine ⟨_,rfl,?_⟩
      refine ⟨_,rfl,?_⟩
      refine t_peek (s := s) (a := q) (d := 0) (by decide) (by omega) rfl ?_
      refine ⟨_,rfl,?_⟩
      refine ⟨_,rfl,?_⟩
      refine t_peek (s := s) (a := q) (d := 1) (by decide) (by omega) rfl ?_
      refine ⟨_,rfl,?_⟩
      refine ⟨_,rfl,?_⟩
      have e45 : decide (((s.getD (q + 0) 0).toNat : Int) = ((45 : Nat) : Int)) = (s.getD q 0 == 45) := by rw [dec_u8k _ 45 (by decide)]; rfl
      have e93' : decide (((s.getD (q + 1) 0).toNat : Int) = ((93 : Nat) : Int)) = (s.getD (q + 1) 0 == 93) := by rw [dec_u8k _ 93 (by decide)]; rfl
      obtain ⟨B,hB⟩ : ∃ B,B = ((s.getD q 0 == 45) && (decide (q + 1 < s.length) && !(s.getD (q + 1) 0 == 93))) := ⟨_,rfl⟩
      refine jn_at (fun _ : Unit => ⟨mk [(0,.ref 4 0),(2,.ref 6 0),(4,.ref 7 0),(7,.ref 8 0),(8,.int .i64 n),(11,.int .u8 low.toNat),(12,.bool true),(13,.int .u8 low.toNat),(79,.bool B)],CH R s q tab neg,9⟩) (fun _ => True) ?_ ?_
      ·refine cond_split (fun h => ?_) (fun h => ?_)
       ·have h1 : (s.getD q 0 == 45) = true := by rw [← e45]; exact h
        refine cond_split (fun h' => ?_) (fun h' => ?_)
        ·have h2 : decide (q + 1 < s.length) = true := by
          have h2 : cond (decide (((s.getD (q + 0) 0).toNat : Int) = ((45 : Nat) : Int))) (decide (q + 1 < s.length)) false = true := h'
          rw [e45,h1] at h2; exact h2
         iterate 1 (refine cond_t h' ?_)
         refine ⟨(),trivial,sub_to ⟨rfl,rfl,rfl,rfl,rfl,rfl,rfl,rfl,congrArg some (eBo ?_),trivial⟩ ?_ (Nat.le_refl 9)⟩
         ·show cond (cond (decide (((s.getD (q + 0) 0).toNat : Int) = ((45 : Nat) : Int))) (decide (q + 1 < s.length)) false) (!decide (((s.getD (q + 1) 0).toNat : Int) = ((93 : Nat) : Int))) false = B
          rw [hB,e45,e93',h1,h2]; rfl
         ·exact heap_is [4,6,7,8] R (by (try dsimp only [St.set,CS,CH]); (repeat (first | exact out_refl | refine out_upd ?_ (by decide)))) (by (try dsimp only [St.set,CS,CH]); (repeat (first | exact out_refl | refine out_upd ?_ (by decide)))) ⟨rfl,rfl,rfl,rfl,trivial⟩
        ·have h2 : decide (q + 1 < s.length) = false := by
          have h2 : cond (decide (((s.getD (q + 0) 0).toNat : Int) = ((45 : Nat) : Int))) (decide (q + 1 < s.length)) false = false := h'
          rw [e45,h1] at h2; exact h2
         iterate 2 (refine cond_f h' ?_)
         refine ⟨(),trivial,sub_to ⟨rfl,rfl,rfl,rfl,rfl,rfl,rfl,rfl,congrArg some (eBo ?_),trivial⟩ ?_ (Nat.le_refl 9)⟩
         ·rw [hB,h1,h2]; rfl
         ·exact heap_is [4,6,7,8] R (by (try dsimp only [St.set,CS,CH]); (repeat (first | exact out_refl | refine out_upd ?_ (by decide)))) (by (try dsimp only [St.set,CS,CH]); (repeat (first | exact out_refl | refine out_upd ?_ (by decide)))) ⟨rfl,rfl,rfl,rfl,trivial⟩
       ·have h1 : (s.getD q 0 == 45) = false := by rw [← e45]; exact h
        iterate 1 (refine cond_f h ?_)
        refine ⟨(),trivial,sub_to ⟨rfl,rfl,rfl,rfl,rfl,rfl,rfl,rfl,congrArg some (eBo ?_),trivial⟩ ?_ (Nat.le_refl 9)⟩
        ·rw [hB,h1]; rfl
        ·exact heap_is [4,6,7,8] R (by (try dsimp only [St.set,CS,CH]); (repeat (first | exact out_refl | refine out_upd ?_ (by decide)))) (by (try dsimp only [St.set,CS,CH]); (repeat (first | exact out_refl | refine out_upd ?_ (by decide)))) ⟨rfl,rfl,rfl,rfl,trivial⟩
      ·rintro _ _
       refine jn_at (fun x : Nat × UInt8 × Bool => ⟨mk [(0,.ref 4 0),(2,.ref 6 0),(4,.ref 7 0),(7,.ref 8 0),(8,.int .i64 n),(11,.int .u8 low.toNat),(12,.bool x.2.2),(13,.int .u8 x.2.1.toNat)],CH R s x.1 tab neg,9⟩)
        (fun x => x.1 ≤ s.length ∧ q ≤ x.1 ∧ (x.2.2 = true → upto low (s.drop q) = some (x.2.1,s.drop x.1)) ∧ (x.2.2 = false → upto low (s.drop q) = none)) ?_ ?_
       ·refine cond_split (fun h => ?_) (fun h => ?_)
        ·have h' : B = true := h
         rw [hB,Bool.and_eq_true,Bool.and_eq_true] at h'
         obtain ⟨h1,h2,h3⟩ := h'
         have h1 : s.getD q 0 = 45 := by simpa using h1
         have h2 : q + 1 < s.length := of_decide_eq_true h2
         have h3 : s.getD (q + 1) 0 ≠ 93 := by simpa using h3
         have up := upto_yes (low := low) h2 h1 h3
         refine ⟨_,rfl,?_⟩
         refine And.intro (by omega) ?_
         refine And.intro (show 1 < 2 by decide) ?_
         cases hb2 : byte1 (s.drop (q + 1)) with
         | none =>
          rw [hb2] at up
          refine t_plain_none (s := s) (a := q + 1) (by omega) hs rfl hb2 ?_
          refine ⟨_,rfl,?_⟩
          refine ⟨_,rfl,?_⟩
          refine ⟨(s.length,0,false),⟨Nat.le_refl _,by dsimp only; omega,(fun h => by cases h),fun _ => up⟩,sub_to ⟨rfl,rfl,rfl,rfl,rfl,rfl,rfl,rfl,trivial⟩ ?_ (Nat.le_refl 9)⟩
          exact heap_is [4,6,7,8] R (by (try dsimp only [St.set,CS,CH]); (repeat (first | exact out_refl | refine out_upd ?_ (by decide)))) (by (try dsimp only [St.set,CS,CH]); (repeat (first | exact out_refl | refine out_upd ?_ (by decide)))) ⟨rfl,rfl,rfl,rfl,trivial⟩
         | some y =>
          obtain ⟨hi2,m2⟩ := y
          have hm2 := byte1_pos hb2
          rw [List.length_drop] at hm2
          rw [hb2] at up
          refine t_plain_some (s := s) (a := q + 1) (by omega) hs rfl hb2 ?_
          refine ⟨_,rfl,?_⟩
          refine ⟨_,rfl,?_⟩
          refine ⟨(q + 1 + m2,hi2,true),⟨by dsimp only; omega,by dsimp only; omega,fun _ => up,fun h => by cases h⟩,sub_to ⟨rfl,rfl,rfl,rfl,rfl,rfl,rfl,rfl,trivial⟩ ?_ (Nat.le_refl 9)⟩
          exact heap_is [4,6,7,8] R (by (try dsimp only [St.set,CS,CH]); (repeat (first | exact out_refl | refine out_upd ?_ (by decide)))) (by (try dsimp only [St.set,CS,CH]); (repeat (first | exact out_refl | refine out_upd ?_ (by decide)))) ⟨rfl,rfl,rfl,rfl,trivial⟩
        ·have h' : B = false := h
         have up : upto low (s.drop q) = some (low,s.drop q) := upto_no (by
          rintro ⟨u1,u2,u3⟩
          have u3' : (!(s.getD (q + 1) 0 == 93)) = true := by rw [Bool.not_eq_true']; exact beq_eq_false_iff_ne.2 u3
          rw [hB,u2,decide_eq_true u1,u3'] at h'
          cases h')
         exact ⟨(q,low,true),⟨by dsimp only; omega,Nat.le_refl _,fun _ => up,fun h => by cases h⟩,sub_to ⟨rfl,rfl,rfl,rfl,rfl,rfl,rfl,rfl,trivial⟩ rfl (Nat.le_refl 9)⟩
       ·rintro ⟨q2,high,okb⟩ ⟨hq2,hqq,hu1,hu2⟩
        dsimp only at hq2 hqq hu1 hu2
        cases okb with
        | false =>
         rw [hu2 rfl] at cl
         dsimp only at cl
         refine And.intro rfl ?_
         refine And.intro ⟨rfl,allOne4 rfl rfl rfl rfl⟩ ?_
         refine And.intro (Nat.le_refl 4) ?_
         refine ⟨_,lay_all rfl,?_⟩
         exact ret_ct (l := z4) rfl rfl rfl rfl rfl rfl (hK1 cl z4 _ rfl (allOne4 rfl rfl rfl rfl) (by (try dsimp only [St.set,CS,CH]); (repeat (first | exact out_refl | refine out_upd ?_ (by decide)))))
        | true =>
         rw [hu1 rfl] at cl
         dsimp only at cl
         refine cond_split (fun h => ?_) (fun h => ?_)
         ·have hlt2 : (high.toNat : Int) < low.toNat := of_decide_eq_true h
          rw [if_pos (by omega)] at cl
          dsimp only at cl
          refine And.intro rfl ?_
          refine And.intro ⟨rfl,allOne4 rfl rfl rfl rfl⟩ ?_
          refine And.intro (Nat.le_refl 4) ?_
          refine ⟨_,lay_all rfl,?_⟩
          exact ret_ct (l := z4) rfl rfl rfl rfl rfl rfl (hK1 cl z4 _ rfl (allOne4 rfl rfl rfl rfl) (by (try dsimp only [St.set,CS,CH]); (repeat (first | exact out_refl | refine out_upd ?_ (by decide)))))
         ·have hlt2 : ¬ (high.toNat : Int) < low.toNat := of_decide_eq_false h
          have hh := high.toNat_lt
          have hl := low.toNat_lt
          rw [if_neg (by omega)] at cl
          rw [items_fuel s.length (s.length + 1) _ _ _ (by rw [List.length_drop]; omega) (by rw [List.length_drop]; omega)] at cl
          refine And.intro ⟨by omega,by omega⟩ ?_
          refine ⟨Nat,fun b => low.toNat ≤ b ∧ b ≤ high.toNat + 1,fun b => ⟨mk [(0,.ref 4 0),(2,.ref 6 0),(4,.ref 7 0),(7,.ref 8 0),(8,.int .i64 n),(13,.int .u8 high.toNat),(18,.int .i64 b)],CH R s q2 (tabAt tab low.toNat b) neg,9⟩,
           fun b => 300 - b,low.toNat,⟨Nat.le_refl _,by omega⟩,?_,?_⟩
          ·dsimp only
           rw [tabAt_start ht]
           exact sub_to ⟨rfl,rfl,rfl,rfl,rfl,rfl,rfl,trivial⟩ rfl (Nat.le_refl 9)
          ·rintro b ⟨hb1,hb2⟩
           refine And.intro ⟨by omega,by omega⟩ ?_
           refine cond_split (fun h => ?_) (fun h => ?_)
           ·have hT : (b : Int) ≤ high.toNat := of_decide_eq_true h
            refine And.intro ⟨by omega,by omega⟩ ?_
            refine And.intro (show 0 + (b : Int).toNat * 1 < (boos (tabAt tab low.toNat b)).length by rw [boos_length,tabAt_len]; omega) ?_
            refine And.intro (by omega) ?_
            refine ⟨b + 1,⟨by omega,by omega⟩,by dsimp only; omega,sub_to ⟨rfl,rfl,rfl,rfl,rfl,rfl,congrArg some (eI (by omega)),trivial⟩ ?_ (Nat.le_refl 9)⟩
            refine heap_is [4,6,7,8] R (by (try dsimp only [St.set,CS,CH]); (repeat (first | exact out_refl | refine out_upd ?_ (by decide)))) (by (try dsimp only [St.set,CS,CH]); (repeat (first | exact out_refl | refine out_upd ?_ (by decide)))) ⟨rfl,rfl,?_,rfl,trivial⟩
            show some (AO.cl false ((boos (tabAt tab low.toNat b)).set (0 + (b : Int).toNat * 1) (.bool true))) = some (AO.cl false (boos (tabAt tab low.toNat (b + 1))))
            have e0 : 0 + (b : Int).toNat * 1 = b := by omega
            rw [e0,boos_set,tabAt_step hb1]
           ·have hF : ¬ (b : Int) ≤ high.toNat := of_decide_eq_false h
            have : b = high.toNat + 1 := by omega
            subst this
            refine And.intro (by omega) ?_
            refine ⟨(q2,setR tab low.toNat high.toNat,n + 1),⟨hq2,setR_len _ _ _,by dsimp only; omega,?_⟩,by dsimp only; omega,sub_to ⟨rfl,rfl,rfl,rfl,congrArg some (eI (by dsimp only; omega)),trivial⟩ ?_ (Nat.le_refl 9)⟩
            ·rw [hi,it,hb]
             dsimp only
             rw [← hq,hu1 rfl]
             dsimp only
             rw [if_neg (by omega),items_fuel s.length (s.length + 1) _ _ _ (by rw [List.length_drop]; omega) (by rw [List.length_drop]; omega)]
            ·show CH R s q2 (tabAt tab low.toNat (high.toNat + 1)) neg = CH R s q2 (setR tab low.toNat high.toNat) neg
             rw [tabAt_end]
   ·refine t_peek_none (s := s) (a := p) (d := 0) (by decide) (by omega) hlt rfl ?_
    rw [hi,it_end hlt] at cl
    dsimp only at cl
    refine ⟨_,rfl,?_⟩
    refine ⟨_,rfl,?_⟩
    refine And.intro rfl ?_
    refine And.intro ⟨rfl,allOne4 rfl rfl rfl rfl⟩ ?_
    refine And.intro (Nat.le_refl 4) ?_
    refine ⟨_,lay_all rfl,?_⟩
    exact ret_ct (l := z4) rfl rfl rfl rfl rfl rfl (hK1 cl z4 _ rfl (allOne4 rfl rfl rfl rfl) (by (try dsimp only [St.set,CS,CH]); (repeat (first | exact out_refl | refine out_upd ?_ (by decide)))))

end Qk

/-
  Chapter 32: the parser reads an element.
-/
namespace Qk
open Go Go.RowKit

theorem t_class {H : Heap} {K : AV → Heap → Nat → Prop} {s : List UInt8} {a : Nat} (ha : a ≤ s.length) (hs : s.length ≤ 1000000000) (hH : H 4 = some (PA s a))
  (hK1 : classL (s.drop a) = none → ∀ r H',r.length = 4 → AllOne r → OutOf [4,6,7,8] H' H → K (.tup [.agg r,.bool false]) H' 9)
  (hK2 : ∀ neg tab rest,classL (s.drop a) = some (.cls neg tab,rest) → tab.length = 256 → rest.length ≤ s.length → K (.tup [.agg classC,.bool true]) (upd (CH H s (s.length - rest.length) tab neg) 6 (some (.cl false classC))) 9) :
  H___quilt_glob_parser__class [.ref 4 0] H 6 K := by
 rw [← upd_id hH]
 exact t_class' ha hs hK1 hK2

def SubOn (H H' : Heap) : List Nat → Prop
 | [] => True
 | k :: ks => (H' k = none ∨ H k = H' k) ∧ SubOn H H' ks
theorem SubOn.get {H H' : Heap} : ∀ {ks : List Nat},SubOn H H' ks → ∀ k ∈ ks,H' k = none ∨ H k = H' k
 | [],_,_,h => by cases h
 | j :: ks,h,k,hk => by
  rcases List.mem_cons.1 hk with rfl | hk
  ·exact h.1
  ·exact SubOn.get h.2 k hk
theorem heap_sub (ks : List Nat) {H H' : Heap} (R : Heap) (h : OutOf ks H R) (h' : OutOf ks H' R) (he : SubOn H H' ks) : ∀ n o,H' n = some o → H n = some o := by
 intro k o e
 by_cases hk : k ∈ ks
 ·rcases he.get k hk with e2 | e2
  ·rw [e2] at e; cases e
  ·rw [e2,e]
 ·rw [h k hk,← h' k hk,e]
theorem ret_ct2 {m a b n : Nat} {K : AV → Heap → Nat → Prop} {S : St} {l : List AV} {vb : AV} {H : Heap} {nx : Nat} (ha : S.env a = some (.ref n 0)) (hl : H n = some (.cl false l)) (h4 : l.length = 4) (hb : S.env b = some vb)
  (hh : ∀ n o,H n = some o → S.heap n = some o) (hn : S.next ≤ nx) (hk : K (.tup [.agg l,vb]) H nx) : retH m [.cell a true 4,.tmp b] K .ret S := by
 refine ⟨⟨S.env,H,nx⟩,sub_forget (fun _ _ h => h) hh hn,?_⟩
 simp only [resK,rvs,rv,ha,hb,hl]
 exact ⟨l,⟨by rw [List.drop_zero,List.take_of_length_le (by omega)],h4,Nat.zero_le _⟩,hk⟩

/-- An element just read. -/
def preA : El → List AV
 | .star => [.bool true,.bool false,.int .u8 0,.raw .nilFunc]
 | .any => [.bool false,.bool false,.int .u8 0,.clo (1000000 + 101) []]
 | .lit c => [.bool false,.bool true,.int .u8 c.toNat,.clo 2 [.ref 6 0]]
 | .cls _ _ => classC
def x6 : El → Option AO
 | .lit c => some (.cl false [.int .u8 c.toNat])
 | _ => none
def x7 : El → Option AO
 | .cls _ tab => some (.cl false (boos tab))
 | _ => none
def x8 : El → Option AO
 | .cls neg _ => some (.cl false [.bool neg])
 | _ => none
def OH (R : Heap) (s : List UInt8) (a : Nat) (e : El) : Heap := upd (upd (upd (upd (upd R 4 (some (PA s a))) 5 (some (.cl false (preA e)))) 6 (x6 e)) 7 (x7 e)) 8 (x8 e)

theorem el_at {s : List UInt8} {a : Nat} (h : a < s.length) : elL (s.drop a) = if s.getD a 0 == 42 then some (.star,s.drop (a + 1)) else if s.getD a 0 == 63 then some (.any,s.drop (a + 1)) else if s.getD a 0 == 91 then classL (s.drop (a + 1)) else
  match byte1 (s.drop a) with
  | none => none
  | some (d,n) => some (.lit d,s.drop (a + n)) := by
 conv => lhs; rw [drop_cons h]
 simp only [elL]
 rw [← drop_cons h]
 cases byte1 (s.drop a) with
 | none => rfl
 | some x => obtain ⟨d,n⟩ := x; simp only [List.drop_drop]

set_option maxRecDepth 4000 in
set_option maxHeartbeats 1000000 in
theorem t_one' {R : Heap} {K : AV → Heap → Nat → Prop} {s : List UInt8} {a : Nat} (ha : a < s.length) (hs : s.length ≤ 1000000000)
  (hK1 : elL (s.drop a) = none → ∀ r H',r.length = 4 → AllOne r → OutOf [4,5,6,7,8] H' R → K (.tup [.agg r,.bool false]) H' 9)
  (hK2 : ∀ e rest,elL (s.drop a) = some (e,rest) → e.wf → rest.length < s.length - a → K (.tup [.agg (preA e),.bool true]) (OH R s (s.length - rest.length) e) 9) :
  H___quilt_glob_parser__one [.ref 4 0] (upd R 4 (some (PA s a))) 5 K := by
 have el := el_at ha
 have d42 : decide (((s.getD (a : Int).toNat 0).toNat : Int) = ((42 : Nat) : Int)) = (s.getD a 0 == 42) := by rw [Int.toNat_natCast,dec_u8k _ 42 (by decide)]; rfl
 have d63 : decide (((s.getD (a : Int).toNat 0).toNat : Int) = ((63 : Nat) : Int)) = (s.getD a 0 == 63) := by rw [Int.toNat_natCast,dec_u8k _ 63 (by decide)]; rfl
 have d91 : decide (((s.getD (a : Int).toNat 0).toNat : Int) = ((91 : Nat) : Int)) = (s.getD a 0 == 91) := by rw [Int.toNat_natCast,dec_u8k _ 91 (by decide)]; rfl
 have el1 : s.length - (s.drop (a + 1)).length = a + 1 := by rw [List.length_drop]; omega
 refine And.intro rfl ?_
 refine ⟨_,rfl,?_⟩
 refine ⟨_,rfl,?_⟩
 refine And.intro ⟨by omega,by omega⟩ ?_
 refine cond_split (fun h => ?_) (fun h => ?_)
 ·have hc : (s.getD a 0 == 42) = true := by rw [← d42]; exact h
  rw [hc,if_pos rfl] at el
  refine ⟨_,rfl,?_⟩
  refine And.intro (by omega) ?_
  refine And.intro (show 1 < 2 by decide) ?_
  refine And.intro rfl ?_
  refine And.intro ⟨rfl,allOne4 rfl rfl rfl rfl⟩ ?_
  refine And.intro (Nat.le_refl 4) ?_
  refine ⟨_,lay_all rfl,?_⟩
  have hk := hK2 _ _ el trivial (by rw [List.length_drop]; omega)
  rw [el1] at hk
  refine ret_ct2 (l := preA .star) rfl rfl rfl rfl ?_ (show 6 ≤ 9 by decide) hk
  exact heap_sub [4,5,6,7,8] R (by (try dsimp only [St.set,OH,CH]); (repeat (first | exact out_refl | refine out_upd ?_ (by decide)))) (by (try dsimp only [St.set,OH,CH]); (repeat (first | exact out_refl | refine out_upd ?_ (by decide)))) ⟨.inr rfl,.inr rfl,.inl rfl,.inl rfl,.inl rfl,trivial⟩
 ·have hc : (s.getD a 0 == 42) = false := by rw [← d42]; exact h
  rw [hc,if_neg (by decide)] at el
  refine cond_split (fun h => ?_) (fun h => ?_)
  ·have hc : (s.getD a 0 == 63) = true := by rw [← d63]; exact h
   rw [hc,if_pos rfl] at el
   refine ⟨_,rfl,?_⟩
   refine And.intro (by omega) ?_
   refine And.intro (show 1 < 2 by decide) ?_
   refine And.intro rfl ?_
   refine And.intro ⟨rfl,allOne4 rfl rfl rfl rfl⟩ ?_
   refine And.intro (Nat.le_refl 4) ?_
   refine ⟨_,lay_all rfl,?_⟩
   have hk := hK2 _ _ el trivial (by rw [List.length_drop]; omega)
   rw [el1] at hk
   refine ret_ct2 (l := preA .any) rfl rfl rfl rfl ?_ (show 6 ≤ 9 by decide) hk
   exact heap_sub [4,5,6,7,8] R (by (try dsimp only [St.set,OH,CH]); (repeat (first | exact out_refl | refine out_upd ?_ (by decide)))) (by (try dsimp only [St.set,OH,CH]); (repeat (first | exact out_refl | refine out_upd ?_ (by decide)))) ⟨.inr rfl,.inr rfl,.inl rfl,.inl rfl,.inl rfl,trivial⟩
  ·have hc : (s.getD a 0 == 63) = false := by rw [← d63]; exact h
   rw [hc,if_neg (by decide)] at el
   refine cond_split (fun h => ?_) (fun h => ?_)
   ·have hc : (s.getD a 0 == 91) = true := by rw [← d91]; exact h
    rw [hc,if_pos rfl] at el
    refine jn_plain ?_
    refine ⟨_,rfl,?_⟩
    refine And.intro (by omega) ?_
    refine And.intro (show 1 < 2 by decide) ?_
    refine t_class (s := s) (a := a + 1) (by omega) hs rfl ?_ ?_
    ·intro h1 r H' hr hr2 hO
     refine ⟨_,rfl,?_⟩
     refine ⟨_,rfl,?_⟩
     have e5 : H' 5 = some (.cl false z4) := hO 5 (by decide)
     rw [← upd_id e5]
     refine And.intro ⟨hr,hr2⟩ ?_
     refine And.intro (Nat.le_refl 4) ?_
     refine ⟨r,?_,?_⟩
     ·simp [lay,z4,hr]
     rw [h1] at el
     refine ret_ct2 (l := r) rfl rfl hr rfl (fun _ _ h => h) (show 9 ≤ 9 by decide) (hK1 el r _ hr hr2 ?_)
     intro k hk
     have e : Nat.beq k 5 = false := by
      cases e : Nat.beq k 5 with
      | false => rfl
      | true => rw [Nat.eq_of_beq_eq_true e] at hk; exact absurd (by decide) hk
     have e4 : Nat.beq k 4 = false := by
      cases e : Nat.beq k 4 with
      | false => rfl
      | true => rw [Nat.eq_of_beq_eq_true e] at hk; exact absurd (by decide) hk
     have h2 := hO k (fun h => hk (by revert h; simp; omega))
     simp only [St.set,upd,e,e4] at h2 ⊢
     exact h2
    ·intro neg tab rest h1 ht hrl
     refine ⟨_,rfl,?_⟩
     refine ⟨_,rfl,?_⟩
     refine And.intro ⟨rfl,allOne4 rfl rfl rfl rfl⟩ ?_
     refine And.intro (Nat.le_refl 4) ?_
     refine ⟨_,lay_all rfl,?_⟩
     rw [h1] at el
     have hk := hK2 _ _ el ht (by have := class_len h1; rw [List.length_drop] at this; omega)
     refine ret_ct2 (l := classC) rfl rfl rfl rfl ?_ (show 9 ≤ 9 by decide) hk
     exact heap_sub [4,5,6,7,8] R (by (try dsimp only [St.set,OH,CH]); (repeat (first | exact out_refl | refine out_upd ?_ (by decide)))) (by (try dsimp only [St.set,OH,CH]); (repeat (first | exact out_refl | refine out_upd ?_ (by decide)))) ⟨.inr rfl,.inr rfl,.inl rfl,.inr rfl,.inr rfl,trivial⟩
   ·have hc : (s.getD a 0 == 91) = false := by rw [← d91]; exact h
    rw [hc,if_neg (by decide)] at el
    cases hb : byte1 (s.drop a) with
    | none =>
     rw [hb] at el
     dsimp only at el
     refine t_plain_none (s := s) (a := a) (by omega) hs rfl hb ?_
     refine ⟨_,rfl,?_⟩
     refine ⟨_,rfl,?_⟩
     refine And.intro (show 0 < 1 by decide) ?_
     refine ⟨_,rfl,?_⟩
     refine And.intro rfl ?_
     refine And.intro ⟨rfl,allOne4 rfl rfl rfl rfl⟩ ?_
     refine And.intro (Nat.le_refl 4) ?_
     refine ⟨_,lay_all rfl,?_⟩
     refine ret_ct2 (l := preA (.lit 0)) rfl rfl rfl rfl (fun _ _ h => h) (show 7 ≤ 9 by decide) (hK1 el _ _ rfl (allOne4 rfl rfl rfl rfl) (by (try dsimp only [St.set,OH,CH]); (repeat (first | exact out_refl | refine out_upd ?_ (by decide)))))
    | some x =>
     obtain ⟨d,m⟩ := x
     have hm := byte1_pos hb
     rw [List.length_drop] at hm
     rw [hb] at el
     dsimp only at el
     refine t_plain_some (s := s) (a := a) (by omega) hs rfl hb ?_
     refine ⟨_,rfl,?_⟩
     refine ⟨_,rfl,?_⟩
     refine And.intro (show 0 < 1 by decide) ?_
     refine ⟨_,rfl,?_⟩
     refine And.intro rfl ?_
     refine And.intro ⟨rfl,allOne4 rfl rfl rfl rfl⟩ ?_
     refine And.intro (Nat.le_refl 4) ?_
     refine ⟨_,lay_all rfl,?_⟩
     have hk := hK2 _ _ el trivial (by rw [List.length_drop]; omega)
     have e1 : s.length - (s.drop (a + m)).length = a + m := by rw [List.length_drop]; omega
     rw [e1] at hk
     refine ret_ct2 (l := preA (.lit d)) rfl rfl rfl rfl ?_ (show 7 ≤ 9 by decide) hk
     exact heap_sub [4,5,6,7,8] R (by (try dsimp only [St.set,OH,CH]); (repeat (first | exact out_refl | refine out_upd ?_ (by decide)))) (by (try dsimp only [St.set,OH,CH]); (repeat (first | exact out_refl | refine out_upd ?_ (by decide)))) ⟨.inr rfl,.inr rfl,.inr rfl,.inl rfl,.inl rfl,trivial⟩

end Qk

/-
  Chapter 32: the parser.
-/
namespace Qk
open Go Go.RowKit

theorem t_one {H : Heap} {K : AV → Heap → Nat → Prop} {s : List UInt8} {a : Nat} (ha : a < s.length) (hs : s.length ≤ 1000000000) (hH : H 4 = some (PA s a))
  (hK1 : elL (s.drop a) = none → ∀ r H',r.length = 4 → AllOne r → OutOf [4,5,6,7,8] H' H → K (.tup [.agg r,.bool false]) H' 9)
  (hK2 : ∀ e rest,elL (s.drop a) = some (e,rest) → e.wf → rest.length < s.length - a → K (.tup [.agg (preA e),.bool true]) (OH H s (s.length - rest.length) e) 9) :
  H___quilt_glob_parser__one [.ref 4 0] H 5 K := by
 rw [← upd_id hH]
 exact t_one' ha hs hK1 hK2

theorem fzV_refl (S : St) (F : List Nat) : ∀ (v : AV),FzV S F v v
 | .ilist _ _ _ => .inl rfl
 | .agg _ => .inl rfl
 | .tup _ => .inl rfl
 | .int _ _ => rfl
 | .bool _ => rfl
 | .str _ => rfl
 | .raw _ => rfl
 | .ref _ _ => rfl
 | .sl _ _ _ => rfl
 | .vw _ _ _ _ => rfl
 | .hnd _ => rfl
 | .iref _ _ => .inl rfl
 | .sem _ => .inl rfl
 | .clo _ _ => .inl rfl
theorem fzL_refl (S : St) (F : List Nat) : ∀ (cs : List AV),FzL S F cs cs
 | [] => rfl
 | c :: cs => ⟨c,cs,rfl,fzV_refl S F c,fzL_refl S F cs⟩
theorem fzL_app {S : St} {F : List Nat} : ∀ {a b c d : List AV},FzL S F a b → FzL S F c d → FzL S F (a ++ c) (b ++ d)
 | [],_,_,_,h,h2 => by
  have : _ = [] := h
  subst this; exact h2
 | x :: a,_,_,_,h,h2 => by
  obtain ⟨d,es,rfl,h3,h4⟩ := h
  exact ⟨d,_,rfl,h3,fzL_app h4 h2⟩
theorem fzO_refl (S : St) (F : List Nat) : ∀ (o : AO),FzO S F o o
 | .cl _ cs => ⟨cs,rfl,.inl rfl⟩
 | .ls _ _ cs => ⟨cs,rfl,.inl rfl⟩
 | .opq _ => rfl

theorem elsL_fuel : ∀ (f g : Nat) (r : List UInt8),r.length ≤ f → r.length ≤ g → elsL f r = elsL g r
 | _,_,[],_,_ => by simp [elsL]
 | 0,_,_ :: _,h,_ => by simp at h
 | _ + 1,0,_ :: _,_,h => by simp at h
 | f + 1,g + 1,c :: r,h1,h2 => by
  simp only [elsL]
  split
  ·rfl
  ·rename_i e rest he
   have hl : rest.length ≤ r.length := by
    have := el_at (s := c :: r) (a := 0) (by simp)
    simp only [List.drop_zero] at this
    rw [this] at he
    split at he
    ·cases he; simp
    ·split at he
     ·cases he; simp
     ·split at he
      ·have := class_len he; simp at this; omega
      ·split at he
       ·cases he
       ·rename_i d n hb
        have := byte1_pos hb
        cases he
        simp at this ⊢; omega
   simp only [List.length_cons] at h1 h2
   rw [elsL_fuel f g rest (by omega) (by omega)]
def Suf (x r : List UInt8) : Prop := ∃ k,x = r.drop k
theorem Suf.refl (r : List UInt8) : Suf r r := ⟨0,rfl⟩
theorem Suf.trans {a b c : List UInt8} (h : Suf a b) (h2 : Suf b c) : Suf a c := by
 obtain ⟨k,rfl⟩ := h
 obtain ⟨j,rfl⟩ := h2
 exact ⟨j + k,by rw [List.drop_drop]⟩
theorem Suf.drop {r : List UInt8} (k : Nat) : Suf (r.drop k) r := ⟨k,rfl⟩
theorem Suf.tail {c : UInt8} {r : List UInt8} : Suf r (c :: r) := ⟨1,rfl⟩
theorem upto_suf {low high : UInt8} {r r3 : List UInt8} (h : upto low r = some (high,r3)) : Suf r3 r := by
 unfold upto at h
 split at h
 ·split at h
  ·split at h
   ·cases h
   ·cases h; exact (Suf.drop _).trans Suf.tail
  ·cases h; exact Suf.refl _
 ·cases h; exact Suf.refl _
theorem items_suf : ∀ {f : Nat} {tab tab' : List Bool} {n n' : Nat} {r rest : List UInt8},items f tab n r = some (tab',n',rest) → Suf rest r
 | 0,_,_,_,_,_,_,h => by simp [items] at h
 | f + 1,tab,_,n,_,[],_,h => by simp [items] at h
 | f + 1,tab,_,n,_,c :: r,_,h => by
  simp only [items] at h
  split at h
  ·cases h; exact Suf.tail
  ·split at h
   ·cases h
   ·rename_i low m hb
    split at h
    ·cases h
    ·rename_i high r3 hu
     split at h
     ·cases h
     ·exact (items_suf h).trans ((upto_suf hu).trans (Suf.drop _))
theorem class_suf {r rest : List UInt8} {e : El} (h : classL r = some (e,rest)) : Suf rest r := by
 unfold classL at h
 split at h
 ·cases h
 ·rename_i hi
  split at h
  ·cases h
   have := items_suf hi
   split at this
   ·exact this.trans (Suf.drop _)
   ·exact this
  ·cases h
theorem el_suf {s rest : List UInt8} {a : Nat} {e : El} (h : a < s.length) (he : elL (s.drop a) = some (e,rest)) : Suf rest s ∧ rest.length < s.length - a := by
 have e1 := el_at h
 rw [he] at e1
 split at e1
 ·cases e1; exact ⟨Suf.drop _,by rw [List.length_drop]; omega⟩
 ·split at e1
  ·cases e1; exact ⟨Suf.drop _,by rw [List.length_drop]; omega⟩
  ·split at e1
   ·have := class_len e1.symm
    rw [List.length_drop] at this
    exact ⟨(class_suf e1.symm).trans (Suf.drop _),by omega⟩
   ·split at e1
    ·cases e1
    ·rename_i d n hb
     have := byte1_pos hb
     rw [List.length_drop] at this
     cases e1
     exact ⟨Suf.drop _,by rw [List.length_drop]; omega⟩
theorem el_suffix {s rest : List UInt8} {a : Nat} {e : El} (h : a < s.length) (he : elL (s.drop a) = some (e,rest)) : rest = s.drop (s.length - rest.length) := by
 obtain ⟨⟨k,rfl⟩,_⟩ := el_suf h he
 by_cases hk : k ≤ s.length
 ·have : s.length - (s.drop k).length = k := by rw [List.length_drop]; omega
  rw [this]
 ·have : s.length - (s.drop k).length = s.length := by rw [List.length_drop]; omega
  rw [this,List.drop_of_length_le (by omega),List.drop_of_length_le (Nat.le_refl _)]
/-- The next element. -/
theorem els_step {s : List UInt8} {a : Nat} (h : a < s.length) : elsL s.length (s.drop a) = match elL (s.drop a) with
  | none => none
  | some (e,rest) => match elsL s.length rest with
   | none => none
   | some l => some (e :: l) := by
 obtain ⟨f,hl⟩ : ∃ f,s.length = f + 1 := ⟨s.length - 1,by omega⟩
 rw [hl]
 conv => lhs; rw [drop_cons h]
 simp only [elsL]
 rw [← drop_cons h]
 cases he : elL (s.drop a) with
 | none => rfl
 | some x =>
  obtain ⟨e,rest⟩ := x
  dsimp only
  have hr := (el_suf h he).2
  rw [elsL_fuel f (f + 1) rest (by omega) (by omega)] <;> (cases elsL (f + 1) rest <;> rfl)
theorem els_end {s : List UInt8} {a : Nat} (h : ¬ a < s.length) : elsL s.length (s.drop a) = some [] := by
 rw [List.drop_of_length_le (by omega)]
 simp [elsL]

end Qk

/-
  Chapter 32: the parser of globs.
-/
namespace Qk
open Go Go.RowKit

theorem preA_four (e : El) : ∃ p0 p1 p2 p3,preA e = [p0,p1,p2,p3] ∧ p0.isOne = true ∧ p1.isOne = true ∧ p2.isOne = true ∧ p3.isOne = true := by
 cases e <;> exact ⟨_,_,_,_,rfl,rfl,rfl,rfl,rfl⟩
theorem fz_el {S : St} {e : El} (h6 : S.heap 6 = x6 e) (h7 : S.heap 7 = x7 e) (h8 : S.heap 8 = x8 e) : FzL S [6,7,8] (elA e) (preA e) := by
 cases e with
 | star => exact fzL_refl _ _ _
 | any => exact fzL_refl _ _ _
 | lit c =>
  refine ⟨_,_,rfl,rfl,_,_,rfl,rfl,_,_,rfl,rfl,_,_,rfl,.inr ⟨_,rfl,?_⟩,rfl⟩
  exact ⟨_,_,rfl,.inr ⟨6,false,rfl,by decide,h6,nnl_one (plain_int _ _).nn⟩,rfl⟩
 | cls neg tab =>
  refine ⟨_,_,rfl,rfl,_,_,rfl,rfl,_,_,rfl,rfl,_,_,rfl,.inr ⟨_,rfl,?_⟩,rfl⟩
  exact ⟨_,_,rfl,.inr ⟨7,false,rfl,by decide,h7,nnl_boos _⟩,_,_,rfl,.inr ⟨8,false,rfl,by decide,h8,nnl_one (plain_bool _).nn⟩,rfl⟩

theorem allOne2 {a b : AV} (h1 : a.isOne = true) (h2 : b.isOne = true) : AllOne [a,b] := by
 intro x hx
 simp only [List.mem_cons,List.not_mem_nil,or_false] at hx
 rcases hx with rfl | rfl <;> assumption
theorem splitS_le : ∀ (g : List UInt8),(∀ s ∈ splitS g,s.length ≤ g.length) ∧ (splitS g).length ≤ g.length + 1
 | [] => ⟨by intro s hs; simp [splitS] at hs; subst hs; simp,by simp [splitS]⟩
 | c :: r => by
  obtain ⟨h1,h2⟩ := splitS_le r
  rw [splitS]
  split
  ·exact ⟨by intro s hs; rcases List.mem_cons.1 hs with rfl | hs; exact Nat.zero_le _; have := h1 s hs; simp; omega,by simp; omega⟩
  ·split
   ·rename_i p ps hp
    rw [hp] at h1 h2
    refine ⟨?_,by simp at h2 ⊢; omega⟩
    intro s hs
    rcases List.mem_cons.1 hs with rfl | hs
    ·have := h1 p (by simp); simp; omega
    ·have := h1 s (by simp [hs]); simp; omega
   ·exact ⟨by intro s hs; simp at hs; subst hs; simp,by simp⟩
/-- What the parser of globs knows of the strings that are left. -/
def leftC (done : List Comp) (ps : List (List UInt8)) : Option (List Comp) := match compsL ps with
 | none => none
 | some l => some (done ++ l)
theorem leftC_step {done : List Comp} {s : List UInt8} {ps : List (List UInt8)} : leftC done (s :: ps) = match compL s with
  | none => none
  | some c => leftC (done ++ [c]) ps := by
 unfold leftC
 simp only [compsL]
 cases compL s with
 | none => rfl
 | some c =>
  dsimp only
  cases compsL ps with
  | none => rfl
  | some l => simp
def leftE (done : List El) (s : List UInt8) (a : Nat) : Option (List El) := match elsL s.length (s.drop a) with
 | none => none
 | some l => some (done ++ l)

def PH (done : List Comp) (ps : List (List UInt8)) (any : Bool) (els : List El) (s : List UInt8) (a : Nat) : List (Nat × AO) :=
 [(0,.ls false 2 (flatC done)),(1,.ls false 1 (strs ps)),(2,.cl false [.bool any,.sl 3 0 els.length]),(3,.ls false 4 (flatE els)),(4,PA s a)]

theorem flatE_app (l : List El) (e : El) : flatE (l ++ [e]) = flatE l ++ elA e := by simp [flatE]
theorem flatC_app (l : List Comp) (c : Comp) : flatC (l ++ [c]) = flatC l ++ cpA c := by simp [flatC]

set_option maxRecDepth 4000 in
set_option maxHeartbeats 1000000 in
theorem d_parse : Does ir_glob_parse C_glob_parse := by
 intro (g : List UInt8) hg
 replace hg : g.length ≤ 1000000000 := hg
 refine cond_split (fun h => ?_) (fun h => ?_)
 ·have hT : (200 : Int) < g.length := of_decide_eq_true h
  refine ⟨_,(by first | exact SubSt.refl _ | exact SubTop.refl _),?_⟩
  show AV.tup [.raw (.slice none 0 0),.int .i64 4] = parseA (parseR g)
  have : parseR g = ([],4) := by unfold parseR; rw [if_pos (by omega)]
  rw [this]; rfl
 ·have hF : ¬ ((200 : Int) < g.length) := of_decide_eq_false h
  have hR : parseR g = match leftC [] (splitS g) with | none => ([],3) | some l => (l,0) := by
   unfold parseR leftC
   rw [if_neg (by omega)]
   cases compsL (splitS g) <;> rfl
  obtain ⟨ps,hps⟩ : ∃ ps,ps = splitS g := ⟨_,rfl⟩
  have hsum : ∀ s ∈ splitS g,s.length ≤ g.length := (splitS_le g).1
  have hcnt : (splitS g).length ≤ g.length + 1 := (splitS_le g).2
  rw [← hps] at hR hsum hcnt
  refine jn_to ?_
  refine ⟨_,sub_nilE 4 false 2 rfl,?_⟩
  refine ⟨g,rfl,hg,?_⟩
  refine ⟨Nat × List Comp,fun x => x.1 ≤ ps.length ∧ x.2.length = x.1 ∧ (∀ c ∈ x.2,okEs c.els) ∧ leftC [] ps = leftC x.2 (ps.drop x.1),
   fun x => mks [(4,.sl 0 0 x.2.length),(15,.sl 1 0 ps.length),(16,.int .i64 ps.length),(17,.int .i64 x.1)] [(0,.ls false 2 (flatC x.2)),(1,.ls false 1 (strs ps))] 2,
   fun x => ps.length - x.1,(0,[]),⟨by omega,rfl,(fun c hc => by cases hc),rfl⟩,?_,?_⟩
  ·refine sub_ren [0,1] rfl (by decide) ⟨⟨_,rfl,⟨0,rfl,rfl⟩⟩,⟨_,rfl,⟨1,rfl,eSl ?_⟩⟩,⟨_,rfl,eI ?_⟩,⟨_,rfl,rfl⟩,trivial⟩ ⟨⟨0,_,rfl,rfl,?_⟩,⟨1,_,rfl,rfl,?_⟩,trivial⟩
   ·show (splitS g).length = _; rw [hps]
   ·show (((splitS g).length : Nat) : Int) = _; rw [hps]
   ·exact ⟨_,rfl,eN nnl_nil rfl⟩
   ·exact ⟨_,rfl,eN (nnl_strs _) (by rw [hps]; rfl)⟩
  ·rintro ⟨i,done⟩ ⟨hi,hdn,hok,hlf⟩
   dsimp only at hi hdn hok hlf
   refine cond_split (fun h => ?_) (fun h => ?_)
   ·have hT : (i : Int) < ps.length := of_decide_eq_true h
    have hlt : i < ps.length := by omega
    obtain ⟨s,hs⟩ : ∃ s,s = ps[i]'hlt := ⟨_,rfl⟩
    have hsl : s.length ≤ 1000000000 := by
     have := hsum s (by rw [hs]; exact List.getElem_mem _); omega
    have hdr : ps.drop i = s :: ps.drop (i + 1) := by rw [List.drop_eq_getElem_cons hlt,hs]
    rw [hdr,leftC_step] at hlf
    refine And.intro ⟨rfl,by omega,by omega⟩ ?_
    refine ⟨.str s,?_,?_⟩
    ·have e0 : (0 + (i : Int).toNat) * 1 = i := by omega
     dsimp only
     rw [e0,strs_get hlt,List.getD,List.getElem?_eq_getElem hlt,hs]; rfl
    refine cond_split (fun h => ?_) (fun h => ?_)
    ·have he : s = [] := of_decide_eq_true h
     have hc : compL s = none := by rw [he]; rfl
     rw [hc] at hlf
     rw [hlf] at hR
     refine ⟨_,(by first | exact SubSt.refl _ | exact SubTop.refl _),?_⟩
     show AV.tup [.raw (.slice none 0 0),.int .i64 3] = parseA (parseR g)
     rw [hR]; rfl
    ·have hne : ¬ s = [] := of_decide_eq_false h
     obtain ⟨any,hany⟩ : ∃ any,any = decide (s = [42,42]) := ⟨_,rfl⟩
     refine And.intro rfl ?_
     refine And.intro ⟨rfl,allOne2 rfl rfl⟩ ?_
     refine And.intro (Nat.le_refl 2) ?_
     refine ⟨_,lay_all rfl,?_⟩
     refine jn_to ?_
     refine And.intro rfl ?_
     refine ⟨_,sub_nil 2 1 false 4 rfl rfl,?_⟩
     have hcomp : compL s = if any = true then some ⟨true,[]⟩ else (match leftE [] s 0 with | none => none | some l => some ⟨false,l⟩) := by
      unfold compL leftE
      rw [hany]
      by_cases h42 : s = [42,42]
      ·rw [if_pos h42,if_pos (by simpa using h42)]
      ·rw [if_neg h42,if_neg hne,if_neg (by simpa using h42),List.drop_zero]
       cases elsL s.length s <;> rfl
     refine ⟨Nat × List El,fun x => x.1 ≤ s.length ∧ x.2.length ≤ x.1 ∧ (∀ e ∈ x.2,e.wf) ∧ (any = true → x = (0,[])) ∧ leftE [] s 0 = leftE x.2 s x.1,
      fun x => mks [(4,.sl 0 0 done.length),(6,.str s),(7,.ref 2 0),(8,.ref 4 0),(15,.sl 1 0 ps.length),(16,.int .i64 ps.length),(17,.int .i64 i)] (PH done ps any x.2 s x.1) 5,
      fun x => s.length - x.1,(0,[]),⟨by omega,Nat.le_refl _,(fun c hc => by cases hc),fun _ => rfl,rfl⟩,?_,?_⟩
     ·refine sub_ren [0,1,2,4,3] rfl (by decide) ⟨⟨_,rfl,⟨0,rfl,rfl⟩⟩,⟨_,rfl,rfl⟩,⟨_,rfl,⟨2,rfl,rfl⟩⟩,⟨_,rfl,⟨3,rfl,rfl⟩⟩,⟨_,rfl,⟨1,rfl,rfl⟩⟩,⟨_,rfl,rfl⟩,⟨_,rfl,rfl⟩,trivial⟩ ⟨⟨0,_,rfl,rfl,?_⟩,⟨1,_,rfl,rfl,?_⟩,⟨2,_,rfl,rfl,?_⟩,⟨4,_,rfl,rfl,?_⟩,⟨3,_,rfl,rfl,?_⟩,trivial⟩
      ·exact ⟨_,rfl,eN (nnl_flatC _) rfl⟩
      ·exact ⟨_,rfl,eN (nnl_strs _) rfl⟩
      ·rw [hany]
       exact ⟨_,rfl,.inr ⟨_,_,rfl,rfl,_,_,rfl,⟨4,rfl,rfl⟩,rfl⟩⟩
      ·exact ⟨_,rfl,eN nnl_nil rfl⟩
      ·exact ⟨_,rfl,eN (nnl_cons (plain_str _).nn (nnl_one (plain_int _ _).nn)) rfl⟩
     ·rintro ⟨a,els⟩ ⟨ha,hel,hwf,hax,hle⟩
      dsimp only at ha hel hwf hax hle
      refine jn_at (fun _ : Unit => mks [(4,.sl 0 0 done.length),(6,.str s),(7,.ref 2 0),(8,.ref 4 0),(15,.sl 1 0 ps.length),(16,.int .i64 ps.length),(17,.int .i64 i),(40,.bool (decide (a < s.length) && !any))] (PH done ps any els s a) 5) (fun _ => True) ?_ ?_
      ·refine ⟨_,rfl,?_⟩
       by_cases hal : a < s.length
       ·have hb : decide ((a : Int) < s.length) = true := by simp; omega
        iterate 2 (refine cond_t hb ?_)
        refine ⟨_,rfl,?_⟩
        iterate 1 (refine cond_t hb ?_)
        refine ⟨(),trivial,sub_to ⟨rfl,rfl,rfl,rfl,rfl,rfl,rfl,congrArg some (eBo ?_),trivial⟩ rfl (Nat.le_refl 5)⟩
        show cond (decide ((a : Int) < s.length)) (!any) false = _
        rw [hb,decide_eq_true hal]; rfl
       ·have hb : decide ((a : Int) < s.length) = false := by simp; omega
        iterate 4 (refine cond_f hb ?_)
        refine ⟨(),trivial,sub_to ⟨rfl,rfl,rfl,rfl,rfl,rfl,rfl,congrArg some (eBo ?_),trivial⟩ rfl (Nat.le_refl 5)⟩
        rw [decide_eq_false hal]; rfl
      ·rintro _ _
       refine cond_split (fun h => ?_) (fun h => ?_)
       ·have h' : (decide (a < s.length) && !any) = true := h
        rw [Bool.and_eq_true] at h'
        have hal : a < s.length := of_decide_eq_true h'.1
        have hna : any = false := by simpa using h'.2
        rw [hna,if_neg (by decide)] at hcomp
        have hst : leftE els s a = match elL (s.drop a) with
          | none => none
          | some (e,rest) => match elsL s.length rest with
           | none => none
           | some l => some (els ++ e :: l) := by
         unfold leftE
         rw [els_step hal]
         cases elL (s.drop a) with
         | none => rfl
         | some x =>
          obtain ⟨e,rest⟩ := x
          dsimp only
          cases elsL s.length rest <;> rfl
        refine t_one (s := s) (a := a) hal hsl rfl ?_ ?_
        ·intro hE r H' hr hr2 hO
         refine ⟨_,rfl,?_⟩
         refine ⟨_,rfl,?_⟩
         refine And.intro ⟨hr,hr2⟩ ?_
         refine And.intro (Nat.le_refl 4) ?_
         refine ⟨_,rfl,?_⟩
         rw [hle,hst,hE] at hcomp
         rw [hcomp] at hlf
         rw [hlf] at hR
         refine ⟨_,(by first | exact SubSt.refl _ | exact SubTop.refl _),?_⟩
         show AV.tup [.raw (.slice none 0 0),.int .i64 3] = parseA (parseR g)
         rw [hR]; rfl
        ·intro e rest hE hew hrl
         obtain ⟨p0,p1,p2,p3,hp,o0,o1,o2,o3⟩ := preA_four e
         rw [hp]
         refine ⟨_,rfl,?_⟩
         refine ⟨_,rfl,?_⟩
         refine And.intro ⟨rfl,allOne4 o0 o1 o2 o3⟩ ?_
         refine And.intro (Nat.le_refl 4) ?_
         refine ⟨_,lay_all rfl,?_⟩
         refine jnT_to ⟨rfl,rfl⟩ ?_
         refine ⟨_,rfl,?_⟩
         refine ⟨[p0,p1,p2,p3],⟨rfl,rfl⟩,?_⟩
         have lE := flatE_len els
         refine And.intro ⟨(show (3 : Nat) ≠ 10 by decide),rfl,rfl,rfl,lE,(show (0 + 1) * 4 ≤ 4 by decide),allOne4 o0 o1 o2 o3,by omega⟩ ?_
         refine ⟨flatE els ++ [p0,p1,p2,p3],rfl,?_⟩
         refine And.intro (show 0 + 1 < 2 by decide) ?_
         refine ⟨_,sub_frz [6,7,8] (env := [(4,.sl 0 0 done.length),(6,.str s),(7,.ref 2 0),(8,.ref 4 0),(15,.sl 1 0 ps.length),(16,.int .i64 ps.length),(17,.int .i64 i)])
          (heap := [(0,.ls false 2 (flatC done)),(1,.ls false 1 (strs ps)),(2,.cl false [.bool any,.sl 11 0 (els.length + 1)]),(11,.ls false 4 (flatE els ++ elA e)),(4,PA s (s.length - rest.length))]) (nx := 12) ?_ ?_ (Nat.le_refl 12),?_⟩
         ·exact ⟨⟨_,rfl,fzV_refl _ _ _⟩,⟨_,rfl,fzV_refl _ _ _⟩,⟨_,rfl,fzV_refl _ _ _⟩,⟨_,rfl,fzV_refl _ _ _⟩,⟨_,rfl,fzV_refl _ _ _⟩,⟨_,rfl,fzV_refl _ _ _⟩,⟨_,rfl,fzV_refl _ _ _⟩,trivial⟩
         ·refine ⟨⟨by decide,_,rfl,fzO_refl _ _ _⟩,⟨by decide,_,rfl,fzO_refl _ _ _⟩,⟨by decide,_,rfl,fzO_refl _ _ _⟩,⟨by decide,_,rfl,_,rfl,.inr (fzL_app (fzL_refl _ _ _) ?_)⟩,⟨by decide,_,rfl,fzO_refl _ _ _⟩,trivial⟩
          rw [← hp]
          exact fz_el rfl rfl rfl
         ·have suf := el_suffix hal hE
          refine ⟨(s.length - rest.length,els ++ [e]),⟨by dsimp only; omega,by dsimp only; rw [List.length_append,List.length_singleton]; omega,?_,(fun h => by rw [hna] at h; cases h),?_⟩,by dsimp only; omega,?_⟩
          ·intro e' he'
           rcases List.mem_append.1 he' with h | h
           ·exact hwf e' h
           ·rw [List.mem_singleton.1 h]; exact hew
          ·rw [hle,hst,hE]
           unfold leftE
           dsimp only
           rw [← suf]
           cases elsL s.length rest <;> simp
          ·refine sub_ren [0,1,2,11,4] rfl (by decide) ⟨⟨_,rfl,⟨0,rfl,rfl⟩⟩,⟨_,rfl,rfl⟩,⟨_,rfl,⟨2,rfl,rfl⟩⟩,⟨_,rfl,⟨4,rfl,rfl⟩⟩,⟨_,rfl,⟨1,rfl,rfl⟩⟩,⟨_,rfl,rfl⟩,⟨_,rfl,rfl⟩,trivial⟩ ⟨⟨0,_,rfl,rfl,?_⟩,⟨1,_,rfl,rfl,?_⟩,⟨2,_,rfl,rfl,?_⟩,⟨11,_,rfl,rfl,?_⟩,⟨4,_,rfl,rfl,?_⟩,trivial⟩
           ·exact ⟨_,rfl,eN (nnl_flatC _) rfl⟩
           ·exact ⟨_,rfl,eN (nnl_strs _) rfl⟩
           ·exact ⟨_,rfl,.inr ⟨_,_,rfl,rfl,_,_,rfl,⟨11,rfl,eSl (by dsimp only; rw [List.length_append,List.length_singleton])⟩,rfl⟩⟩
           ·exact ⟨_,rfl,eN (nnl_flatE _) (flatE_app _ _).symm⟩
           ·exact ⟨_,rfl,eN (nnl_cons (plain_str _).nn (nnl_one (plain_int _ _).nn)) rfl⟩
       ·have h' : (decide (a < s.length) && !any) = false := h
        have hc : compL s = some ⟨any,els⟩ := by
         rw [hcomp]
         cases any with
         | true =>
          have := hax rfl
          cases this
          rfl
         | false =>
          have hal : ¬ a < s.length := by
           intro h2
           rw [decide_eq_true h2] at h'
           cases h'
          rw [if_neg (by decide),hle]
          unfold leftE
          rw [els_end hal]
          simp
        rw [hc] at hlf
        dsimp only at hlf
        have lC := flatC_len done
        have lE := flatE_len els
        refine jnT_to ⟨rfl,rfl⟩ ?_
        refine ⟨[.bool any,.sl 3 0 els.length],⟨rfl,rfl⟩,?_⟩
        refine And.intro ⟨(show (0 : Nat) ≠ 5 by decide),rfl,rfl,rfl,lC,(show (0 + 1) * 2 ≤ 2 by decide),allOne2 rfl rfl,by omega⟩ ?_
        refine ⟨_,rfl,?_⟩
        refine ⟨_,sub_frz [3] (env := [(4,.sl 6 0 (done.length + 1)),(15,.sl 1 0 ps.length),(16,.int .i64 ps.length),(17,.int .i64 i)])
          (heap := [(6,.ls false 2 (flatC done ++ cpA ⟨any,els⟩)),(1,.ls false 1 (strs ps))]) (nx := 7) ?_ ?_ (Nat.le_refl 7),?_⟩
        ·exact ⟨⟨_,rfl,fzV_refl _ _ _⟩,⟨_,rfl,fzV_refl _ _ _⟩,⟨_,rfl,fzV_refl _ _ _⟩,⟨_,rfl,fzV_refl _ _ _⟩,trivial⟩
        ·refine ⟨⟨by decide,_,rfl,_,rfl,.inr (fzL_app (fzL_refl _ _ _) ?_)⟩,⟨by decide,_,rfl,fzO_refl _ _ _⟩,trivial⟩
         exact ⟨_,_,rfl,rfl,_,_,rfl,.inr (.inr ⟨3,0,false,flatE els,rfl,by decide,rfl,(by show (0 + els.length) * 4 ≤ _; rw [lE]; omega),(by show flatE els = ((flatE els).drop (0 * 4)).take (els.length * 4); rw [Nat.zero_mul,List.drop_zero,List.take_of_length_le (by omega)]),nnl_flatE _⟩),rfl⟩
        ·refine And.intro (by omega) ?_
         refine ⟨(i + 1,done ++ [⟨any,els⟩]),⟨by dsimp only; omega,by simp; omega,?_,hlf⟩,by dsimp only; omega,?_⟩
         ·intro c' hc'
          rcases List.mem_append.1 hc' with h | h
          ·exact hok c' h
          ·rw [List.mem_singleton.1 h]; exact ⟨hwf,by dsimp only; omega⟩
         ·refine sub_ren [6,1] rfl (by decide) ⟨⟨_,rfl,?_⟩,⟨_,rfl,⟨1,rfl,rfl⟩⟩,⟨_,rfl,rfl⟩,⟨_,rfl,eI (by omega)⟩,trivial⟩ ⟨⟨6,_,rfl,rfl,?_⟩,⟨1,_,rfl,rfl,?_⟩,trivial⟩
          ·exact ⟨6,rfl,eSl (by simp)⟩
          ·exact ⟨_,rfl,eN (nnl_flatC _) (flatC_app _ _).symm⟩
          ·exact ⟨_,rfl,eN (nnl_strs _) rfl⟩
   ·have hFi : ¬ (i : Int) < ps.length := of_decide_eq_false h
    have : i = ps.length := by omega
    have hd : ps.drop i = [] := by rw [this]; simp
    rw [hd] at hlf
    have hl2 : leftC done [] = some done := by simp [leftC,compsL]
    rw [hlf,hl2] at hR
    have lC := flatC_len done
    refine ⟨_,sub_frz [0] (env := [(2,cpsA done),(3,.int .i64 0)]) (heap := []) (nx := 2) ?_ ?_ (Nat.le_refl 2),?_⟩
    ·exact ⟨⟨_,rfl,.inr (.inr ⟨0,0,false,flatC done,rfl,by decide,rfl,by rw [lC]; omega,by rw [Nat.zero_mul,List.drop_zero,List.take_of_length_le (by omega)],nnl_flatC _⟩)⟩,⟨_,rfl,fzV_refl _ _ _⟩,trivial⟩
    ·trivial
    ·show AV.tup [cpsA done,.int .i64 0] = parseA (parseR g)
     rw [hR]; rfl

end Qk
