/-
  The executor: compilation, names, builders of strings, arguments.
-/
import Derived.Test.YtnjncjjegolojaaGreatDoorPb
import Derived.Test.YtnjncjjegolojaaGreatDoorPa
import Derived.Shelf.Strings.Builder1
import Derived.Laws.Externs
import Derived.Lib.BytesEntry
import Derived.ProofKit
import Derived.Below
import Derived.ChangeSame
import Derived.OpenShut
import Derived.Lib.Repeat

/-
  From the model's code to the executor's form, by a function.
-/
namespace Qk
open Go Go.RowKit

/-- What is known of the functions that are called. -/
structure Env where
 fn : FuncId → Option PC
 tag : FuncId → Option Nat
 clo : Nat → Option PC
 hfn : FuncId → Option HTran
 hclo : Nat → Option HTran
 it : Nat → Option ITran
 fl : FuncId → Option FC
 fb : FuncId → Option BC
 bt : TypeId
 bT : TypeId

def zs (z : Value) : List AV := z.cells.toList.map AV.ofConst

def cArr (P : Program) (t e : TypeId) (parts : Array (Nat × Operand)) : Ins :=
 match P.info? t with
 | some it => match it.zero with
  | some z => match P.info? e with
   | some i => bif P.cellsOf e == i.size then .build it.size (zs z) (parts.toList.map fun p => (p.1 * i.size,i.size,p.2)) else .panic
   | none => .panic
  | none => .panic
 | none => .panic

def szF (P : Program) (f : Field) : Option Nat := match P.info? f.type with | some i => some i.size | none => none

def cStr (P : Program) (t : TypeId) (fs : Array Field) (parts : Array (Nat × Operand)) : Ins :=
 match P.info? t with
 | some it => match it.zero with
  | some z => bif fs.toList.all (fun f => (P.info? f.type).isSome) && parts.toList.all (fun p => Nat.blt p.1 fs.size) then
    .build it.size (zs z) (parts.toList.map fun p => (((fs[p.1]?).map (·.offset)).getD 0,((fs[p.1]?).bind (szF P)).getD 0,p.2)) else .panic
  | none => .panic
 | none => .panic

def cBuild (P : Program) (t : TypeId) (parts : Array (Nat × Operand)) : Ins :=
 match P.underlying t with
 | some (.array _ e) => cArr P t e parts
 | some (.struct fs) => cStr P t fs parts
 | _ => .panic

def cBsl (P : Program) (t : TypeId) (n : Nat) (parts : Array (Nat × Operand)) : Ins :=
 match P.underlying t with
 | some (.slice e) => match P.info? e with
  | some i => match i.zero with
   | some z => bif z.cells.size == i.size && Nat.blt 0 i.size && Nat.ble (n * i.size) 16777216 then .bslice i.size (zs z) n (parts.toList.map fun p => (p.1 * i.size,i.size,p.2)) else .panic
   | none => .panic
  | none => .panic
 | _ => .panic

def cAlloc (P : Program) (E : Env) (t : TypeId) : Ins :=
 match P.info? t with
 | some i => match i.zero with
  | some z => bif Nat.beq t E.bT then .newb (zs z) else .alloc (zs z)
  | none => .panic
 | none => .panic

def cLoad (P : Program) (t : TypeId) (x : Operand) : Ins :=
 match P.underlying t with
 | some d => match P.info? t with
  | some i => bif aggOf d then .loadN i.size x else .load1 x
  | none => .panic
 | none => .panic

def cStore (P : Program) (t : TypeId) (a x : Operand) : Ins :=
 match P.underlying t with
 | some d => match P.info? t with
  | some i => bif aggOf d then (bif Nat.blt 0 i.size then .storN i.size a x else .panic) else (bif i.size == 1 then .stor1 a x else .panic)
  | none => .panic
 | none => .panic

def cEq (P : Program) (neg : Bool) (t : TypeId) (x y : Operand) : Ins :=
 match P.underlying t with
 | some .bool => .beq neg x y
 | some (.int _) => .bin (cond neg .neq .eql) x y
 | some .string => .bin (cond neg .neq .eql) x y
 | some d => match flatK P 100 t with
  | some ks => bif aggOf d && P.cellsOf t == ks.length && !P.eqGuardType P.depth t then .aeq neg ks x y else .panic
  | none => .panic
 | none => .panic

def cBin (P : Program) (op : BinOp) (t : TypeId) (x y : Operand) : Ins :=
 match op with
 | .eql => cEq P false t x y
 | .neq => cEq P true t x y
 | op => .bin op x y

def cUn (op : UnOp) (x : Operand) : Ins :=
 match op with
 | .neg => .neg x
 | .xor => .cpl x
 | .not => .not x
 | _ => .panic

def isU8 (P : Program) (e : TypeId) : Bool := match P.underlying e with | some (.int .u8) => true | _ => false

def cConv (P : Program) (src dst : TypeId) (x : Operand) : Ins :=
 match P.underlying src with
 | some .string => match P.underlying dst with
  | some (.slice e) => bif isU8 P e then .s2b x else .panic
  | some (.int k) => .conv k x
  | _ => .panic
 | some (.slice e) => match P.underlying dst with
  | some .string => bif isU8 P e then .b2s x else .panic
  | some (.int k) => .conv k x
  | _ => .panic
 | some _ => match P.underlying dst with
  | some (.int k) => .conv k x
  | _ => .panic
 | none => .panic

def cLen (P : Program) (t : TypeId) (x : Operand) : Ins :=
 match P.underlying t with
 | some .string => .lenS x
 | some (.slice _) => .lenL x
 | some (.array n _) => .lenA n
 | _ => .panic

def cApp (P : Program) (E : Env) (t u : TypeId) (x y : Operand) : Ins :=
 match P.underlying t with
 | some (.slice e) => match P.info? e with
  | some i => match i.zero with
   | some z => match P.underlying u with
    | some .string => bif Nat.blt 0 i.bytes && z.cells.size == i.size && Nat.blt 0 i.size then .app i.size (bif Nat.beq e E.bt then i.bytes else bif Nat.beq i.bytes 1 then 2 else i.bytes) x y else .panic
    | some (.slice _) => bif Nat.blt 0 i.bytes && z.cells.size == i.size && Nat.blt 0 i.size then .app i.size (bif Nat.beq e E.bt then i.bytes else bif Nat.beq i.bytes 1 then 2 else i.bytes) x y else .panic
    | _ => .panic
   | none => .panic
  | none => .panic
 | _ => .panic

def cCall (P : Program) (E : Env) (c : Call) : Ins :=
 match c.callee with
 | .builtin .len => match c.args.toList,c.argTypes.toList with
  | [x],[t] => cLen P t x
  | _,_ => .panic
 | .builtin .append => match c.args.toList,c.argTypes.toList with
  | [x,y],[t,u] => cApp P E t u x y
  | _,_ => .panic
 | .builtin _ => .panic
 | .value (.func f) => match E.fn f with
  | some C => .pcall C c.args.toList
  | none => match E.fl f with
   | some C => .pcallF C c.args.toList
   | none => match E.fb f with
    | some C => .pcallB C c.args.toList
    | none => .panic
 | .value x => .vcall E.clo x c.args.toList
 | .invoke _ _ => .panic

def cIdxA (P : Program) (t : TypeId) (x i : Operand) : Ins :=
 match P.underlying t with
 | some (.array n e) => match P.info? e with
  | some inf => .idxA inf.size n x i
  | none => .panic
 | some (.slice e) => match P.info? e with
  | some inf => .idxL inf.size x i
  | none => .panic
 | _ => .panic

def cTy (P : Program) (t : TypeId) : Option (Bool × Nat) :=
 match P.underlying t with
 | some d => match P.info? t with
  | some i => bif aggOf d || i.size == 1 then some (aggOf d,i.size) else none
  | none => none
 | none => none

def cIdx (P : Program) (t : TypeId) (x i : Operand) : Ins :=
 match P.underlying t with
 | some (.array n e) => match cTy P e with
  | some (agg,sz) => .idxV n sz agg x i
  | none => .panic
 | some .string => .idxS x i
 | _ => .panic

def cFldA (P : Program) (t : TypeId) (x : Operand) (f : Nat) : Ins :=
 match P.underlying t with
 | some (.struct fs) => match fs[f]? with
  | some fd => match P.info? fd.type with
   | some i => bif i.size == 0 then .panic else .fldA fd.offset x
   | none => .panic
  | none => .panic
 | _ => .panic

def cFld (P : Program) (t : TypeId) (x : Operand) (f : Nat) : Ins :=
 match P.underlying t with
 | some (.struct fs) => match fs[f]? with
  | some fd => match cTy P fd.type with
   | some (agg,sz) => .fldV fd.offset sz agg x
   | none => .panic
  | none => .panic
 | _ => .panic

def cSl (P : Program) (t : TypeId) (x : Operand) (lo hi : Option Operand) : Ins :=
 match P.underlying t with
 | some .string => .slS x lo hi
 | some (.array n e) => match P.info? e with
  | some i => .slA i.size n x lo hi
  | none => .panic
 | some (.slice e) => match P.info? e with
  | some i => .slL i.size x lo hi
  | none => .panic
 | _ => .panic

def cMk (P : Program) (t : TypeId) (l c : Operand) : Ins :=
 match P.underlying t with
 | some (.slice e) => match P.info? e with
  | some i => match i.zero with
   | some z => bif z.cells.size == i.size && Nat.blt 0 i.size then .mksl i.size i.bytes (zs z) l c else .panic
   | none => .panic
  | none => .panic
 | _ => .panic

def cClo (E : Env) (fn : Fn) (first caps : Array Operand) : Ins :=
 match fn with
 | .func f => match first.toList with
  | [] => match E.tag f with
   | some t => .mkclo t caps.toList
   | none => .panic
  | _ => .panic
 | _ => .panic

def cSl' (P : Program) (t : TypeId) (x : Operand) (lo hi mx : Option Operand) : Ins :=
 match mx with
 | none => cSl P t x lo hi
 | some _ => .panic

/-- The cells of the keys of a map. -/
def cKey (P : Program) (k : TypeId) : Option (Bool × List CK) :=
 match P.underlying k with
 | some d => match flatK P 100 k with
  | some ks => bif P.cellsOf k == ks.length then some (!aggOf d,ks) else none
  | none => none
 | none => none

def cMkM (P : Program) (t : TypeId) (r : Option Operand) : Ins :=
 match r with
 | some _ => .panic
 | none => match P.underlying t with
  | some (.map k _) => match cKey P k with
   | some (one,ks) => .mkmap one ks
   | none => .panic
  | _ => .panic

def cLook (P : Program) (t : TypeId) (x i : Operand) (ok : Bool) : Ins :=
 match P.underlying t with
 | some (.map k e) => match cKey P k with
  | some (one,ks) => match P.info? e with
   | some i' => match i'.zero with
    | some z => .mlook one ks (AV.ofVal z) ok x i
    | none => .panic
   | none => .panic
  | none => .panic
 | _ => .panic

def cPut (P : Program) (t : TypeId) (x k v : Operand) : Ins :=
 match P.underlying t with
 | some (.map kt _) => match cKey P kt with
  | some (one,ks) => .mput one ks x k v
  | none => .panic
 | _ => .panic

def cop (P : Program) (E : Env) (o : Op) : Ins :=
 match o with
 | .move x => .mov x
 | .assign x => .mov x
 | .pick c a b => .pick c a b
 | .alloc t => cAlloc P E t
 | .box _ x => .box x
 | .build t parts => cBuild P t parts
 | .buildSlice t n parts => cBsl P t n parts
 | .load t x => cLoad P t x
 | .store t a x => cStore P t a x
 | .nilCheck x => .nilck x
 | .binOp op t x y _ => cBin P op t x y
 | .unOp op _ x => cUn op x
 | .convert src dst x => cConv P src dst x
 | .call c => cCall P E c
 | .indexAddr t x i => cIdxA P t x i
 | .index t x i => cIdx P t x i
 | .fieldAddr t x f => cFldA P t x f
 | .field t x f => cFld P t x f
 | .slice t x lo hi mx => cSl' P t x lo hi mx
 | .makeSlice t l c => cMk P t l c
 | .makeFunc fn first caps => cClo E fn first caps
 | .extract x i => .extr x i
 | .makeMap t r => cMkM P t r
 | .lookup t x i ok => cLook P t x i ok
 | .mapUpdate t x k v => cPut P t x k v
 | .insert t x k v => cPut P t x k v
 | _ => .panic

/-- The environment tells the truth. -/
structure Env.Ok (G : Gl) (E : Env) : Prop where
 fn : ∀ f C,E.fn f = some C → KeepsC G C (fun _ => none) f #[]
 tag : ∀ f t,E.tag f = some t → G.tag t = f
 clo : ∀ t C,E.clo t = some C → KeepsC G C (fun _ => none) (G.tag t) #[]
 hfn : ∀ f T,E.hfn f = some T → KeepsH G T f
 hclo : ∀ t T,E.hclo t = some T → KeepsH G T (G.tag t)
 it : ∀ t T,E.it t = some T → KeepsI G T (G.tag t)
 fl : ∀ f C,E.fl f = some C → KeepsF G C f
 fb : ∀ f C,E.fb f = some C → KeepsB G C f
 bt : E.bt = G.bt
 bT : E.bT = G.bT

section
variable {G : Gl} {E : Env} {o : Oper}

theorem toList_toArray' {α : Type} (l : Array α) : l.toList.toArray = l := by simp

theorem cArr_ok {t e : TypeId} {n : Nat} {parts : Array (Nat × Operand)} (ho : o.op = .build t parts) (ht : G.P.underlying t = some (.array n e)) : OpOk G o (ex1 (cArr G.P t e parts)) := by
 unfold cArr
 split
 case h_2 => exact ok_panic
 rename_i it hit
 split
 case h_2 => exact ok_panic
 rename_i z hz
 split
 case h_2 => exact ok_panic
 rename_i i hi
 cases hc : (G.P.cellsOf e == i.size) with
 | false => exact ok_panic
 | true => exact ok_buildA (parts := parts.toList) (by rw [ho]) ht hi rfl hit hz

theorem cStr_ok {t : TypeId} {fs : Array Field} {parts : Array (Nat × Operand)} (ho : o.op = .build t parts) (ht : G.P.underlying t = some (.struct fs)) : OpOk G o (ex1 (cStr G.P t fs parts)) := by
 unfold cStr
 split
 case h_2 => exact ok_panic
 rename_i it hit
 split
 case h_2 => exact ok_panic
 rename_i z hz
 cases hc : (fs.toList.all (fun f => (G.P.info? f.type).isSome) && parts.toList.all (fun p => Nat.blt p.1 fs.size)) with
 | false => exact ok_panic
 | true =>
  simp only [Bool.and_eq_true,List.all_eq_true] at hc
  refine ok_buildS (parts := parts.toList) (by rw [ho]) ht ?_ hit hz ?_
  ·intro f hf
   obtain ⟨i,hi⟩ := Option.isSome_iff_exists.1 (hc.1 f hf)
   exact ⟨i,hi,by simp [szF,hi]⟩
  ·intro p hp
   have := hc.2 p hp
   simpa using this

theorem cBuild_ok {t : TypeId} {parts : Array (Nat × Operand)} (ho : o.op = .build t parts) : OpOk G o (ex1 (cBuild G.P t parts)) := by
 unfold cBuild
 split
 ·rename_i h; exact cArr_ok ho h
 ·rename_i h; exact cStr_ok ho h
 ·exact ok_panic

theorem cBsl_ok {t : TypeId} {n : Nat} {parts : Array (Nat × Operand)} (ho : o.op = .buildSlice t n parts) : OpOk G o (ex1 (cBsl G.P t n parts)) := by
 unfold cBsl
 split
 case h_2 => exact ok_panic
 rename_i e ht
 split
 case h_2 => exact ok_panic
 rename_i i hi
 split
 case h_2 => exact ok_panic
 rename_i z hz
 cases hc : (z.cells.size == i.size && Nat.blt 0 i.size && Nat.ble (n * i.size) 16777216) with
 | false => exact ok_panic
 | true =>
  simp at hc
  exact ok_bslice (parts := parts.toList) (by rw [ho]) ht hi rfl hz hc.1.1 hc.1.2 hc.2

theorem cAlloc_ok (hE : Env.Ok G E) {t : TypeId} (ho : o.op = .alloc t) : OpOk G o (ex1 (cAlloc G.P E t)) := by
 unfold cAlloc
 split
 case h_2 => exact ok_panic
 rename_i i hi
 split
 case h_2 => exact ok_panic
 rename_i z hz
 cases hb : Nat.beq t E.bT with
 | true => exact ok_newb ho hi hz (by rw [← hE.bT]; exact Nat.eq_of_beq_eq_true hb)
 | false => exact ok_alloc ho hi hz

theorem cLoad_ok {t : TypeId} {x : Operand} (ho : o.op = .load t x) : OpOk G o (ex1 (cLoad G.P t x)) := by
 unfold cLoad
 split
 case h_2 => exact ok_panic
 rename_i d hd
 split
 case h_2 => exact ok_panic
 rename_i i hi
 cases ha : aggOf d with
 | true => exact ok_loadN ho ⟨d,i,hd,hi,rfl,ha,by simp⟩
 | false => exact ok_load1 ho ⟨d,hd,ha⟩

theorem cStore_ok {t : TypeId} {p x : Operand} (ho : o.op = .store t p x) : OpOk G o (ex1 (cStore G.P t p x)) := by
 unfold cStore
 split
 case h_2 => exact ok_panic
 rename_i d hd
 split
 case h_2 => exact ok_panic
 rename_i i hi
 cases ha : aggOf d with
 | true =>
  cases hs : Nat.blt 0 i.size with
  | false => exact ok_panic
  | true => exact ok_storN ho hi rfl (by simpa using hs)
 | false =>
  cases hs : (i.size == 1) with
  | false => exact ok_panic
  | true => exact ok_stor1 ho hi (by simpa using hs)

theorem cEq_ok {neg : Bool} {t ty : TypeId} {x y : Operand} (ho : o.op = .binOp (cond neg .neq .eql) t x y ty) : OpOk G o (ex1 (cEq G.P neg t x y)) := by
 unfold cEq
 split
 case h_1 h => exact ok_beq ho h
 case h_2 => exact ok_bin ho
 case h_3 => exact ok_bin ho
 case h_5 => exact ok_panic
 rename_i d _ _ _ hd
 split
 case h_2 => exact ok_panic
 rename_i ks hks
 cases hc : (aggOf d && G.P.cellsOf t == ks.length && !G.P.eqGuardType G.P.depth t) with
 | false => exact ok_panic
 | true =>
  simp at hc
  exact ok_aeq ho hks hc.1.2 hc.2 ⟨d,hd,hc.1.1⟩

theorem cBin_ok {op : BinOp} {t ty : TypeId} {x y : Operand} (ho : o.op = .binOp op t x y ty) : OpOk G o (ex1 (cBin G.P op t x y)) := by
 unfold cBin
 split
 ·exact cEq_ok (neg := false) ho
 ·exact cEq_ok (neg := true) ho
 ·exact ok_bin ho

theorem cUn_ok {op : UnOp} {t : TypeId} {x : Operand} (ho : o.op = .unOp op t x) : OpOk G o (ex1 (cUn op x)) := by
 unfold cUn
 split
 ·exact ok_neg ho
 ·exact ok_cpl ho
 ·exact ok_not ho
 ·exact ok_panic

theorem isU8_ok {P : Program} {e : TypeId} (h : isU8 P e = true) : P.underlying e = some (.int .u8) := by
 unfold isU8 at h
 split at h
 ·assumption
 ·cases h

theorem cConv_ok {src dst : TypeId} {x : Operand} (ho : o.op = .convert src dst x) : OpOk G o (ex1 (cConv G.P src dst x)) := by
 unfold cConv
 split
 ·rename_i hs
  split
  ·rename_i e hd
   cases hu : isU8 G.P e with
   | false => exact ok_panic
   | true => exact ok_s2b ho hs hd (isU8_ok hu)
  ·rename_i k hd; exact ok_conv ho (by rw [hs]; rfl) hd
  ·exact ok_panic
 ·rename_i e hs
  split
  ·rename_i hd
   cases hu : isU8 G.P e with
   | false => exact ok_panic
   | true => exact ok_b2s ho hs (isU8_ok hu) hd
  ·rename_i k hd; exact ok_conv ho (by rw [hs]; rfl) hd
  ·exact ok_panic
 ·rename_i hs
  split
  ·rename_i k hd; exact ok_conv ho (by rw [hs]; rfl) hd
  ·exact ok_panic
 ·exact ok_panic

theorem cLen_ok {t : TypeId} {x : Operand} (ho : o.op = .call { callee := .builtin .len,args := #[x],argTypes := #[t] }) : OpOk G o (ex1 (cLen G.P t x)) := by
 unfold cLen
 split
 ·rename_i h; exact ok_lenS ho h
 ·rename_i h; exact ok_lenL ho h
 ·rename_i h; exact ok_lenA ho h
 ·exact ok_panic

theorem cApp_ok (hE : Env.Ok G E) {t u : TypeId} {x y : Operand} (ho : o.op = .call { callee := .builtin .append,args := #[x,y],argTypes := #[t,u] }) : OpOk G o (ex1 (cApp G.P E t u x y)) := by
 unfold cApp
 split
 case h_2 => exact ok_panic
 rename_i e ht
 split
 case h_2 => exact ok_panic
 rename_i i hi
 split
 case h_2 => exact ok_panic
 rename_i z hz
 have hby : i.bytes ≤ (bif Nat.beq e E.bt then i.bytes else bif Nat.beq i.bytes 1 then 2 else i.bytes) := by
  cases Nat.beq e E.bt with
  | true => exact Nat.le_refl _
  | false => cases h1 : Nat.beq i.bytes 1 with
   | true => rw [Nat.eq_of_beq_eq_true h1]; decide
   | false => exact Nat.le_refl _
 have hbt : (bif Nat.beq e E.bt then i.bytes else bif Nat.beq i.bytes 1 then 2 else i.bytes) = 1 → e = G.bt := by
  cases h1 : Nat.beq e E.bt with
  | true => intro _; rw [← hE.bt]; exact Nat.eq_of_beq_eq_true h1
  | false => cases h2 : Nat.beq i.bytes 1 with
   | true => intro h3; cases h3
   | false => intro h3; simp only [cond_false] at h3; rw [h3] at h2; cases h2
 split
 case h_3 => exact ok_panic
 case h_1 hu =>
  cases hc : (Nat.blt 0 i.bytes && z.cells.size == i.size && Nat.blt 0 i.size) with
  | false => exact ok_panic
  | true =>
   simp at hc
   exact ok_app ho ht hu (.inl rfl) hi hz rfl hby hc.1.1 hc.1.2 hbt hc.2
 case h_2 e' hu =>
  cases hc : (Nat.blt 0 i.bytes && z.cells.size == i.size && Nat.blt 0 i.size) with
  | false => exact ok_panic
  | true =>
   simp at hc
   exact ok_app ho ht hu (.inr ⟨e',rfl⟩) hi hz rfl hby hc.1.1 hc.1.2 hbt hc.2

theorem arr1 {α : Type} {l : Array α} {a : α} (h : l.toList = [a]) : l = #[a] := by apply Array.ext'; simpa using h
theorem arr2 {α : Type} {l : Array α} {a b : α} (h : l.toList = [a,b]) : l = #[a,b] := by apply Array.ext'; simpa using h

theorem cCall_ok (hE : Env.Ok G E) {c : Call} (ho : o.op = .call c) : OpOk G o (ex1 (cCall G.P E c)) := by
 obtain ⟨callee,args,tys⟩ := c
 unfold cCall
 split
 case h_1 hc =>
  simp only at hc
  subst hc
  split
  ·rename_i x t h1 h2
   simp only at h1 h2
   rw [arr1 h1,arr1 h2] at ho
   exact cLen_ok ho
  ·exact ok_panic
 case h_2 hc =>
  simp only at hc
  subst hc
  split
  ·rename_i x y t u h1 h2
   simp only at h1 h2
   rw [arr2 h1,arr2 h2] at ho
   exact cApp_ok hE ho
  ·exact ok_panic
 case h_3 => exact ok_panic
 case h_4 f hc =>
  simp only at hc
  subst hc
  split
  ·rename_i C hC
   exact ok_pcall (args := args.toList) (ts := tys) (by rw [ho,toList_toArray']) (hE.fn f C hC)
  ·split
   ·rename_i C hC
    exact ok_pcallF (args := args.toList) (ts := tys) (by rw [ho,toList_toArray']) (hE.fl f C hC)
   ·split
    ·rename_i C hC
     exact ok_pcallB (args := args.toList) (ts := tys) (by rw [ho,toList_toArray']) (hE.fb f C hC)
    ·exact ok_panic
 case h_5 x _ hc =>
  simp only at hc
  subst hc
  exact ok_vcall (args := args.toList) (ts := tys) (by rw [ho,toList_toArray']) hE.clo
 case h_6 => exact ok_panic

theorem cTy_ok {P : Program} {t : TypeId} {agg : Bool} {sz : Nat} (h : cTy P t = some (agg,sz)) : TyIs P t agg sz := by
 unfold cTy at h
 split at h
 case h_2 => cases h
 rename_i d hd
 split at h
 case h_2 => cases h
 rename_i i hi
 cases hc : (aggOf d || i.size == 1) with
 | false => rw [hc] at h; cases h
 | true =>
  rw [hc] at h
  simp only [cond_true,Option.some.injEq,Prod.mk.injEq] at h
  refine ⟨d,i,hd,hi,h.2,h.1,fun hf => ?_⟩
  rw [h.1,hf] at hc
  simp at hc
  omega

theorem cKey_ok {P : Program} {k : TypeId} {one : Bool} {ks : List CK} (h : cKey P k = some (one,ks)) : KeyT P one ks k := by
 unfold cKey at h
 split at h
 case h_2 => cases h
 rename_i d hd
 split at h
 case h_2 => cases h
 rename_i l hl
 cases hc : (P.cellsOf k == l.length) with
 | false => rw [hc] at h; cases h
 | true =>
  rw [hc] at h
  simp only [cond_true,Option.some.injEq,Prod.mk.injEq] at h
  obtain ⟨rfl,rfl⟩ := h
  exact ⟨hl,by simpa using hc,d,hd,by simp⟩

theorem cPut_ok {t : TypeId} {x k v : Operand} (ho : o.op = .mapUpdate t x k v ∨ o.op = .insert t x k v) : OpOk G o (ex1 (cPut G.P t x k v)) := by
 unfold cPut
 split
 case h_2 => exact ok_panic
 rename_i ht
 split
 case h_2 => exact ok_panic
 rename_i hk
 exact ok_mput ho ht (cKey_ok hk)

theorem cLook_ok {t : TypeId} {x i : Operand} {ok : Bool} (ho : o.op = .lookup t x i ok) : OpOk G o (ex1 (cLook G.P t x i ok)) := by
 unfold cLook
 split
 case h_2 => exact ok_panic
 rename_i ht
 split
 case h_2 => exact ok_panic
 rename_i hk
 split
 case h_2 => exact ok_panic
 rename_i hi
 split
 case h_2 => exact ok_panic
 rename_i hz
 exact ok_mlook ho ht (cKey_ok hk) hi hz

theorem cMkM_ok {t : TypeId} {r : Option Operand} (ho : o.op = .makeMap t r) : OpOk G o (ex1 (cMkM G.P t r)) := by
 unfold cMkM
 split
 case h_1 => exact ok_panic
 split
 case h_2 => exact ok_panic
 split
 case h_2 => exact ok_panic
 exact ok_mkmap ho

theorem cop_ok (hE : Env.Ok G E) : OpOk G o (ex1 (cop G.P E o.op)) := by
 generalize hop : o.op = p
 cases p <;> simp only [cop]
 case move x => exact ok_mov (.inl hop)
 case makeMap t r => exact cMkM_ok hop
 case lookup t x i ok => exact cLook_ok hop
 case mapUpdate t x k v => exact cPut_ok (.inl hop)
 case insert t x k v => exact cPut_ok (.inr hop)
 case assign x => exact ok_mov (.inr hop)
 case pick c a b => exact ok_pick hop
 case alloc t => exact cAlloc_ok hE hop
 case box t x => exact ok_box hop
 case build t ps => exact cBuild_ok hop
 case buildSlice t n ps => exact cBsl_ok hop
 case load t x => exact cLoad_ok hop
 case store t a x => exact cStore_ok hop
 case nilCheck x => exact ok_nilck hop
 case binOp op t x y ty => exact cBin_ok hop
 case unOp op t x => exact cUn_ok hop
 case convert s d x => exact cConv_ok hop
 case call c => exact cCall_ok hE hop
 case indexAddr t x i =>
  unfold cIdxA
  split
  ·rename_i h
   split
   ·rename_i hi; exact ok_idxA hop h hi rfl
   ·exact ok_panic
  ·rename_i h
   split
   ·rename_i hi; exact ok_idxL hop h hi rfl
   ·exact ok_panic
  ·exact ok_panic
 case index t x i =>
  unfold cIdx
  split
  ·rename_i h
   split
   ·rename_i hi; exact ok_idxV hop h (cTy_ok hi)
   ·exact ok_panic
  ·rename_i h; exact ok_idxS hop h
  ·exact ok_panic
 case fieldAddr t x f =>
  unfold cFldA
  split
  case h_2 => exact ok_panic
  rename_i fs h
  split
  case h_2 => exact ok_panic
  rename_i fd hfd
  split
  case h_2 => exact ok_panic
  rename_i i hi
  cases hs : (i.size == 0) with
  | true => exact ok_panic
  | false => exact ok_fldA hop h hfd hi (by simpa using hs)
 case field t x f =>
  unfold cFld
  split
  case h_2 => exact ok_panic
  rename_i fs h
  split
  case h_2 => exact ok_panic
  rename_i fd hfd
  split
  case h_2 => exact ok_panic
  rename_i hty
  exact ok_fldV hop h hfd rfl (cTy_ok hty)
 case slice t x lo hi mx =>
  cases mx with
  | some m => exact ok_panic
  | none =>
   simp only [cSl']
   unfold cSl
   split
   ·rename_i h; exact ok_slS hop h
   ·rename_i h
    split
    ·rename_i hi'; exact ok_slA hop h hi' rfl
    ·exact ok_panic
   ·rename_i h
    split
    ·rename_i hi'; exact ok_slL hop h hi' rfl
    ·exact ok_panic
   ·exact ok_panic
 case makeSlice t l c =>
  unfold cMk
  split
  case h_2 => exact ok_panic
  rename_i e h
  split
  case h_2 => exact ok_panic
  rename_i i hi
  split
  case h_2 => exact ok_panic
  rename_i z hz
  cases hc : (z.cells.size == i.size && Nat.blt 0 i.size) with
  | false => exact ok_panic
  | true =>
   simp at hc
   exact ok_mksl hop h hi hz rfl rfl hc.1 hc.2
 case makeFunc fn first caps =>
  unfold cClo
  split
  case h_2 => exact ok_panic
  rename_i f
  split
  case h_2 => exact ok_panic
  rename_i hfst
  split
  case h_2 => exact ok_panic
  rename_i t ht
  have h0 : first = #[] := by apply Array.ext'; simpa using hfst
  exact ok_mkclo (caps := caps.toList) (by rw [hop,h0,hE.tag f t ht,toList_toArray'])
 case extract x i => exact ok_extr hop
 all_goals exact ok_panic

end

def cGuard (ops : Array Oper) (o : Oper) : Option (Option (Nat × Bool)) :=
 match o.guard with
 | none => some none
 | some (j,want) => match (ops[j]?).bind (·.dst) with
  | some g => some (some (g,want))
  | none => none

def cOpers (P : Program) (E : Env) (N : Nat) (ops : Array Oper) : List Oper → Option (List IOp)
 | [] => some []
 | o :: r => match (match o.dst with | some d => Nat.blt d N | none => true) with
  | true => match cGuard ops o with
   | some g => match cOpers P E N ops r with
    | some l => some (⟨o.dst,g,cop P E o.op⟩ :: l)
    | none => none
   | none => none
  | false => none

/-- A call that shares the memory, or of a function value. -/
def spec (E : Env) (o : Oper) : Bool :=
 match o.op with
 | .call c => match c.callee with
  | .value (.func f) => (E.hfn f).isSome
  | .value _ => true
  | _ => false
 | .range .. => true
 | .next .. => true
 | .entry _ => true
 | _ => false

def cSO (P : Program) (E : Env) (o : Oper) (io : IOp) : SO :=
 match o.op with
 | .range t x => match P.underlying t with
  | some (.map _ _) => match io.guard with
   | none => .rng io.dst x
   | some _ => .op io
  | some .string => match io.guard with
   | none => .rngS io.dst x
   | some _ => .op io
  | _ => .op io
 | .next it isString => match isString with
  | false => match io.guard with
   | none => .nxt io.dst it
   | some _ => .op io
  | true => match io.guard with
   | none => .nxtS io.dst it
   | some _ => .op io
 | .entry it => match io.guard with
  | none => .ent io.dst it
  | some _ => .op io
 | .call c => match c.callee with
  | .value (.func f) => match E.hfn f with
   | some T => .call io.guard io.dst T c.args.toList
   | none => .op io
  | .value x => .dyn io E.hclo x c.args.toList
  | _ => .op io
 | _ => .op io

def cSOs (P : Program) (E : Env) : List Oper → List IOp → List SO
 | o :: r,io :: s => cSO P E o io :: cSOs P E r s
 | _,_ => []

/-- May the code be left by a jump? -/
def leaves : Code → List Nat → Bool
 | .ret,_ => true
 | .goto _,_ => true
 | .exit id,l => !(l.contains id)
 | .seq a b,l => leaves a l || leaves b l
 | .cond _ a b,l => leaves a l || leaves b l
 | .block id b,l => leaves b (id :: l)
 | .loop b,l => leaves b l
 | .scope b,l => leaves b l
 | .rangeFunc _ _ a b,l => leaves a l || leaves b l
 | _,_ => false

def cc (P : Program) (E : Env) (N : Nat) (rd : Bool) : Code → Option IC
 | .skip => some .skip
 | .region _ ops draw => match cOpers P E N ops ops.toList with
  | some ios => match draw with
   | true => match P.follows .mixedOrders && pairsOk (msks ops.toList []) ios && backOk ops.toList with
    | true => some (.ops ios)
    | false => match P.follows .mixedOrders && pairsX (msks ops.toList []) ios (badPairs (msks ops.toList []) ios) && backOk ops.toList with
     | true => some (.rops (badPairs (msks ops.toList []) ios) ios)
     | false => none
   | false => match ops.toList.any (spec E) with
    | true => some (.sops (cSOs P E ops.toList ios))
    | false => some (.ops ios)
  | none => none
 | .seq a b => match cc P E N rd a with
  | some x => match cc P E N rd b with
   | some y => some (.seq x y)
   | none => none
  | none => none
 | .cond c a b => match cc P E N rd a with
  | some x => match cc P E N rd b with
   | some y => some (.cond c x y)
   | none => none
  | none => none
 | .block id b => match cc P E N rd b with
  | some x => some (.block id x)
  | none => none
 | .loop b => match cc P E N rd b with
  | some x => some (.loop x)
  | none => none
 | .rangeFunc g ps a b => match ps.toList.all (fun p => Nat.blt p N) with
  | true => match cc P E N true a with
   | some x => match cc P E N true b with
    | some y => match !rd && leaves b [] with
     | true => some (.rfuncX E.it g ps.toList x y)
     | false => some (.rfunc E.it g ps.toList (.seq x y))
    | none => none
   | none => none
  | false => none
 | .exit id => some (.exit id)
 | .ret => some .ret
 | .label _ => some .skip
 | _ => none

theorem cop_nd (P : Program) (E : Env) (o : Oper) : (∀ c,o.op ≠ .defer c) ∨ ∀ S K,¬ ex1 (cop P E o.op) S K := by
 by_cases h : ∃ c,o.op = .defer c
 ·obtain ⟨c,hc⟩ := h
  right
  intro S K hk
  rw [hc] at hk
  exact hk
 ·left
  intro c hc
  exact h ⟨c,hc⟩

section
variable {G : Gl} {E : Env} {N : Nat}

theorem cOpers_ok (hE : Env.Ok G E) (ops : Array Oper) : ∀ (l : List Oper) (ios : List IOp),cOpers G.P E N ops l = some ios →
  ios.length = l.length ∧ ∀ (i : Nat) (o : Oper),l[i]? = some o → ∃ io,ios[i]? = some io ∧ OpRel G ops N o io
 | [],ios,h => by
  simp only [cOpers,Option.some.injEq] at h
  subst h
  exact ⟨rfl,fun i o hi => by simp at hi⟩
 | o :: r,ios,h => by
  simp only [cOpers] at h
  split at h
  case h_2 => cases h
  rename_i hd
  split at h
  case h_2 => cases h
  rename_i g hg
  split at h
  case h_2 => cases h
  rename_i l hl
  cases h
  obtain ⟨h1,h2⟩ := cOpers_ok hE ops r l hl
  refine ⟨by simp [h1],fun i o' hi => ?_⟩
  cases i with
  | zero =>
   simp at hi
   subst hi
   refine ⟨_,rfl,⟨rfl,?_,?_,cop_ok hE,cop_nd _ _ _⟩⟩
   ·intro d hd'
    rw [hd'] at hd
    simpa using hd
   ·unfold cGuard at hg
    split at hg
    ·rename_i hgn
     cases hg
     exact .inl ⟨hgn,rfl⟩
    ·rename_i j want hgn
     split at hg
     ·rename_i g' hg'
      cases hg
      exact .inr ⟨j,want,g',hgn,hg',rfl⟩
     ·cases hg
  | succ i =>
   simp at hi
   obtain ⟨io,h3,h4⟩ := h2 i o' hi
   exact ⟨io,by simpa using h3,h4⟩

theorem cSO_ok (hE : Env.Ok G E) {ops : Array Oper} {o : Oper} {io : IOp} (h : OpRel G ops N o io) : SORel G ops N o (cSO G.P E o io) := by
 unfold cSO
 split
 ·rename_i t x ho
  split
  ·rename_i k e ht
   split
   ·rename_i hg
    have hb := h.base
    rw [hg] at hb
    exact ⟨hb,t,k,e,ho,ht⟩
   ·exact h
  ·rename_i ht
   split
   ·rename_i hg
    have hb := h.base
    rw [hg] at hb
    exact ⟨hb,t,ho,ht⟩
   ·exact h
  ·exact h
 ·rename_i it isS ho
  split
  ·split
   ·rename_i hg
    have hb := h.base
    rw [hg] at hb
    exact ⟨hb,ho⟩
   ·exact h
  ·split
   ·rename_i hg
    have hb := h.base
    rw [hg] at hb
    exact ⟨hb,ho⟩
   ·exact h
 ·rename_i it ho
  split
  ·rename_i hg
   have hb := h.base
   rw [hg] at hb
   exact ⟨hb,ho⟩
  ·exact h
 ·rename_i c ho
  obtain ⟨callee,args,tys⟩ := c
  split
  case h_1 f hc =>
   simp only at hc
   subst hc
   split
   ·rename_i T hT
    exact ⟨h.base,f,tys,by rw [ho,toList_toArray'],hE.hfn f T hT⟩
   ·exact h
  case h_2 x _ hc =>
   simp only at hc
   subst hc
   exact ⟨h,tys,by rw [ho,toList_toArray'],hE.hclo⟩
  case h_3 => exact h
 ·exact h

theorem cSOs_get (P : Program) (E : Env) : ∀ (l : List Oper) (ios : List IOp),l.length = ios.length → (cSOs P E l ios).length = l.length ∧ ∀ (j : Nat) so,(cSOs P E l ios)[j]? = some so → ∃ o io,l[j]? = some o ∧ ios[j]? = some io ∧ so = cSO P E o io
 | [],ios,h => by
  cases ios with
  | nil => exact ⟨rfl,fun j so hj => by simp [cSOs] at hj⟩
  | cons => simp at h
 | o :: r,[],h => by simp at h
 | o :: r,io :: s,h => by
  obtain ⟨h1,h2⟩ := cSOs_get P E r s (by simpa using h)
  refine ⟨by simp [cSOs,h1],fun j so hj => ?_⟩
  cases j with
  | zero => simp [cSOs] at hj; exact ⟨o,io,rfl,rfl,hj.symm⟩
  | succ j =>
   simp [cSOs] at hj
   obtain ⟨o',io',h3,h4,h5⟩ := h2 j so hj
   exact ⟨o',io',by simpa using h3,by simpa using h4,h5⟩

theorem CodeOk.sregion {rd : Bool} {id : Nat} {ops : Array Oper} {l : List SO} (hl : l.length = ops.size) (hrel : ∀ (j : Nat) so,l[j]? = some so → ∃ o,ops[j]? = some o ∧ SORel G ops N o so) :
  CodeOk G N rd (.region id ops false) (.sops l) := by
 intro x R n B X Φ0 w0 D K S a w Q hR hm hY hat h hq
 refine wpIn_region ?_
 rw [List.range_eq_range',← hl]
 exact sops_ok hY l 0 S _ a w (fun j so hj => by rw [Nat.zero_add]; exact hrel j so hj) hat h fun S' a' w' hk hat' => hq _ _ _ _ hk hat'

theorem cc_ok (hE : Env.Ok G E) : ∀ (c : Code) (rd : Bool) (ic : IC),cc G.P E N rd c = some ic → CodeOk G N rd c ic := by
 intro c
 induction c with
 | skip => intro rd ic h; simp only [cc,Option.some.injEq] at h; subst h; exact CodeOk.skip
 | exit id => intro rd ic h; simp only [cc,Option.some.injEq] at h; subst h; exact CodeOk.exit
 | ret => intro rd ic h; simp only [cc,Option.some.injEq] at h; subst h; exact CodeOk.ret
 | label l => intro rd ic h; simp only [cc,Option.some.injEq] at h; subst h; exact CodeOk.label
 | goto l => intro rd ic h; simp [cc] at h
 | scope b => intro rd ic h; simp [cc] at h
 | refuse w => intro rd ic h; simp [cc] at h
 | rangeFunc g ps a b iha ihb =>
  intro rd ic h
  simp only [cc] at h
  split at h
  case h_2 => cases h
  rename_i hps
  split at h
  case h_2 => cases h
  rename_i x hx
  split at h
  case h_2 => cases h
  rename_i y hy
  have hp : ∀ p ∈ ps.toList,p < N := fun p hp => by
   rw [List.all_eq_true] at hps
   simpa using hps p hp
  split at h
  ·rename_i hl
   cases h
   cases rd
   ·exact rfuncX_ok (iha true x hx) (ihb true y hy) hp hE.it
   ·cases hl
  ·cases h
   cases rd
   ·exact rfunc_ok (iha true x hx) (ihb true y hy) hp hE.it
   ·exact rfuncIn_ok (iha true x hx) (ihb true y hy) hp hE.it
 | region id ops draw =>
  intro rd ic h
  simp only [cc] at h
  split at h
  case h_2 => cases h
  rename_i ios hios
  obtain ⟨h1,h2⟩ := cOpers_ok hE ops _ _ hios
  have hrel : ∀ (i : Nat) (o : Oper),ops[i]? = some o → ∃ io,ios[i]? = some io ∧ OpRel G ops N o io := fun i o hi => h2 i o (by simpa using hi)
  cases draw with
  | false =>
   simp only at h
   split at h
   ·cases h
    obtain ⟨h3,h4⟩ := cSOs_get G.P E ops.toList ios h1.symm
    refine CodeOk.sregion (by simpa using h3) (fun j so hj => ?_)
    obtain ⟨o,io,h5,h6,rfl⟩ := h4 j so hj
    obtain ⟨io',h7,h8⟩ := h2 j o h5
    rw [h6] at h7
    cases h7
    exact ⟨o,by simpa using h5,cSO_ok hE h8⟩
   ·cases h
    exact CodeOk.region hrel (by simpa using h1)
  | true =>
   simp only at h
   split at h
   case h_1 =>
    rename_i hc
    cases h
    simp only [Bool.and_eq_true] at hc
    exact CodeOk.regionDraw hc.1.1 hrel (by simpa using h1) hc.1.2 hc.2
   case h_2 =>
    split at h
    case h_2 => cases h
    rename_i hc
    cases h
    simp only [Bool.and_eq_true] at hc
    exact CodeOk.regionD hc.1.1 hrel (by simpa using h1) hc.1.2 hc.2
 | seq a b iha ihb =>
  intro rd ic h
  simp only [cc] at h
  split at h
  case h_2 => cases h
  rename_i x hx
  split at h
  case h_2 => cases h
  rename_i y hy
  cases h
  exact CodeOk.seq (iha rd x hx) (ihb rd y hy)
 | cond c a b iha ihb =>
  intro rd ic h
  simp only [cc] at h
  split at h
  case h_2 => cases h
  rename_i x hx
  split at h
  case h_2 => cases h
  rename_i y hy
  cases h
  exact CodeOk.cond (iha rd x hx) (ihb rd y hy)
 | block id b ih =>
  intro rd ic h
  simp only [cc] at h
  split at h
  case h_2 => cases h
  rename_i x hx
  cases h
  exact CodeOk.block (ih rd x hx)
 | loop b ih =>
  intro rd ic h
  simp only [cc] at h
  split at h
  case h_2 => cases h
  rename_i x hx
  cases h
  exact CodeOk.loop (ih rd x hx)

end

/-- Without the marks at which ways meet. -/
def strip : IC → IC
 | .jn a => strip a
 | .jnT a => strip a
 | .seq a b => .seq (strip a) (strip b)
 | .cond c t e => .cond c (strip t) (strip e)
 | .block id b => .block id (strip b)
 | .loop b => .loop (strip b)
 | .rfunc its g ps (.seq a b) => .rfunc its g ps (.seq (strip a) (strip b))
 | .rfuncX its g ps a b => .rfuncX its g ps (strip a) (strip b)
 | x => x

section
variable {G : Gl} {E : Env} {N : Nat}

theorem cc_seq {P : Program} {rd : Bool} {c : Code} {x y : IC} (h : cc P E N rd c = some (.seq x y)) : ∃ a b,c = .seq a b ∧ cc P E N rd a = some x ∧ cc P E N rd b = some y := by
 cases c <;> simp only [cc] at h <;> (repeat' (split at h)) <;> cases h
 exact ⟨_,_,rfl,by assumption,by assumption⟩
theorem cc_cond {P : Program} {rd : Bool} {c : Code} {o : Operand} {x y : IC} (h : cc P E N rd c = some (.cond o x y)) : ∃ a b,c = .cond o a b ∧ cc P E N rd a = some x ∧ cc P E N rd b = some y := by
 cases c <;> simp only [cc] at h <;> (repeat' (split at h)) <;> cases h
 exact ⟨_,_,rfl,by assumption,by assumption⟩
theorem cc_block {P : Program} {rd : Bool} {c : Code} {id : Nat} {x : IC} (h : cc P E N rd c = some (.block id x)) : ∃ a,c = .block id a ∧ cc P E N rd a = some x := by
 cases c <;> simp only [cc] at h <;> (repeat' (split at h)) <;> cases h
 exact ⟨_,rfl,by assumption⟩
theorem cc_loop {P : Program} {rd : Bool} {c : Code} {x : IC} (h : cc P E N rd c = some (.loop x)) : ∃ a,c = .loop a ∧ cc P E N rd a = some x := by
 cases c <;> simp only [cc] at h <;> (repeat' (split at h)) <;> cases h
 exact ⟨_,rfl,by assumption⟩
theorem cc_rfunc {P : Program} {rd : Bool} {c : Code} {its : Nat → Option ITran} {o : Operand} {ps : List Nat} {x y : IC} (h : cc P E N rd c = some (.rfunc its o ps (.seq x y))) :
  ∃ qs a b,c = .rangeFunc o qs a b ∧ ps = qs.toList ∧ its = E.it ∧ (∀ p ∈ qs.toList,p < N) ∧ cc P E N true a = some x ∧ cc P E N true b = some y := by
 cases c <;> simp only [cc] at h <;> (repeat' (split at h)) <;> cases h
 rename_i hps _ _ _ _ _ _
 refine ⟨_,_,_,rfl,rfl,rfl,fun p hp => ?_,by assumption,by assumption⟩
 rw [List.all_eq_true] at hps
 simpa using hps p hp

theorem cc_rfuncX {P : Program} {rd : Bool} {c : Code} {its : Nat → Option ITran} {o : Operand} {ps : List Nat} {x y : IC} (h : cc P E N rd c = some (.rfuncX its o ps x y)) :
  rd = false ∧ ∃ qs a b,c = .rangeFunc o qs a b ∧ ps = qs.toList ∧ its = E.it ∧ (∀ p ∈ qs.toList,p < N) ∧ cc P E N true a = some x ∧ cc P E N true b = some y := by
 cases c <;> simp only [cc] at h <;> (repeat' (split at h)) <;> cases h
 rename_i hps _ _ _ hl _ _
 refine ⟨(by cases rd with | false => rfl | true => cases hl),_,_,_,rfl,rfl,rfl,fun p hp => ?_,by assumption,by assumption⟩
 rw [List.all_eq_true] at hps
 simpa using hps p hp

theorem cj_ok (hE : Env.Ok G E) : ∀ (ic : IC) (c : Code) (rd : Bool),cc G.P E N rd c = some (strip ic) → CodeOk G N rd c ic
 | .jn a,c,rd,h => CodeOk.jn (cj_ok hE a c rd (by simpa only [strip] using h))
 | .jnT a,c,rd,h => CodeOk.jnT (cj_ok hE a c rd (by simpa only [strip] using h))
 | .seq a b,c,rd,h => by
  simp only [strip] at h
  obtain ⟨x,y,rfl,h1,h2⟩ := cc_seq h
  exact CodeOk.seq (cj_ok hE a x rd h1) (cj_ok hE b y rd h2)
 | .cond o a b,c,rd,h => by
  simp only [strip] at h
  obtain ⟨x,y,rfl,h1,h2⟩ := cc_cond h
  exact CodeOk.cond (cj_ok hE a x rd h1) (cj_ok hE b y rd h2)
 | .block id a,c,rd,h => by
  simp only [strip] at h
  obtain ⟨x,rfl,h1⟩ := cc_block h
  exact CodeOk.block (cj_ok hE a x rd h1)
 | .loop a,c,rd,h => by
  simp only [strip] at h
  obtain ⟨x,rfl,h1⟩ := cc_loop h
  exact CodeOk.loop (cj_ok hE a x rd h1)
 | .rfunc its g ps (.seq a b),c,rd,h => by
  simp only [strip] at h
  obtain ⟨qs,x,y,rfl,rfl,rfl,h1,h2,h3⟩ := cc_rfunc h
  cases rd
  ·exact rfunc_ok (cj_ok hE a x true h2) (cj_ok hE b y true h3) h1 hE.it
  ·exact rfuncIn_ok (cj_ok hE a x true h2) (cj_ok hE b y true h3) h1 hE.it
 | .rfuncX its g ps a b,c,rd,h => by
  simp only [strip] at h
  obtain ⟨rfl,qs,x,y,rfl,rfl,rfl,h1,h2,h3⟩ := cc_rfuncX h
  exact rfuncX_ok (cj_ok hE a x true h2) (cj_ok hE b y true h3) h1 hE.it
 | .skip,c,rd,h => cc_ok hE c rd _ h
 | .ops l,c,rd,h => cc_ok hE c rd _ h
 | .rops _ l,c,rd,h => cc_ok hE c rd _ h
 | .sops l,c,rd,h => cc_ok hE c rd _ h
 | .exit id,c,rd,h => cc_ok hE c rd _ h
 | .ret,c,rd,h => cc_ok hE c rd _ h
 | .rfunc its g ps .skip,c,rd,h => cc_ok hE c rd _ h
 | .rfunc its g ps (.ops l),c,rd,h => cc_ok hE c rd _ h
 | .rfunc its g ps (.rops _ l),c,rd,h => cc_ok hE c rd _ h
 | .rfunc its g ps (.sops l),c,rd,h => cc_ok hE c rd _ h
 | .rfunc its g ps (.cond o x y),c,rd,h => cc_ok hE c rd _ h
 | .rfunc its g ps (.block id x),c,rd,h => cc_ok hE c rd _ h
 | .rfunc its g ps (.loop x),c,rd,h => cc_ok hE c rd _ h
 | .rfunc its g ps (.rfunc a b d e),c,rd,h => cc_ok hE c rd _ h
 | .rfunc its g ps (.rfuncX a b d e f),c,rd,h => cc_ok hE c rd _ h
 | .rfunc its g ps (.exit id),c,rd,h => cc_ok hE c rd _ h
 | .rfunc its g ps .ret,c,rd,h => cc_ok hE c rd _ h
 | .rfunc its g ps (.jn x),c,rd,h => cc_ok hE c rd _ h
 | .rfunc its g ps (.jnT x),c,rd,h => cc_ok hE c rd _ h

end

def rrOf (P : Program) (x : ResultVar) : Option RR :=
 match x with
 | .tmp t => some (.tmp t)
 | .cell a t => match P.underlying t with
  | some d => match P.info? t with
   | some i => some (.cell a (aggOf d) i.size)
   | none => none
  | none => none

def rrs (P : Program) : List ResultVar → Option (List RR)
 | [] => some []
 | x :: r => match rrOf P x with
  | some y => match rrs P r with
   | some l => some (y :: l)
   | none => none
  | none => none

theorem rrs_ok {P : Program} : ∀ {xs : List ResultVar} {rs : List RR},rrs P xs = some rs → xs.length = rs.length ∧ ∀ (j : Nat) x q,xs[j]? = some x → rs[j]? = some q → RRel P x q
 | [],rs,h => by
  simp only [rrs,Option.some.injEq] at h
  subst h
  exact ⟨rfl,fun j x q h => by simp at h⟩
 | x :: xs,rs,h => by
  simp only [rrs] at h
  split at h
  case h_2 => cases h
  rename_i y hy
  split at h
  case h_2 => cases h
  rename_i l hl
  cases h
  obtain ⟨h1,h2⟩ := rrs_ok hl
  refine ⟨by simp [h1],fun j x' q hx hq => ?_⟩
  cases j with
  | zero =>
   simp at hx hq
   subst hx
   subst hq
   unfold rrOf at hy
   split at hy
   ·cases hy; rfl
   ·split at hy
    case h_2 => cases hy
    rename_i d hd
    split at hy
    case h_2 => cases hy
    rename_i i hi
    cases hy
    exact ⟨rfl,d,i,hd,hi,rfl,rfl⟩
  | succ j => exact h2 j x' q (by simpa using hx) (by simpa using hq)

/-- A function in the executor's form. -/
structure IF where
 code : IC
 res : List RR

def IF.strip (F : IF) : IF := ⟨Qk.strip F.code,F.res⟩

def compF (P : Program) (E : Env) (fn : Func) : Option IF :=
 match fn.name == "runtime.NumGoroutine" with
 | true => none
 | false => match fn.body with
  | some c => match cc P E fn.ntmps false c with
   | some ic => match rrs P fn.results.toList with
    | some rs => some ⟨ic,rs⟩
    | none => none
   | none => none
  | none => none

/-- The function's code, in the executor's form, does what the contract says. -/
def Does (F : IF) (C : PC) : Prop := ∀ x,C.ok x → awp Cx.top F.code (retK F.res (C.res x)) (entry (C.args x))

theorem keeps_of {G : Gl} {E : Env} {f : FuncId} {fn : Func} {F : IF} {C : PC} (hE : Env.Ok G E) (hf : G.P.funcs[f]? = some fn) (hc : compF G.P E fn = some F.strip)
  (hN : ∀ x,(C.args x).length ≤ fn.ntmps) (hnn : ∀ x,C.ok x → NN (C.res x)) (hir : Does F C) : KeepsC G C (fun _ => none) f #[] := by
 unfold compF at hc
 split at hc
 ·cases hc
 rename_i hname
 split at hc
 case h_2 => cases hc
 rename_i c hb
 split at hc
 case h_2 => cases hc
 rename_i ic hic
 split at hc
 case h_2 => cases hc
 rename_i rs hrs
 obtain ⟨F1,F2⟩ := F
 simp only [IF.strip,Option.some.injEq,IF.mk.injEq] at hc
 obtain ⟨hc1,hc2⟩ := hc
 subst hc2
 subst hc1
 obtain ⟨h1,h2⟩ := rrs_ok hrs
 exact fn_ok hf hb hname (cj_ok hE _ c false hic) h1 h2 hN hnn hir

/-- The function's code, in the executor's form, gives the new slice that the contract says. -/
def DoesF (F : IF) (C : FC) : Prop := ∀ x,C.ok x → awp Cx.top F.code (retF F.res C.esz (C.n x) (C.cs x)) (entry (C.args x))

theorem keepsF_of {G : Gl} {E : Env} {f : FuncId} {fn : Func} {F : IF} {C : FC} (hE : Env.Ok G E) (hf : G.P.funcs[f]? = some fn) (hc : compF G.P E fn = some F.strip)
  (hN : ∀ x,(C.args x).length ≤ fn.ntmps) (hir : DoesF F C) : KeepsF G C f := by
 unfold compF at hc
 split at hc
 ·cases hc
 rename_i hname
 split at hc
 case h_2 => cases hc
 rename_i c hb
 split at hc
 case h_2 => cases hc
 rename_i ic hic
 split at hc
 case h_2 => cases hc
 rename_i rs hrs
 obtain ⟨F1,F2⟩ := F
 simp only [IF.strip,Option.some.injEq,IF.mk.injEq] at hc
 obtain ⟨hc1,hc2⟩ := hc
 subst hc2
 subst hc1
 obtain ⟨h1,h2⟩ := rrs_ok hrs
 exact fnF_ok hf hb hname (cj_ok hE _ c false hic) h1 h2 hN hir

/-- The function's code, in the executor's form, gives the closure that the contract says. -/
def DoesB (F : IF) (C : BC) : Prop := ∀ x,C.ok x → awp Cx.top F.code (retB F.res C.tag (C.cs x) (C.rest x)) (entry (C.args x))

theorem keepsB_of {G : Gl} {E : Env} {f : FuncId} {fn : Func} {F : IF} {C : BC} (hE : Env.Ok G E) (hf : G.P.funcs[f]? = some fn) (hc : compF G.P E fn = some F.strip)
  (hN : ∀ x,(C.args x).length ≤ fn.ntmps) (hir : DoesB F C) : KeepsB G C f := by
 unfold compF at hc
 split at hc
 ·cases hc
 rename_i hname
 split at hc
 case h_2 => cases hc
 rename_i c hb
 split at hc
 case h_2 => cases hc
 rename_i ic hic
 split at hc
 case h_2 => cases hc
 rename_i rs hrs
 obtain ⟨F1,F2⟩ := F
 simp only [IF.strip,Option.some.injEq,IF.mk.injEq] at hc
 obtain ⟨hc1,hc2⟩ := hc
 subst hc2
 subst hc1
 obtain ⟨h1,h2⟩ := rrs_ok hrs
 exact fnB_ok hf hb hname (cj_ok hE _ c false hic) h1 h2 hN hir

/-- The function's code shares the caller's memory. -/
theorem keepsH_of {G : Gl} {E : Env} {f : FuncId} {fn : Func} {F : IF} {n : Nat} (hE : Env.Ok G E) (hf : G.P.funcs[f]? = some fn) (hc : compF G.P E fn = some F.strip) (hn : n ≤ fn.ntmps) : KeepsH G (inl n F.code F.res) f := by
 unfold compF at hc
 split at hc
 ·cases hc
 rename_i hname
 split at hc
 case h_2 => cases hc
 rename_i c hb
 split at hc
 case h_2 => cases hc
 rename_i ic hic
 split at hc
 case h_2 => cases hc
 rename_i rs hrs
 obtain ⟨F1,F2⟩ := F
 simp only [IF.strip,Option.some.injEq,IF.mk.injEq] at hc
 obtain ⟨hc1,hc2⟩ := hc
 subst hc2
 subst hc1
 obtain ⟨h1,h2⟩ := rrs_ok hrs
 exact inl_ok hf hb hname (cj_ok hE _ c false hic) h1 h2 hn

/-- The function is an iterator. -/
theorem keepsI_of {G : Gl} {E : Env} {f : FuncId} {fn : Func} {F : IF} {n : Nat} (hE : Env.Ok G E) (hf : G.P.funcs[f]? = some fn) (hc : compF G.P E fn = some F.strip) (hn : n ≤ fn.ntmps) : KeepsI G (itr n F.code F.res) f := by
 unfold compF at hc
 split at hc
 ·cases hc
 rename_i hname
 split at hc
 case h_2 => cases hc
 rename_i c hb
 split at hc
 case h_2 => cases hc
 rename_i ic hic
 split at hc
 case h_2 => cases hc
 rename_i rs hrs
 obtain ⟨F1,F2⟩ := F
 simp only [IF.strip,Option.some.injEq,IF.mk.injEq] at hc
 obtain ⟨hc1,hc2⟩ := hc
 subst hc2
 subst hc1
 obtain ⟨h1,h2⟩ := rrs_ok hrs
 exact itr_ok hf hb hname (cj_ok hE _ c false hic) h1 h2 hn

end Qk

/-
  Small words for proofs in the executor's form.
-/
namespace Qk
open Go Go.RowKit

abbrev t (n : Nat) : Operand := .tmp n
abbrev ci (n : Int) : Operand := .const (.int .i64 n)

/-- A row of bytes. -/
def bys (l : List UInt8) : List AV := l.map fun b => .int .u8 b.toNat

theorem bys_length (l : List UInt8) : (bys l).length = l.length := by simp [bys]
/-- Plain cells mean the same whatever the names and the persistent memory. -/
theorem plain_at {cs : List AV} (h : ∀ c ∈ cs,PlainV c) {G : Gl} {Φ Φ' : Phi} {ρ ρ' : Nm} {C : Array Value} {i : Nat} (hr : RepAt G Φ cs ρ C i) : RepAt G Φ' cs ρ' C i := by
 refine RepAt.mk fun j c hj => ?_
 obtain ⟨x,hx,hrep⟩ := RepAt.get hr hj
 exact ⟨x,hx,h c (List.mem_of_getElem? hj) _ _ _ _ _ _ hrep⟩
theorem plain_int (k : IntKind) (n : Int) : PlainV (.int k n) := fun _ _ _ _ _ _ h => by simpa [Rep] using h
theorem plain_bool (b : Bool) : PlainV (.bool b) := fun _ _ _ _ _ _ h => by simpa [Rep] using h
theorem plain_str (l : List UInt8) : PlainV (.str l) := fun _ _ _ _ _ _ h => by simpa [Rep] using h
theorem plain_raw (v : Value) : PlainV (.raw v) := fun _ _ _ _ _ _ h => by simpa [Rep] using h
theorem plain_tup {cs : List AV} (h : ∀ c ∈ cs,PlainV c) : PlainV (.tup cs) := fun _ _ _ _ _ _ hr => by
 simp only [Rep] at hr ⊢
 obtain ⟨A,h1,h2,h3⟩ := hr
 exact ⟨A,h1,h2,plain_at h h3⟩
theorem plain_bys (l : List UInt8) : ∀ c ∈ bys l,PlainV c := by
 intro c hc; obtain ⟨x,_,rfl⟩ := List.mem_map.1 hc; exact plain_int _ _
theorem PlainV.nn {a : AV} (h : PlainV a) : NN a := fun _ _ _ _ _ hr => h _ _ _ _ _ _ hr
theorem nnl_plain {cs : List AV} (h : ∀ c ∈ cs,PlainV c) : NNL cs := fun _ _ _ _ _ _ hr => plain_at h hr
theorem nnl_bys (l : List UInt8) : NNL (bys l) := nnl_plain (plain_bys l)
theorem cond_split {b : Bool} {A B : Prop} (h1 : b = true → A) (h2 : b = false → B) : cond b A B := by cases b; exact h2 rfl; exact h1 rfl

/-- The state that a loop's head, say, is known by: slots and objects, one by one. -/
def mk : List (Nat × AV) → Nat → Option AV
 | [],_ => none
 | (k,v) :: r,n => bif Nat.beq n k then some v else mk r n
def mkh : List (Nat × AO) → Nat → Option AO
 | [],_ => none
 | (k,v) :: r,n => bif Nat.beq n k then some v else mkh r n
def mks (env : List (Nat × AV)) (heap : List (Nat × AO)) (nx : Nat) : St := ⟨mk env,mkh heap,nx⟩

def HasE (S : St) : List (Nat × AV) → Prop
 | [] => True
 | (k,v) :: r => S.env k = some v ∧ HasE S r
def HasH (S : St) : List (Nat × AO) → Prop
 | [] => True
 | (k,v) :: r => S.heap k = some v ∧ HasH S r

theorem HasE.get {S : St} : ∀ {l : List (Nat × AV)},HasE S l → ∀ k v,mk l k = some v → S.env k = some v
 | [],_,k,v,e => by cases e
 | (j,u) :: r,h,k,v,e => by
  simp only [mk] at e
  cases hb : Nat.beq k j with
  | true => rw [hb] at e; cases e; rw [Nat.eq_of_beq_eq_true hb]; exact h.1
  | false => rw [hb] at e; exact HasE.get h.2 k v e
theorem HasH.get {S : St} : ∀ {l : List (Nat × AO)},HasH S l → ∀ k v,mkh l k = some v → S.heap k = some v
 | [],_,k,v,e => by cases e
 | (j,u) :: r,h,k,v,e => by
  simp only [mkh] at e
  cases hb : Nat.beq k j with
  | true => rw [hb] at e; cases e; rw [Nat.eq_of_beq_eq_true hb]; exact h.1
  | false => rw [hb] at e; exact HasH.get h.2 k v e

def look {α : Type _} : List (Nat × α) → Nat → Option α
 | [],_ => none
 | (k,v) :: r,n => bif Nat.beq n k then some v else look r n

/-- What is known of the functions that are called, as lists. -/
def envX (fns : List (Nat × PC)) (tags : List (Nat × Nat)) (clos : List (Nat × PC)) (hfns hclos : List (Nat × HTran)) (its : List (Nat × ITran)) (fls : List (Nat × FC)) (bt bT : TypeId) (fbs : List (Nat × BC) := []) : Env :=
 ⟨look fns,look tags,look clos,look hfns,look hclos,look its,look fls,look fbs,bt,bT⟩
def AllP {α : Type _} (p : Nat → α → Prop) : List (Nat × α) → Prop
 | [] => True
 | q :: r => p q.1 q.2 ∧ AllP p r

def AllK (G : Gl) : List (Nat × PC) → Prop
 | [] => True
 | p :: r => KeepsC G p.2 (fun _ => none) p.1 #[] ∧ AllK G r
def AllT (G : Gl) : List (Nat × Nat) → Prop
 | [] => True
 | p :: r => G.tag p.2 = p.1 ∧ AllT G r
def AllC (G : Gl) : List (Nat × PC) → Prop
 | [] => True
 | p :: r => KeepsC G p.2 (fun _ => none) (G.tag p.1) #[] ∧ AllC G r

theorem look_mem {α : Type _} : ∀ {l : List (Nat × α)} {n : Nat} {v : α},look l n = some v → (n,v) ∈ l
 | [],_,_,h => by cases h
 | (k,u) :: r,n,v,h => by
  simp only [look] at h
  cases hb : Nat.beq n k with
  | true => rw [hb] at h; cases h; rw [Nat.eq_of_beq_eq_true hb]; simp
  | false => rw [hb] at h; exact List.mem_cons_of_mem _ (look_mem h)
theorem AllK.get {G : Gl} : ∀ {l : List (Nat × PC)},AllK G l → ∀ p ∈ l,KeepsC G p.2 (fun _ => none) p.1 #[]
 | [],_,_,h => by cases h
 | q :: r,h,p,hp => by
  rcases List.mem_cons.1 hp with e | e
  ·rw [e]; exact h.1
  ·exact AllK.get h.2 p e
theorem AllT.get {G : Gl} : ∀ {l : List (Nat × Nat)},AllT G l → ∀ p ∈ l,G.tag p.2 = p.1
 | [],_,_,h => by cases h
 | q :: r,h,p,hp => by
  rcases List.mem_cons.1 hp with e | e
  ·rw [e]; exact h.1
  ·exact AllT.get h.2 p e
theorem AllC.get {G : Gl} : ∀ {l : List (Nat × PC)},AllC G l → ∀ p ∈ l,KeepsC G p.2 (fun _ => none) (G.tag p.1) #[]
 | [],_,_,h => by cases h
 | q :: r,h,p,hp => by
  rcases List.mem_cons.1 hp with e | e
  ·rw [e]; exact h.1
  ·exact AllC.get h.2 p e
theorem AllP.get {α : Type _} {p : Nat → α → Prop} : ∀ {l : List (Nat × α)},AllP p l → ∀ q ∈ l,p q.1 q.2
 | [],_,_,h => by cases h
 | q :: r,h,x,hx => by
  rcases List.mem_cons.1 hx with e | e
  ·rw [e]; exact h.1
  ·exact AllP.get h.2 x e
theorem envX_ok {G : Gl} {fns : List (Nat × PC)} {tags : List (Nat × Nat)} {clos : List (Nat × PC)} {hfns hclos : List (Nat × HTran)} {its : List (Nat × ITran)} {fls : List (Nat × FC)} {fbs : List (Nat × BC)} (h1 : AllK G fns) (h2 : AllT G tags) (h3 : AllC G clos)
  (h4 : AllP (fun f T => KeepsH G T f) hfns) (h5 : AllP (fun t T => KeepsH G T (G.tag t)) hclos) (h6 : AllP (fun t T => KeepsI G T (G.tag t)) its) (h7 : AllP (fun f C => KeepsF G C f) fls) (h8 : AllP (fun f C => KeepsB G C f) fbs := by trivial) : Env.Ok G (envX fns tags clos hfns hclos its fls G.bt G.bT fbs) :=
 ⟨fun f C h => h1.get (f,C) (look_mem h),fun f t h => h2.get (f,t) (look_mem h),fun t C h => h3.get (t,C) (look_mem h),
  fun f T h => h4.get (f,T) (look_mem h),fun t T h => h5.get (t,T) (look_mem h),fun t T h => h6.get (t,T) (look_mem h),fun f C h => h7.get (f,C) (look_mem h),fun f C h => h8.get (f,C) (look_mem h),rfl,rfl⟩
end Qk

/-
  A state that names things otherwise; a slice that nobody will write any more.
-/
namespace Qk
open Go Go.RowKit

mutual
/-- The first value, in the new names, is the second, in the old ones. -/
def RenV (τ : List Nat) : AV → AV → Prop
 | .ref n o,v => ∃ m,τ[n]? = some m ∧ v = .ref m o
 | .sl n o l,v => ∃ m,τ[n]? = some m ∧ v = .sl m o l
 | .vw n o l e,v => ∃ m,τ[n]? = some m ∧ v = .vw m o l e
 | .hnd n,v => ∃ m,τ[n]? = some m ∧ v = .hnd m
 | .agg cs,v => (v = .agg cs ∧ NNL cs) ∨ ∃ ds,v = .agg ds ∧ RenL τ cs ds
 | .tup cs,v => (v = .tup cs ∧ NNL cs) ∨ ∃ ds,v = .tup ds ∧ RenL τ cs ds
 | .clo t cs,v => (v = .clo t cs ∧ NNL cs) ∨ ∃ ds,v = .clo t ds ∧ RenL τ cs ds
 | .int k n,v => v = .int k n
 | .bool b,v => v = .bool b
 | .str l,v => v = .str l
 | .raw x,v => v = .raw x
 | .ilist e l cs,v => v = .ilist e l cs
 | .iref cs o,v => v = .iref cs o
 | .sem R,v => v = .sem R
def RenL (τ : List Nat) : List AV → List AV → Prop
 | [],ds => ds = []
 | c :: cs,ds => ∃ d es,ds = d :: es ∧ RenV τ c d ∧ RenL τ cs es
end

def renN (τ : List Nat) (ρ : Nm) : Nm := fun n => match τ[n]? with | some m => ρ m | none => none

theorem RenL.length {τ : List Nat} : ∀ {cs ds : List AV},RenL τ cs ds → ds.length = cs.length
 | [],ds,h => by simp only [RenL] at h; subst h; rfl
 | c :: cs,ds,h => by
  simp only [RenL] at h
  obtain ⟨d,es,rfl,_,h2⟩ := h
  simp [RenL.length h2]

mutual
theorem RenV.rep {G : Gl} {Φ : Phi} {ρ : Nm} {τ : List Nat} : ∀ (v : AV) {v' : AV} {x : Value},RenV τ v v' → Rep G Φ v' ρ x → Rep G Φ v (renN τ ρ) x
 | .ref n o,v',x,h,hr => by
  simp only [RenV] at h; obtain ⟨m,h1,rfl⟩ := h
  simp only [Rep] at hr ⊢; obtain ⟨hd,h2,h3⟩ := hr; exact ⟨hd,by simp [renN,h1,h2],h3⟩
 | .sl n o l,v',x,h,hr => by
  simp only [RenV] at h; obtain ⟨m,h1,rfl⟩ := h
  simp only [Rep] at hr ⊢; obtain ⟨hd,h2,h3⟩ := hr; exact ⟨hd,by simp [renN,h1,h2],h3⟩
 | .vw n o l e,v',x,h,hr => by
  simp only [RenV] at h; obtain ⟨m,h1,rfl⟩ := h
  simp only [Rep] at hr ⊢; obtain ⟨hd,a,c,h2,h3⟩ := hr; exact ⟨hd,a,c,by simp [renN,h1,h2],h3⟩
 | .hnd n,v',x,h,hr => by
  simp only [RenV] at h; obtain ⟨m,h1,rfl⟩ := h
  simp only [Rep] at hr ⊢; obtain ⟨hd,h2,h3⟩ := hr; exact ⟨hd,by simp [renN,h1,h2],h3⟩
 | .agg cs,v',x,h,hr => by
  simp only [RenV] at h
  rcases h with ⟨rfl,h1⟩ | ⟨ds,rfl,h1⟩
  ·simp only [Rep] at hr ⊢; obtain ⟨A,h2,h3,h4⟩ := hr; exact ⟨A,h2,h3,h1 _ _ _ _ _ _ h4⟩
  ·simp only [Rep] at hr ⊢; obtain ⟨A,h2,h3,h4⟩ := hr; exact ⟨A,h2,by rw [h3,h1.length],RenL.rep cs h1 h4⟩
 | .tup cs,v',x,h,hr => by
  simp only [RenV] at h
  rcases h with ⟨rfl,h1⟩ | ⟨ds,rfl,h1⟩
  ·simp only [Rep] at hr ⊢; obtain ⟨A,h2,h3,h4⟩ := hr; exact ⟨A,h2,h3,h1 _ _ _ _ _ _ h4⟩
  ·simp only [Rep] at hr ⊢; obtain ⟨A,h2,h3,h4⟩ := hr; exact ⟨A,h2,by rw [h3,h1.length],RenL.rep cs h1 h4⟩
 | .clo t cs,v',x,h,hr => by
  simp only [RenV] at h
  rcases h with ⟨rfl,h1⟩ | ⟨ds,rfl,h1⟩
  ·simp only [Rep] at hr ⊢; obtain ⟨A,h2,h3,h4⟩ := hr; exact ⟨A,h2,h3,h1 _ _ _ _ _ _ h4⟩
  ·simp only [Rep] at hr ⊢; obtain ⟨A,h2,h3,h4⟩ := hr; exact ⟨A,h2,by rw [h3,h1.length],RenL.rep cs h1 h4⟩
 | .int k n,v',x,h,hr => by simp only [RenV] at h; subst h; simpa [Rep] using hr
 | .bool b,v',x,h,hr => by simp only [RenV] at h; subst h; simpa [Rep] using hr
 | .str l,v',x,h,hr => by simp only [RenV] at h; subst h; simpa [Rep] using hr
 | .raw y,v',x,h,hr => by simp only [RenV] at h; subst h; simpa [Rep] using hr
 | .ilist e l cs,v',x,h,hr => by simp only [RenV] at h; subst h; simpa [Rep] using hr
 | .iref cs o,v',x,h,hr => by simp only [RenV] at h; subst h; simpa [Rep] using hr
 | .sem R,v',x,h,hr => by simp only [RenV] at h; subst h; simpa [Rep] using hr
theorem RenL.rep {G : Gl} {Φ : Phi} {ρ : Nm} {τ : List Nat} : ∀ (cs : List AV) {ds : List AV} {C : Array Value} {i : Nat},RenL τ cs ds → RepAt G Φ ds ρ C i → RepAt G Φ cs (renN τ ρ) C i
 | [],ds,C,i,h,hr => by simp [RepAt]
 | c :: cs,ds,C,i,h,hr => by
  simp only [RenL] at h
  obtain ⟨d,es,rfl,h1,h2⟩ := h
  simp only [RepAt] at hr ⊢
  obtain ⟨⟨x,h3,h4⟩,h5⟩ := hr
  exact ⟨⟨x,h3,RenV.rep c h1 h4⟩,RenL.rep cs h2 h5⟩
end

def RenC (τ : List Nat) (cs ds : List AV) : Prop := (ds = cs ∧ NNL cs) ∨ RenL τ cs ds
theorem RenC.len {τ : List Nat} {cs ds : List AV} (h : RenC τ cs ds) : ds.length = cs.length := by
 rcases h with ⟨rfl,_⟩ | h
 ·rfl
 ·exact h.length
theorem RenC.rep {G : Gl} {Φ : Phi} {ρ : Nm} {τ : List Nat} {cs ds : List AV} {C : Array Value} {i : Nat} (h : RenC τ cs ds) (hr : RepAt G Φ ds ρ C i) : RepAt G Φ cs (renN τ ρ) C i := by
 rcases h with ⟨rfl,h1⟩ | h
 ·exact h1 _ _ _ _ _ _ hr
 ·exact RenL.rep cs h hr

def RenO (τ : List Nat) : AO → AO → Prop
 | .cl q cs,o => ∃ ds,o = .cl q ds ∧ RenC τ cs ds
 | .ls q e cs,o => ∃ ds,o = .ls q e ds ∧ RenC τ cs ds
 | .opq R,o => (o = .opq R ∧ ∃ m,R = mapR m) ∨ (∃ n n' m D cur,R = rangeR n m D cur ∧ τ[n]? = some n' ∧ o = .opq (rangeR n' m D cur)) ∨ (o = .opq R ∧ ∃ P,R = tokR P)

def HasR (τ : List Nat) (S : St) : List (Nat × AV) → Prop
 | [] => True
 | (k,v) :: r => (∃ v',S.env k = some v' ∧ RenV τ v v') ∧ HasR τ S r
def HasO (τ : List Nat) (S : St) : List (Nat × AO) → Prop
 | [] => True
 | (k,o) :: r => (∃ m o',τ[k]? = some m ∧ S.heap m = some o' ∧ RenO τ o o') ∧ HasO τ S r

theorem HasR.get {τ : List Nat} {S : St} : ∀ {l : List (Nat × AV)},HasR τ S l → ∀ k v,mk l k = some v → ∃ v',S.env k = some v' ∧ RenV τ v v'
 | [],_,k,v,e => by cases e
 | (j,u) :: r,h,k,v,e => by
  simp only [mk] at e
  cases hb : Nat.beq k j with
  | true => rw [hb] at e; cases e; rw [Nat.eq_of_beq_eq_true hb]; exact h.1
  | false => rw [hb] at e; exact HasR.get h.2 k v e
theorem HasO.get {τ : List Nat} {S : St} : ∀ {l : List (Nat × AO)},HasO τ S l → ∀ k o,mkh l k = some o → ∃ m o',τ[k]? = some m ∧ S.heap m = some o' ∧ RenO τ o o'
 | [],_,k,v,e => by cases e
 | (j,u) :: r,h,k,v,e => by
  simp only [mkh] at e
  cases hb : Nat.beq k j with
  | true => rw [hb] at e; cases e; rw [Nat.eq_of_beq_eq_true hb]; exact h.1
  | false => rw [hb] at e; exact HasO.get h.2 k v e

/-- The state under new names: the i-th is the old name τ[i]. -/
theorem sub_renL {m : Nat} {S : St} (τ : List Nat) {env : List (Nat × AV)} {heap : List (Nat × AO)} {nx : Nat} (hfix : ∀ i,i < m → τ[i]? = some i) (hn : τ.length = nx) (hnd : ∀ n m,n ≠ m → mkh heap n ≠ none → mkh heap m ≠ none → ∀ j,τ[n]? = some j → τ[m]? = some j → False) (h1 : HasR τ S env) (h2 : HasO τ S heap) : SubSt m S (mks env heap nx) := by
 rintro G B X Φ0 w0 N D a w hm ⟨B1,X1,w1,ρ,Φ,a1,a2,a3,a4,a5,a6⟩
 have hnm : NmLe D.nm (renN τ ρ) := fun n x e => by
  have h3 := hfix n (Nat.lt_of_lt_of_le (D.lt n x e) hm)
  simp [renN,h3,a2.nm n x e]
 refine ⟨B1,X1,w1,renN τ ρ,Φ,a1,⟨a2.ext,a2.bs,hnm,a2.marks⟩,a3,a4,?_,?_⟩
 ·intro k v e
  obtain ⟨v',h3,h4⟩ := h1.get k v e
  obtain ⟨x,h5,h6⟩ := a5 k v' h3
  exact ⟨x,h5,RenV.rep v h4 h6⟩
 ·refine ⟨a6.os,a6.tape,a6.output,a6.size,a6.base,a6.frame,a6.phi,a6.gb,?_,?_,?_⟩
  ·intro n h e
   simp only [renN] at e
   split at e
   ·rename_i m hm
    have := (List.getElem?_eq_some_iff.1 hm).1
    show n < nx
    omega
   ·cases e
  ·intro n o e
   obtain ⟨m,o',h3,h4,h5⟩ := h2.get n o e
   obtain ⟨hd,h6,h7,h8⟩ := a6.objs m o' h4
   cases o with
   | cl tc cs =>
    obtain ⟨ds,rfl,h9⟩ := h5
    refine ⟨hd,by simp [renN,h3,h6],?_,h8⟩
    obtain ⟨⟨q1,C,ty,fr,q2,q3,q4,q5⟩,q9⟩ := h7
    exact ⟨⟨q1,C,ty,fr,q2,by rw [q3,h9.len],q4,h9.rep q5⟩,q9⟩
   | ls tc ez cs =>
    obtain ⟨ds,rfl,h9⟩ := h5
    refine ⟨hd,by simp [renN,h3,h6],?_,h8⟩
    obtain ⟨⟨q0,q1⟩,q9⟩ := h7
    refine ⟨⟨q0,?_⟩,q9⟩
    rcases q1 with ⟨q1,q2,q3⟩ | ⟨q1,q2,C,ty,fr,q3,q4,q5,q6,q7⟩
    ·refine .inl ⟨q1,?_,q3⟩
     have := h9.len
     rw [q2] at this
     exact List.length_eq_zero_iff.1 this.symm
    ·exact .inr ⟨q1,q2,C,ty,fr,q3,q4,by rw [← h9.len]; exact q5,q6,h9.rep q7⟩
   | opq R =>
    rcases h5 with ⟨rfl,mc,rfl⟩ | ⟨n1,n2,mc,D1,cur,rfl,hτ,rfl⟩ | ⟨rfl,P,rfl⟩
    ·have h7' : mapR mc G Φ (renN τ ρ) w hd := h7.1
     exact ⟨hd,by simp [renN,h3,h6],⟨h7',mapR_stay h7'⟩,h8⟩
    ·obtain ⟨hm,b0,b1⟩ := h7.1
     have h7' : rangeR n1 mc D1 cur G Φ (renN τ ρ) w hd := ⟨hm,by simp [renN,hτ,b0],b1⟩
     exact ⟨hd,by simp [renN,h3,h6],⟨h7',rangeR_stay h7'⟩,h8⟩
    ·exact ⟨hd,by simp [renN,h3,h6],⟨h7.1,fun w' Φ' ρ' q1 q2 _ q4 => h7.2 w' Φ' ρ q1 q2 (NmLe.refl _) q4⟩,h8⟩
  ·intro n m h g hnm e1 e2 e3 e4
   have live : ∀ k,mkh heap k ≠ none → ∃ j o',τ[k]? = some j ∧ S.heap j = some o' := by
    intro k hk
    cases e : mkh heap k with
    | none => exact absurd e hk
    | some o =>
     obtain ⟨j,o',q1,q2,_⟩ := h2.get k o e
     exact ⟨j,o',q1,q2⟩
   obtain ⟨j1,o1,p1,p2⟩ := live n e1
   obtain ⟨j2,o2,r1,r2⟩ := live m e2
   have hj : j1 ≠ j2 := by
    intro e
    subst e
    exact hnd n m hnm e1 e2 j1 p1 r1
   refine a6.disj j1 j2 h g hj (by rw [p2]; simp) (by rw [r2]; simp) ?_ ?_
   ·simpa [renN,p1] using e3
   ·simpa [renN,r1] using e4

theorem nodup_look {τ : List Nat} (h : τ.Nodup) (n m j : Nat) (hnm : n ≠ m) (p1 : τ[n]? = some j) (r1 : τ[m]? = some j) : False := by
 obtain ⟨b1,b2⟩ := List.getElem?_eq_some_iff.1 p1
 obtain ⟨c1,c2⟩ := List.getElem?_eq_some_iff.1 r1
 rcases Nat.lt_or_gt_of_ne hnm with hlt | hlt
 ·exact List.pairwise_iff_getElem.1 h n m b1 c1 hlt (b2.trans c2.symm)
 ·exact List.pairwise_iff_getElem.1 h m n c1 b1 hlt (c2.trans b2.symm)
theorem sub_renF {m : Nat} {S : St} (τ : List Nat) {env : List (Nat × AV)} {heap : List (Nat × AO)} {nx : Nat} (hfix : ∀ i,i < m → τ[i]? = some i) (hn : τ.length = nx) (hnd : τ.Nodup) (h1 : HasR τ S env) (h2 : HasO τ S heap) : SubSt m S (mks env heap nx) :=
 sub_renL τ hfix hn (fun n m hnm _ _ j p1 r1 => nodup_look hnd n m j hnm p1 r1) h1 h2

theorem mkh_mem : ∀ {heap : List (Nat × AO)} {n : Nat},mkh heap n ≠ none → n ∈ heap.map (·.1)
 | [],_,h => absurd rfl h
 | (k,v) :: r,n,h => by
  simp only [mkh] at h
  cases hb : Nat.beq n k with
  | true => rw [Nat.eq_of_beq_eq_true hb]; simp
  | false => rw [hb] at h; exact List.mem_cons_of_mem _ (mkh_mem h)
/-- Old names may be given twice, if the objects are not. -/
theorem sub_renG {m : Nat} {S : St} (τ ks : List Nat) {env : List (Nat × AV)} {heap : List (Nat × AO)} {nx : Nat} (hks : heap.map (·.1) = ks) (hfix : ∀ i,i < m → τ[i]? = some i) (hn : τ.length = nx)
  (hnd : (ks.all fun n => ks.all fun m => Nat.beq n m || !decide (τ[n]? = τ[m]?)) = true) (h1 : HasR τ S env) (h2 : HasO τ S heap) : SubSt m S (mks env heap nx) := by
 refine sub_renL τ hfix hn (fun n m hnm e1 e2 j p1 r1 => ?_) h1 h2
 rw [List.all_eq_true] at hnd
 have h3 := hnd n (hks ▸ mkh_mem e1)
 rw [List.all_eq_true] at h3
 have h4 := h3 m (hks ▸ mkh_mem e2)
 rw [Bool.or_eq_true] at h4
 rcases h4 with h4 | h4
 ·exact hnm (Nat.eq_of_beq_eq_true h4)
 ·rw [p1,r1] at h4
  simp at h4

theorem sub_ren {S : St} (τ : List Nat) {env : List (Nat × AV)} {heap : List (Nat × AO)} {nx : Nat} (hn : τ.length = nx) (hnd : τ.Nodup) (h1 : HasR τ S env) (h2 : HasO τ S heap) : SubSt 0 S (mks env heap nx) :=
 sub_renF τ (fun _ h => absurd h (Nat.not_lt_zero _)) hn hnd h1 h2

theorem eI {k : IntKind} {a b : Int} (h : a = b) : AV.int k a = AV.int k b := by rw [h]
theorem eB {τ : List Nat} {xs : List UInt8} {cs : List AV} (h : cs = bys xs) : RenC τ (bys xs) cs := .inl ⟨h,nnl_bys _⟩

theorem lay_all {cs vs : List AV} (h : vs.length = cs.length) : vs = lay cs 0 vs := by simp [lay,h]

theorem eBo {a b : Bool} (h : a = b) : AV.bool a = AV.bool b := by rw [h]
theorem eSl {n o a b : Nat} (h : a = b) : AV.sl n o a = AV.sl n o b := by rw [h]
theorem eN {τ : List Nat} {xs cs : List AV} (hn : NNL xs) (h : cs = xs) : RenC τ xs cs := .inl ⟨h,hn⟩
theorem bys_app (a b : List UInt8) : bys (a ++ b) = bys a ++ bys b := by simp [bys]
end Qk

/-
  Steps that nothing runs: a nil slice gets a name; a slice that nobody will write any more is looked at as a value.
-/
namespace Qk
open Go Go.RowKit

/-- The head of a nil slice. -/
def nilHd (esz : Nat) : Hd := ⟨0,esz,0,true,undef,[]⟩

theorem wf_nil {G : Gl} {B : Nat} {X : Nat → Prop} {w0 : World} {ρ : Nm} {Φ : Phi} {H : Nat → Option AO} {nx : Nat} {w : World} (h : Wf G B X w0 ρ Φ H nx w) (tau : Bool) (esz : Nat) :
  Wf G B X w0 (upd ρ nx (some (nilHd esz))) Φ (upd H nx (some (.ls tau esz []))) (nx + 1) w := by
 have hfr := h.none_next
 have hle := NmLe.upd hfr (nilHd esz)
 refine ⟨h.os,h.tape,h.output,h.size,h.base,h.frame,h.phi,h.gb,?_,?_,?_⟩
 ·intro n x e
  by_cases hn : n = nx
  ·omega
  ·rw [upd_ne _ _ hn] at e
   have := h.dom n x e
   omega
 ·intro n o e
  by_cases hn : n = nx
  ·subst hn
   rw [upd_same] at e; cases e
   exact ⟨nilHd esz,upd_same _ _ _,⟨⟨rfl,.inl ⟨rfl,rfl,rfl⟩⟩,fun _ e => by cases e⟩,fun b hb => by cases hb⟩
  ·rw [upd_ne _ _ hn] at e
   obtain ⟨x,h1,h2,h3⟩ := h.objs n o e
   exact ⟨x,by rw [upd_ne _ _ hn]; exact h1,ORep.mono (PhiLe.refl _) hle h.phi (fun _ _ => rfl) h2,h3⟩
 ·intro n m x y hnm e1 e2 e3 e4
  by_cases hn : n = nx
  ·subst hn
   rw [upd_same] at e3; cases e3
   intro b hb; cases hb
  ·by_cases hm : m = nx
   ·subst hm
    rw [upd_same] at e4; cases e4
    intro b _ hb; cases hb
   ·rw [upd_ne _ _ hn] at e1 e3
    rw [upd_ne _ _ hm] at e2 e4
    exact h.disj n m x y hnm e1 e2 e3 e4

/-- A nil slice in a cell gets a name. -/
theorem sub_nil {m : Nat} {S : St} (n j : Nat) (tau : Bool) (esz : Nat) {q : Bool} {cs : List AV} (hH : S.heap n = some (.cl q cs)) (hj : cs[j]? = some (.raw (.slice none 0 0))) :
  SubSt m S ⟨S.env,upd (upd S.heap S.next (some (.ls tau esz []))) n (some (.cl q (cs.set j (.sl S.next 0 0)))),S.next + 1⟩ := by
 rintro G B X Φ0 w0 N D a w hm ⟨B1,X1,w1,ρ,Φ,a1,a2,a3,a4,a5,a6⟩
 have hfr := a6.none_next
 have hle := NmLe.upd hfr (nilHd esz)
 refine ⟨B1,X1,w1,upd ρ S.next (some (nilHd esz)),Φ,a1,a2.le hle (fun b o e => .inl e),a3,a4,a5.mono (PhiLe.refl _) hle,?_⟩
 have hw := wf_nil a6 tau esz
 obtain ⟨hd,h1,h2,h3⟩ := a6.objs n _ hH
 have hn : n ≠ S.next := by intro e; subst e; rw [hfr] at h1; cases h1
 have hH2 : upd S.heap S.next (some (.ls tau esz [])) n = some (.cl q cs) := by rw [upd_ne _ _ hn]; exact hH
 have hρ2 : upd ρ S.next (some (nilHd esz)) n = some hd := by rw [upd_ne _ _ hn]; exact h1
 refine (hw.zero.write (o := .cl q (cs.set j (.sl S.next 0 0))) (w' := w) hH2 rfl hρ2 rfl rfl rfl rfl (fun _ _ => rfl) ?_).up hw.dom
 obtain ⟨⟨q1,C,ty,fr,q2,q3,q4,q5⟩,q9⟩ := h2
 refine ⟨⟨q1,C,ty,fr,q2,by rw [List.length_set]; exact q3,q4,RepAt.mk fun i c hi => ?_⟩,q9⟩
 by_cases hij : i = j
 ·subst hij
  rw [List.getElem?_set_self (List.getElem?_eq_some_iff.1 hj).1] at hi
  cases hi
  obtain ⟨x,hx,hr⟩ := RepAt.get q5 hj
  simp only [Rep] at hr
  refine ⟨x,hx,?_⟩
  simp only [Rep]
  exact ⟨nilHd esz,upd_same _ _ _,.inl ⟨rfl,rfl,rfl,hr⟩⟩
 ·rw [List.getElem?_set_ne (Ne.symm hij)] at hi
  obtain ⟨x,hx,hr⟩ := RepAt.get q5 hi
  exact ⟨x,hx,Rep.mono (PhiLe.refl _) c hle hr⟩

/-- A nil slice in a slot gets a name. -/
theorem sub_nilE {m : Nat} {S : St} (k : Nat) (tau : Bool) (esz : Nat) (hk : S.env k = some (.raw (.slice none 0 0))) :
  SubSt m S ⟨upd S.env k (some (.sl S.next 0 0)),upd S.heap S.next (some (.ls tau esz [])),S.next + 1⟩ := by
 rintro G B X Φ0 w0 N D a w hm ⟨B1,X1,w1,ρ,Φ,a1,a2,a3,a4,a5,a6⟩
 have hfr := a6.none_next
 have hle := NmLe.upd hfr (nilHd esz)
 refine ⟨B1,X1,w1,upd ρ S.next (some (nilHd esz)),Φ,a1,a2.le hle (fun b o e => .inl e),a3,a4,?_,wf_nil a6 tau esz⟩
 intro i v hi
 dsimp only at hi
 by_cases hik : i = k
 ·subst hik
  rw [upd_same] at hi; cases hi
  obtain ⟨x,hx,hr⟩ := a5 i _ hk
  simp only [Rep] at hr
  refine ⟨x,hx,?_⟩
  simp only [Rep]
  exact ⟨nilHd esz,upd_same _ _ _,.inl ⟨rfl,rfl,rfl,hr⟩⟩
 ·rw [upd_ne _ _ hik] at hi
  exact (a5.mono (PhiLe.refl _) hle) i v hi

mutual
/-- The first value is the second, the slices of the names F looked at as values. -/
def FzV (S : St) (F : List Nat) : AV → AV → Prop
 | .ilist e l cs,v => v = .ilist e l cs ∨ (v = .raw (.slice none 0 0) ∧ l = 0 ∧ cs = []) ∨ ∃ n off τ ds,v = .sl n off l ∧ n ∈ F ∧ S.heap n = some (.ls τ e ds) ∧ (off + l) * e ≤ ds.length ∧ cs = (ds.drop (off * e)).take (l * e) ∧ NNL cs
 | .agg cs,v => v = .agg cs ∨ ∃ ds,v = .agg ds ∧ FzL S F cs ds
 | .tup cs,v => v = .tup cs ∨ ∃ ds,v = .tup ds ∧ FzL S F cs ds
 | .int k n,v => v = .int k n
 | .bool b,v => v = .bool b
 | .str l,v => v = .str l
 | .raw x,v => v = .raw x
 | .ref n o,v => v = .ref n o
 | .sl n o l,v => v = .sl n o l
 | .vw n o l e,v => v = .vw n o l e
 | .hnd n,v => v = .hnd n
 | .iref cs o,v => v = .iref cs o ∨ ∃ n τ,v = .ref n o ∧ n ∈ F ∧ S.heap n = some (.cl τ cs) ∧ NNL cs
 | .sem R,v => v = .sem R ∨ ∃ n m,v = .hnd n ∧ n ∈ F ∧ S.heap n = some (.opq (mapR m)) ∧ R = mapS m
 | .clo t cs,v => v = .clo t cs ∨ ∃ ds,v = .clo t ds ∧ FzL S F cs ds
def FzL (S : St) (F : List Nat) : List AV → List AV → Prop
 | [],ds => ds = []
 | c :: cs,ds => ∃ d es,ds = d :: es ∧ FzV S F c d ∧ FzL S F cs es
end
theorem FzL.length {S : St} {F : List Nat} : ∀ {cs ds : List AV},FzL S F cs ds → ds.length = cs.length
 | [],ds,h => by simp only [FzL] at h; subst h; rfl
 | c :: cs,ds,h => by
  simp only [FzL] at h
  obtain ⟨d,es,rfl,_,h2⟩ := h
  simp [FzL.length h2]

section
variable {G : Gl} {B : Nat} {X : Nat → Prop} {w0 : World} {ρ : Nm} {Φ Φ' : Phi} {S : St} {F : List Nat} {w : World}

theorem fz_sl (hw : Wf0 G B X w0 ρ Φ S.heap w) (hle : PhiLe Φ Φ') (hin : ∀ n ∈ F,∀ o hd,S.heap n = some o → ρ n = some hd → ∀ b ∈ hd.fp,Φ' b = w.heap[b]?)
  {e l n off : Nat} {τ : Bool} {cs ds : List AV} {x : Value} (h1 : n ∈ F) (h2 : S.heap n = some (.ls τ e ds)) (h3 : (off + l) * e ≤ ds.length) (h4 : cs = (ds.drop (off * e)).take (l * e)) (h5 : NNL cs)
  (hr : Rep G Φ (.sl n off l) ρ x) : Rep G Φ' (.ilist e l cs) ρ x := by
 simp only [Rep] at hr
 obtain ⟨hd,hρ,hv⟩ := hr
 obtain ⟨g5,g6⟩ := hw.lstAt h2 hρ
 have hl : cs.length = l * e := by rw [h4]; rw [Nat.add_mul] at h3; simp; omega
 simp only [Rep]
 refine ⟨hl,?_⟩
 rcases hv with ⟨y1,y2,y3,y4⟩ | ⟨y1,y2,y3⟩
 ·subst y3; exact ⟨none,0,Nat.le_refl _,y4,.inl (by rw [h4]; simp)⟩
 ·rcases g6 with g6 | ⟨_,gf,C,ty,fr,g6,g7,g8,g9,g10⟩
  ·rw [y1] at g6; cases g6.1
  ·rcases y3 with y3 | ⟨y5,y6,ad,c,y7⟩
   ·refine ⟨_,_,by omega,y3,.inr ⟨hd.b,off * e,C,ty,fr,by rw [g5],?_,?_⟩⟩
    ·rw [hin n h1 _ hd h2 hρ hd.b (by rw [gf]; simp)]; exact g6
    ·have := RepAt.sub (RepAt.mono hle _ (NmLe.refl _) g10) (off * e) (l * e)
     rw [← h4,Nat.zero_add] at this
     exact h5 _ _ _ _ _ _ this
   ·subst y6; exact ⟨some ad,c,Nat.zero_le _,y7,.inl (by rw [h4]; simp)⟩

mutual
theorem FzV.rep (hw : Wf0 G B X w0 ρ Φ S.heap w) (hle : PhiLe Φ Φ') (hin : ∀ n ∈ F,∀ o hd,S.heap n = some o → ρ n = some hd → ∀ b ∈ hd.fp,Φ' b = w.heap[b]?) :
  ∀ (v : AV) {v' : AV} {x : Value},FzV S F v v' → Rep G Φ v' ρ x → Rep G Φ' v ρ x
 | .ilist e l cs,v',x,h,hr => by
  simp only [FzV] at h
  rcases h with rfl | ⟨rfl,rfl,rfl⟩ | ⟨n,off,τ,ds,rfl,h1,h2,h3,h4,h5⟩
  ·exact Rep.mono hle _ (NmLe.refl _) hr
  ·simp only [Rep] at hr ⊢
   exact ⟨by simp,none,0,Nat.le_refl _,hr,.inl trivial⟩
  ·exact fz_sl hw hle hin h1 h2 h3 h4 h5 hr
 | .agg cs,v',x,h,hr => by
  simp only [FzV] at h
  rcases h with rfl | ⟨ds,rfl,h1⟩
  ·exact Rep.mono hle _ (NmLe.refl _) hr
  ·simp only [Rep] at hr ⊢; obtain ⟨A,h2,h3,h4⟩ := hr; exact ⟨A,h2,by rw [h3,h1.length],FzL.rep hw hle hin cs h1 h4⟩
 | .tup cs,v',x,h,hr => by
  simp only [FzV] at h
  rcases h with rfl | ⟨ds,rfl,h1⟩
  ·exact Rep.mono hle _ (NmLe.refl _) hr
  ·simp only [Rep] at hr ⊢; obtain ⟨A,h2,h3,h4⟩ := hr; exact ⟨A,h2,by rw [h3,h1.length],FzL.rep hw hle hin cs h1 h4⟩
 | .int k n,v',x,h,hr => by simp only [FzV] at h; subst h; exact Rep.mono hle _ (NmLe.refl _) hr
 | .bool b,v',x,h,hr => by simp only [FzV] at h; subst h; exact Rep.mono hle _ (NmLe.refl _) hr
 | .str l,v',x,h,hr => by simp only [FzV] at h; subst h; exact Rep.mono hle _ (NmLe.refl _) hr
 | .raw y,v',x,h,hr => by simp only [FzV] at h; subst h; exact Rep.mono hle _ (NmLe.refl _) hr
 | .ref n o,v',x,h,hr => by simp only [FzV] at h; subst h; exact Rep.mono hle _ (NmLe.refl _) hr
 | .sl n o l,v',x,h,hr => by simp only [FzV] at h; subst h; exact Rep.mono hle _ (NmLe.refl _) hr
 | .vw n o l e,v',x,h,hr => by simp only [FzV] at h; subst h; exact Rep.mono hle _ (NmLe.refl _) hr
 | .hnd n,v',x,h,hr => by simp only [FzV] at h; subst h; exact Rep.mono hle _ (NmLe.refl _) hr
 | .iref cs o,v',x,h,hr => by
  simp only [FzV] at h
  rcases h with rfl | ⟨n,τ,rfl,h1,h2,h3⟩
  ·exact Rep.mono hle _ (NmLe.refl _) hr
  ·simp only [Rep] at hr ⊢
   obtain ⟨hd,hρ,rfl⟩ := hr
   obtain ⟨gf,C,ty,fr,g6,g7,g8,g9⟩ := hw.cellsAt h2 hρ
   refine ⟨hd.b,0,C,ty,fr,by rw [Nat.zero_add],?_,h3 _ _ _ _ _ _ (RepAt.mono hle _ (NmLe.refl _) g9)⟩
   rw [hin n h1 _ hd h2 hρ hd.b (by rw [gf]; simp)]; exact g6
 | .sem R,v',x,h,hr => by
  simp only [FzV] at h
  rcases h with rfl | ⟨n,m,rfl,h1,h2,rfl⟩
  ·exact Rep.mono hle _ (NmLe.refl _) hr
  ·simp only [Rep] at hr ⊢
   obtain ⟨hd,hρ,rfl,h3⟩ := hr
   obtain ⟨a1,a2,a3,es,cl,a4,a5,a6,a7⟩ := mapAt hw h2 hρ
   refine ⟨h3,Φ',fun _ _ e => e,hd.b,es,cl,a2,?_,a3,fun e he => ?_,fun k v hm => ?_⟩
   ·rw [hin n h1 _ hd h2 hρ hd.b (by rw [a1]; simp)]; exact a4
   ·obtain ⟨k,v,b1,b2,b3,b4⟩ := a6 e he
    exact ⟨k,v,b1,b2,Rep.mono hle k (NmLe.refl _) b3,Rep.mono hle v (NmLe.refl _) b4⟩
   ·obtain ⟨b0,e,he,b1,b2⟩ := a7 k v hm
    exact ⟨b0,e,he,Rep.mono hle k (NmLe.refl _) b1,Rep.mono hle v (NmLe.refl _) b2⟩
 | .clo t cs,v',x,h,hr => by
  simp only [FzV] at h
  rcases h with rfl | ⟨ds,rfl,h1⟩
  ·exact Rep.mono hle _ (NmLe.refl _) hr
  ·simp only [Rep] at hr ⊢; obtain ⟨A,h2,h3,h4⟩ := hr; exact ⟨A,h2,by rw [h3,h1.length],FzL.rep hw hle hin cs h1 h4⟩
theorem FzL.rep (hw : Wf0 G B X w0 ρ Φ S.heap w) (hle : PhiLe Φ Φ') (hin : ∀ n ∈ F,∀ o hd,S.heap n = some o → ρ n = some hd → ∀ b ∈ hd.fp,Φ' b = w.heap[b]?) :
  ∀ (cs : List AV) {ds : List AV} {C : Array Value} {i : Nat},FzL S F cs ds → RepAt G Φ ds ρ C i → RepAt G Φ' cs ρ C i
 | [],ds,C,i,h,hr => by simp [RepAt]
 | c :: cs,ds,C,i,h,hr => by
  simp only [FzL] at h
  obtain ⟨d,es,rfl,h1,h2⟩ := h
  simp only [RepAt] at hr ⊢
  obtain ⟨⟨x,h3,h4⟩,h5⟩ := hr
  exact ⟨⟨x,h3,FzV.rep hw hle hin c h1 h4⟩,FzL.rep hw hle hin cs h2 h5⟩
end
end

def FzC (S : St) (F : List Nat) (cs ds : List AV) : Prop := ds = cs ∨ FzL S F cs ds
def FzO (S : St) (F : List Nat) : AO → AO → Prop
 | .cl q cs,o => ∃ ds,o = .cl q ds ∧ FzC S F cs ds
 | .ls q e cs,o => ∃ ds,o = .ls q e ds ∧ FzC S F cs ds
 | .opq R,o => o = .opq R
def HasF (S : St) (F : List Nat) : List (Nat × AV) → Prop
 | [] => True
 | (k,v) :: r => (∃ v',S.env k = some v' ∧ FzV S F v v') ∧ HasF S F r
def HasFO (S : St) (F : List Nat) : List (Nat × AO) → Prop
 | [] => True
 | (k,o) :: r => (k ∉ F ∧ ∃ o',S.heap k = some o' ∧ FzO S F o o') ∧ HasFO S F r
theorem HasF.get {S : St} {F : List Nat} : ∀ {l : List (Nat × AV)},HasF S F l → ∀ k v,mk l k = some v → ∃ v',S.env k = some v' ∧ FzV S F v v'
 | [],_,k,v,e => by cases e
 | (j,u) :: r,h,k,v,e => by
  simp only [mk] at e
  cases hb : Nat.beq k j with
  | true => rw [hb] at e; cases e; rw [Nat.eq_of_beq_eq_true hb]; exact h.1
  | false => rw [hb] at e; exact HasF.get h.2 k v e
theorem HasFO.get {S : St} {F : List Nat} : ∀ {l : List (Nat × AO)},HasFO S F l → ∀ k o,mkh l k = some o → k ∉ F ∧ ∃ o',S.heap k = some o' ∧ FzO S F o o'
 | [],_,k,v,e => by cases e
 | (j,u) :: r,h,k,v,e => by
  simp only [mkh] at e
  cases hb : Nat.beq k j with
  | true => rw [hb] at e; cases e; rw [Nat.eq_of_beq_eq_true hb]; exact h.1
  | false => rw [hb] at e; exact HasFO.get h.2 k v e

open Classical in
/-- At the end of a call that owns its memory: the slices of the names F are looked at as values. -/
theorem sub_frz {S : St} (F : List Nat) {env : List (Nat × AV)} {heap : List (Nat × AO)} {nx : Nat} (h1 : HasF S F env) (h2 : HasFO S F heap) (h3 : S.next ≤ nx) : SubTop S (mks env heap nx) := by
 rintro G B Φ0 w0 N D a w _ ⟨B1,X1,w1,ρ,Φ,a1,a2,a3,a4,a5,a6⟩
 obtain ⟨In,hIn⟩ : ∃ In : Nat → Prop,In = fun b => ∃ n ∈ F,∃ o hd,S.heap n = some o ∧ ρ n = some hd ∧ b ∈ hd.fp := ⟨_,rfl⟩
 obtain ⟨Φ',hΦ⟩ : ∃ Φ' : Phi,Φ' = fun b => if In b then w.heap[b]? else Φ b := ⟨_,rfl⟩
 have hin : ∀ b,In b → Φ b = none ∧ (B1 ≤ b ∨ X1 b) ∧ B ≤ b := by
  intro b hb
  rw [hIn] at hb
  obtain ⟨n,_,o,hd,e1,e2,e3⟩ := hb
  obtain ⟨hd',e4,_,e5⟩ := a6.objs n o e1
  rw [e2] at e4; cases e4
  obtain ⟨p1,p2,p3⟩ := e5 b e3
  refine ⟨p2,p1,?_⟩
  rcases p1 with p1 | p1
  ·exact Nat.le_trans a2.ext.le p1
  ·apply Classical.byContradiction
   intro hlt
   exact a2.ext.x b p1 (by omega)
 have hle : PhiLe Φ Φ' := by
  intro b o e
  rw [hΦ]
  by_cases hb : In b
  ·rw [(hin b hb).1] at e; cases e
  ·simp only [hb,if_false]; exact e
 have hinF : ∀ n ∈ F,∀ o hd,S.heap n = some o → ρ n = some hd → ∀ b ∈ hd.fp,Φ' b = w.heap[b]? := by
  intro n hn o hd e1 e2 b hb
  have : In b := by rw [hIn]; exact ⟨n,hn,o,hd,e1,e2,hb⟩
  rw [hΦ]; simp only [this,if_true]
 have hphi : ∀ b o,Φ' b = some o → w.heap[b]? = some o := by
  intro b o e
  rw [hΦ] at e
  simp only at e
  split at e
  ·exact e
  ·exact a6.phi b o e
 have hnew : ∀ b o,Φ' b = some o → Φ0 b = some o ∨ B ≤ b := by
  intro b o e
  by_cases hb : In b
  ·exact .inr (hin b hb).2.2
  ·rw [hΦ] at e
   simp only [hb,if_false] at e
   exact a4 b o e
 refine ⟨B1,X1,w1,ρ,Φ',a1,⟨a2.ext,a2.bs,a2.nm,?_⟩,a3.trans hle,hnew,?_,?_⟩
 ·obtain ⟨ms,m1,m2,m3⟩ := a2.marks
  refine ⟨ms,m1,m2,fun b hb => ?_⟩
  obtain ⟨q1,q2,q3,q4,q5⟩ := m3 b hb
  refine ⟨q1,q2,q3,q4,?_⟩
  have : ¬ In b := fun h => by
   rcases (hin b h).2.1 with h | h
   ·omega
   ·exact q3 h
  rw [hΦ]; simp only [this,if_false]; exact q5
 ·intro k v e
  obtain ⟨v',h4,h5⟩ := h1.get k v e
  obtain ⟨x,h6,h7⟩ := a5 k v' h4
  exact ⟨x,h6,FzV.rep a6.zero hle hinF v h5 h7⟩
 ·have live : ∀ k,mkh heap k ≠ none → k ∉ F ∧ S.heap k ≠ none := by
   intro k hk
   cases e : mkh heap k with
   | none => exact absurd e hk
   | some o =>
    obtain ⟨q1,o',q2,_⟩ := h2.get k o e
    exact ⟨q1,by rw [q2]; simp⟩
  refine ⟨a6.os,a6.tape,a6.output,a6.size,a6.base,a6.frame,hphi,G.mono _ _ hle a6.gb,fun n h e => Nat.lt_of_lt_of_le (a6.dom n h e) h3,?_,?_⟩
  ·intro n o e
   obtain ⟨q1,o',q2,q3⟩ := h2.get n o e
   obtain ⟨hd,e1,e2,e3⟩ := a6.objs n o' q2
   refine ⟨hd,e1,?_,fun b hb => ⟨(e3 b hb).1,?_,(e3 b hb).2.2⟩⟩
   ·cases o with
    | cl q cs =>
     obtain ⟨ds,rfl,h9⟩ := q3
     obtain ⟨⟨r1,C,ty,fr,r2,r3,r4,r5⟩,r9⟩ := e2
     rcases h9 with rfl | h9
     ·exact ⟨⟨r1,C,ty,fr,r2,r3,r4,RepAt.mono hle _ (NmLe.refl _) r5⟩,r9⟩
     ·exact ⟨⟨r1,C,ty,fr,r2,by rw [r3,h9.length],r4,FzL.rep a6.zero hle hinF _ h9 r5⟩,r9⟩
    | ls q ez cs =>
     obtain ⟨ds,rfl,h9⟩ := q3
     rcases h9 with rfl | h9
     ·exact ORep.mono hle (NmLe.refl _) hphi (fun _ _ => rfl) e2
     ·obtain ⟨⟨r0,r1⟩,r9⟩ := e2
      refine ⟨⟨r0,?_⟩,r9⟩
      have hlen := h9.length
      rcases r1 with ⟨p1,p2,p3⟩ | ⟨p1,p2,C,ty,fr,p3,p4,p5,p6,p7⟩
      ·refine .inl ⟨p1,?_,p3⟩
       rw [p2] at hlen
       exact List.length_eq_zero_iff.1 hlen.symm
      ·exact .inr ⟨p1,p2,C,ty,fr,p3,p4,by omega,p6,FzL.rep a6.zero hle hinF _ h9 p7⟩
    | opq R =>
     have q3' : o' = .opq R := q3
     subst q3'
     exact ORep.mono hle (NmLe.refl _) hphi (fun _ _ => rfl) e2
   ·have : ¬ In b := by
     intro h
     rw [hIn] at h
     obtain ⟨m,hm,o2,hd2,f1,f2,f3⟩ := h
     exact a6.disj n m hd hd2 (fun e => q1 (e ▸ hm)) (by rw [q2]; simp) (by rw [f1]; simp) e1 f2 b hb f3
    rw [hΦ]; simp only [this,if_false]; exact (e3 b hb).2.1
  ·intro n m x y hnm e1 e2 e3 e4
   exact a6.disj n m x y hnm (live n e1).2 (live m e2).2 e3 e4

/-- Less is known: fewer slots, fewer names. -/
theorem sub_forget {m : Nat} {S : St} {env : Nat → Option AV} {H : Nat → Option AO} {nx : Nat} (h1 : ∀ k v,env k = some v → S.env k = some v) (h2 : ∀ n o,H n = some o → S.heap n = some o) (h3 : S.next ≤ nx) : SubSt m S ⟨env,H,nx⟩ := by
 rintro G B X Φ0 w0 N D a w hm ⟨B1,X1,w1,ρ,Φ,a1,a2,a3,a4,a5,a6⟩
 refine ⟨B1,X1,w1,ρ,Φ,a1,a2,a3,a4,fun k v e => a5 k v (h1 k v e),?_⟩
 have := a6.sub (H' := H) h2
 exact ⟨this.os,this.tape,this.output,this.size,this.base,this.frame,this.phi,this.gb,fun n h e => Nat.lt_of_lt_of_le (this.dom n h e) h3,this.objs,this.disj⟩

end Qk

/-
  Builders of strings: the calls whose code the executor does not look at.
-/
namespace Qk
open Go Go.RowKit

theorem setCell_block {w : World} {b off : Nat} {C : Array Value} {ty : TypeId} {fr : Nat × Nat} (h : w.heap[b]? = some (.cells C ty fr)) (v : Value) :
  (w.setCell ⟨b,off,none⟩ v).heap[b]? = some (.cells (C.setIfInBounds off v) ty fr) := by
 unfold World.setCell
 simp only [Array.getElem?_modify,if_true,h]
 rfl
theorem setCell_other {w : World} {b off k : Nat} (h : k ≠ b) (v : Value) : (w.setCell ⟨b,off,none⟩ v).heap[k]? = w.heap[k]? := by
 unfold World.setCell
 simp only [Array.getElem?_modify,if_neg (Ne.symm h)]
theorem freeze_other {w : World} {b off n k : Nat} (h : k ≠ b) : (w.freeze ⟨b,off,none⟩ n).heap[k]? = w.heap[k]? := by
 unfold World.freeze
 split
 ·rfl
 ·simp only [Array.getElem?_modify,if_neg (Ne.symm h)]

/-- An object that nobody will look at any more. -/
theorem Wf0.lose {G : Gl} {B : Nat} {X : Nat → Prop} {w0 : World} {ρ : Nm} {Φ : Phi} {H : Nat → Option AO} {w : World} (h : Wf0 G B X w0 ρ Φ H w) {n : Nat} {hd : Hd} {old : AO} {w' : World} (hold : H n = some old) (hr : ρ n = some hd)
  (h1 : w'.os = w.os) (h2 : w'.tape = w.tape) (h3 : w'.output = w.output) (h4 : w'.heap.size = w.heap.size) (h5 : ∀ k,k ∉ hd.fp → w'.heap[k]? = w.heap[k]?) : Wf0 G B X w0 ρ Φ (upd H n none) w' := by
 have hn : H n ≠ none := by rw [hold]; simp
 have hfp : ∀ b ∈ hd.fp,(B ≤ b ∨ X b) ∧ Φ b = none ∧ b < w.heap.size := by
  obtain ⟨z,h6,_,h8⟩ := h.objs n old hold
  rw [hr] at h6; cases h6; exact h8
 have hphi : ∀ b o',Φ b = some o' → w'.heap[b]? = some o' := fun b o' e => by
  rw [h5 b (fun hb => by have := (hfp b hb).2.1; rw [e] at this; cases this)]; exact h.phi b o' e
 refine ⟨h1.trans h.os,h2.trans h.tape,h3.trans h.output,by have := h.size; omega,by have := h.base; omega,?_,hphi,h.gb,?_,?_⟩
 ·intro k hk hx
  rw [h5 k (fun hb => by rcases (hfp k hb).1 with h9 | h9; exact absurd h9 (by omega); exact hx h9)]
  exact h.frame k hk hx
 ·intro m o' e
  by_cases hm : m = n
  ·subst hm
   rw [upd_same] at e; cases e
  ·rw [upd_ne _ _ hm] at e
   obtain ⟨z,h6,h7,h8⟩ := h.objs m o' e
   refine ⟨z,h6,ORep.mono (PhiLe.refl _) (NmLe.refl _) hphi ?_ h7,fun b hb => by obtain ⟨a1,a2,a3⟩ := h8 b hb; exact ⟨a1,a2,by omega⟩⟩
   intro b hb
   refine h5 b fun hb2 => ?_
   exact h.disj n m hd z (fun e1 => hm e1.symm) hn (by rw [e]; simp) hr h6 b hb2 hb
 ·intro i m x y him e1 e2 e3 e4
  refine h.disj i m x y him ?_ ?_ e3 e4
  ·by_cases hi : i = n
   ·subst hi; exact hn
   ·rwa [upd_ne _ _ hi] at e1
  ·by_cases hi : m = n
   ·subst hi; exact hn
   ·rwa [upd_ne _ _ hi] at e2

theorem one_arg {G : Gl} {Φ : Phi} {ρ : Nm} {a : AV} {vs : Array Value} (hs : vs.size = 1) (hr : RepAt G Φ [a] ρ vs 0) : ∃ x,vs = #[x] ∧ Rep G Φ a ρ x := by
 obtain ⟨l⟩ := vs
 match l,hs with
 | [x],_ =>
  simp only [RepAt] at hr
  obtain ⟨⟨x',h1,h2⟩,_⟩ := hr
  simp at h1
  subst h1
  exact ⟨x,rfl,h2⟩

/-- The first call for a builder notes its address. -/
def H___strings_Builder__copyCheck : HTran := fun us H nx K => ∃ n p v,us = [.ref n 0] ∧ H n = some (.cl true [p,v]) ∧ (p = .raw (.pointer none) ∨ p = .ref n 0) ∧ K (.tup []) (upd H n (some (.cl true [.ref n 0,v]))) nx

/-- The builder's bytes. -/
def H___strings_Builder__String : HTran := fun us H nx K => ∃ n m p l,us = [.ref n 0] ∧ n ≠ m ∧ H n = some (.cl true [p,.sl m 0 l.length]) ∧ H m = some (.ls true 1 (bys l)) ∧ l.length ≤ 140737488355328 ∧ K (.str l) (upd H m none) nx

theorem keeps_copyCheck {G : Gl} {f : FuncId} {fn : Func} (hf : G.P.funcs[f]? = some fn) (hb : fn.body.isNone = false) (hname : (fn.name == "runtime.NumGoroutine") = false)
  (used : ∀ (b : Nat) (w : World),w.cell? ⟨b,0,none⟩ = some (.pointer (some ⟨b,0,none⟩)) → Calls G.P f #[.pointer (some ⟨b,0,none⟩)] w fun e w' => e = .returned (.tuple #[]) ∧ w' = w)
  (fresh : ∀ (b : Nat) (w : World),w.cell? ⟨b,0,none⟩ = some (.pointer none) → w.shape? b = some (G.bT,2) → w.frozen? ⟨b,0,none⟩ = false →
   Calls G.P f #[.pointer (some ⟨b,0,none⟩)] w fun e w' => e = .returned (.tuple #[]) ∧ w' = w.setCell ⟨b,0,none⟩ (.pointer (some ⟨b,0,none⟩))) : KeepsH G H___strings_Builder__copyCheck f := by
 refine ⟨⟨fn,hf,hb,hname⟩,?_⟩
 rintro B X w0 ρ Φ H nx w us vs K hB hw hs hr ⟨n,p,v,rfl,hH,hp,hK⟩
 obtain ⟨x,rfl,h1⟩ := one_arg hs hr
 simp only [Rep] at h1
 obtain ⟨hd,hρ,rfl⟩ := h1
 obtain ⟨h0,C,ty,fr,h2,h3,h4,h5⟩ := hw.zero.cellsAt hH hρ
 obtain ⟨C',h6⟩ := hw.zero.tyAt hH hρ rfl
 rw [h2] at h6
 cases h6
 simp only [RepAt] at h5
 obtain ⟨⟨y,hy,hry⟩,⟨z,hz,hrz⟩,_⟩ := h5
 rw [Nat.zero_add] at hz
 rcases hp with rfl | rfl
 ·simp only [Rep] at hry
  subst hry
  refine Calls.mono (fresh hd.b w (by rw [cell_of h2]; exact hy) (by simp only [World.shape?,h2]; rw [h3]; rfl) (frozen_of h2 h4 (by rw [h3]; exact Nat.zero_lt_succ _))) ?_
  rintro e w' ⟨rfl,rfl⟩
  refine ⟨.tup [],_,ρ,Φ,_,nx,rfl,hK,NmLe.refl _,PhiLe.refl _,fun b o e => .inl e,(hw.zero.write (w' := w.setCell ⟨hd.b,0,none⟩ (.pointer (some ⟨hd.b,0,none⟩))) (o := .cl true [.ref n 0,v]) hH rfl hρ rfl rfl rfl (by unfold World.setCell; simp) (fun k hk => setCell_other (by rw [h0] at hk; simpa using hk) _) ?_).up hw.dom,by simp only [Rep]; exact ⟨#[],rfl,rfl,trivial⟩⟩
  have h7 := setCell_block (off := 0) h2 (.pointer (some ⟨hd.b,0,none⟩))
  refine ⟨⟨h0,_,_,(0,0),h7,by simp [h3],by simpa using h4,?_⟩,fun _ => ⟨_,h7⟩⟩
  have hC0 : 0 < C.size := by rw [h3]; exact Nat.zero_lt_succ _
  simp only [RepAt,Rep]
  refine ⟨⟨_,by simp [hC0],hd,hρ,rfl⟩,⟨z,?_,hrz⟩,trivial⟩
  rw [Array.getElem?_setIfInBounds_ne (by decide)]
  exact hz
 ·simp only [Rep] at hry
  obtain ⟨hd',hρ',rfl⟩ := hry
  rw [hρ] at hρ'
  cases hρ'
  refine Calls.mono (used hd.b w (by rw [cell_of h2]; exact hy)) ?_
  rintro e w' ⟨rfl,rfl⟩
  refine ⟨.tup [],_,ρ,Φ,_,nx,rfl,hK,NmLe.refl _,PhiLe.refl _,fun b o e => .inl e,?_,by simp only [Rep]; exact ⟨#[],rfl,rfl,trivial⟩⟩
  have : upd H n (some (.cl true [.ref n 0,v])) = H := by
   funext k
   by_cases hk : k = n
   ·subst hk; rw [upd_same]; exact hH.symm
   ·rw [upd_ne _ _ hk]
  rw [this]
  exact hw

theorem keeps_String {G : Gl} {f : FuncId} {fn : Func} (hf : G.P.funcs[f]? = some fn) (hb : fn.body.isNone = false) (hname : (fn.name == "runtime.NumGoroutine") = false)
  (empty : ∀ (b : Nat) (p : Value) (w : World),(w.heap[b]? = some (.cells #[p,.slice none 0 0] G.bT (0,0)) ∨ (∃ g cap,cap ≠ 0 ∧ w.heap[b]? = some (.cells #[p,.slice (some ⟨g,0,none⟩) 0 cap] G.bT (0,0))) ∨
    (∃ g cur fr,w.heap[b]? = some (.cells #[p,.slice (some ⟨g,0,none⟩) 0 0] G.bT (0,0)) ∧ w.heap[g]? = some (.cells cur G.bt fr))) →
   Calls G.P f #[.pointer (some ⟨b,0,none⟩)] w fun e w' => e = .returned (.string ⟨#[]⟩) ∧ Below w.heap.size w w')
  (row : ∀ (b g cap : Nat) (p : Value) (cur : Array Value) (fr : Nat × Nat) (l : List UInt8) (w : World),l ≠ [] → w.heap[b]? = some (.cells #[p,.slice (some ⟨g,0,none⟩) l.length cap] G.bT (0,0)) →
   w.heap[g]? = some (.cells cur G.bt fr) → l.length ≤ cap → cap ≠ 0 → l.length ≤ cur.size → l.length ≤ 9223372036854775807 → (∀ (j : Nat) (x : UInt8),l[j]? = some x → cur[j]? = some (Value.int .u8 x.toNat)) →
   Calls G.P f #[.pointer (some ⟨b,0,none⟩)] w fun e w' => e = .returned (.string ⟨l.toArray⟩) ∧ w' = w.drew.freeze ⟨g,0,none⟩ l.length) : KeepsH G H___strings_Builder__String f := by
 refine ⟨⟨fn,hf,hb,hname⟩,?_⟩
 rintro B X w0 ρ Φ H nx w us vs K hB hw hs hr ⟨n,m,p,l,rfl,hnm,hH,hM,hlen,hK⟩
 obtain ⟨x,rfl,h1⟩ := one_arg hs hr
 simp only [Rep] at h1
 obtain ⟨hd,hρ,rfl⟩ := h1
 obtain ⟨h0,C,ty,fr,h2,h3,h4,h5⟩ := hw.zero.cellsAt hH hρ
 obtain ⟨C',h6⟩ := hw.zero.tyAt hH hρ rfl
 rw [h2] at h6
 cases h6
 simp only [RepAt,Rep] at h5
 obtain ⟨⟨y,hy,_⟩,⟨z,hz,hm,hρm,hrz⟩,_⟩ := h5
 rw [Nat.zero_add] at hz
 obtain ⟨g5,g6⟩ := hw.zero.lstAt hM hρm
 have gt := hw.zero.tyLst hM hρm rfl
 have hC : C = #[y,z] := by
  apply Array.ext'
  apply List.ext_getElem?
  intro i
  match i with
  | 0 => simpa using hy
  | 1 => simpa using hz
  | i + 2 =>
   have : C.toList.length = 2 := by simpa using h3
   rw [List.getElem?_eq_none (by omega),List.getElem?_eq_none (by simp)]
 subst hC
 by_cases hl : l = []
 ·subst hl
  refine Calls.mono (empty hd.b y w ?_) ?_
  ·rcases hrz with ⟨_,_,_,rfl⟩ | ⟨q1,q2,rfl | ⟨q3,_⟩⟩
   ·exact .inl h2
   ·by_cases hcap : hm.cap = 0
    ·obtain ⟨C',fr',q6⟩ := gt q1
     refine .inr (.inr ⟨hm.b,C',fr',?_,q6⟩)
     rw [h2]
     simp [hcap]
    ·refine .inr (.inl ⟨hm.b,hm.cap,hcap,?_⟩)
     rw [h2]
     simp
   ·omega
  ·rintro e w' ⟨rfl,hbel⟩
   refine ⟨.str [],_,ρ,Φ,_,nx,rfl,hK,NmLe.refl _,PhiLe.refl _,fun b o e => .inl e,(hw.below hbel (PhiLe.refl _) (fun b o e => ?_) (fun b o e => .inl e)).sub ?_,by simp only [Rep]⟩
   ·have := hw.phi b o e
    rw [hbel.block b (Array.getElem?_eq_some_iff.1 this).1]; exact this
   ·intro k o e
    by_cases hk : k = m
    ·subst hk; rw [upd_same] at e; cases e
    ·rw [upd_ne _ _ hk] at e; exact e
 ·have hl0 : 0 < l.length := List.length_pos_iff.2 hl
  rcases hrz with ⟨_,_,h,_⟩ | ⟨q1,q2,rfl | ⟨q3,_⟩⟩
  ·omega
  ·rcases g6 with g6 | ⟨_,g7,C',ty',fr',g8,g9,g10,g11,g12⟩
   ·rw [q1] at g6; cases g6.1
   ·obtain ⟨C2,fr2,g13⟩ := gt q1
    rw [g8] at g13
    cases g13
    rw [bys_length] at g10
    refine Calls.mono (row hd.b hm.b hm.cap y C' fr' l w hl (by rw [h2]; simp) g8 (by omega) (by omega) g10 (by omega) ?_) ?_
    ·intro j (x : UInt8) hj
     have : (bys l)[j]? = some (AV.int .u8 x.toNat) := by simp [bys,hj]
     obtain ⟨u,hu,hur⟩ := RepAt.get g12 this
     rw [Nat.zero_add] at hu
     simp only [Rep] at hur
     subst hur
     exact hu
    ·rintro e w' ⟨rfl,rfl⟩
     refine ⟨.str l,_,ρ,Φ,_,nx,rfl,hK,NmLe.refl _,PhiLe.refl _,fun b o e => .inl e,((hw.zero.drew (w.drawn + 1)).lose hM hρm ?_ ?_ ?_ ?_ ?_).up hw.dom,by simp only [Rep]⟩
     ·unfold World.freeze; split <;> rfl
     ·unfold World.freeze; split <;> rfl
     ·unfold World.freeze; split <;> rfl
     ·unfold World.freeze; split <;> simp
     ·intro k hk
      rw [g7] at hk
      rw [freeze_other (by simpa using hk)]
      rfl
  ·omega

end Qk

/-
  Writing into builders of strings: what the calls do to the memory.
-/
namespace Qk
open Go Go.RowKit

/-- Less is known of the state. -/
theorem sub_drop {m : Nat} {S S' : St} (h1 : ∀ k v,S'.env k = some v → S.env k = some v) (h2 : ∀ n o,S'.heap n = some o → S.heap n = some o) (h3 : S.next ≤ S'.next) : SubSt m S S' := by
 rintro G B X Φ0 w0 N D a w _ ⟨B1,X1,w1,ρ,Φ,a1,a2,a3,a4,a5,a6⟩
 refine ⟨B1,X1,w1,ρ,Φ,a1,a2,a3,a4,fun k v e => a5 k v (h1 k v e),?_⟩
 have := a6.sub (H' := S'.heap) h2
 exact ⟨this.os,this.tape,this.output,this.size,this.base,this.frame,this.phi,this.gb,fun n h e => Nat.lt_of_lt_of_le (this.dom n h e) h3,this.objs,this.disj⟩

/-- The builder n, whose bytes lie under the name m. -/
def BL (H : Heap) (n m : Nat) (l : List UInt8) : Prop := n ≠ m ∧ ∃ p,H n = some (.cl true [p,.sl m 0 l.length]) ∧ H m = some (.ls true 1 (bys l)) ∧ (p = .raw (.pointer none) ∨ p = .ref n 0)
/-- The builder's bytes lie under the name q now. -/
def wrB (H : Heap) (n m q : Nat) (l : List UInt8) : Heap := upd (upd (upd H m none) q (some (.ls true 1 (bys l)))) n (some (.cl true [.ref n 0,.sl q 0 l.length]))

theorem BL.wr {H : Heap} {n m q : Nat} {l : List UInt8} (h : n ≠ q) : BL (wrB H n m q l) n q l :=
 ⟨h,.ref n 0,upd_same _ _ _,by unfold wrB; rw [upd_ne _ _ (Ne.symm h),upd_same],.inr rfl⟩
def H___strings_Builder__WriteString : HTran := fun us H nx K => ∃ n m l s,us = [.ref n 0,.str s] ∧ BL H n m l ∧ n < nx ∧ m < nx ∧ l.length + s.length ≤ 140737488355328 ∧
 K (.tup [.int .i64 s.length,.raw .nilIface]) (wrB H n m nx (l ++ s)) (nx + 1)

def ir___strings_Builder__WriteString : IF := ⟨(.seq (.ops [⟨some 4,none,.mov (ci 0)⟩,⟨some 5,none,.mov (.const .nilIface)⟩])
 (.seq (.sops [.op ⟨some 6,none,.mov (t 0)⟩,
  .call none (some 7) H___strings_Builder__copyCheck [(t 6)]])
 (.seq (.ops [⟨some 8,none,.mov (t 0)⟩,⟨some 9,none,.mov (t 0)⟩,⟨some 10,none,.nilck (t 9)⟩,⟨some 11,none,.fldA 1 (t 10)⟩,⟨some 12,none,.load1 (t 11)⟩,
  ⟨some 13,none,.mov (t 1)⟩,⟨some 14,none,.app 1 1 (t 12) (t 13)⟩,⟨some 15,none,.nilck (t 8)⟩,⟨some 16,none,.fldA 1 (t 15)⟩,⟨none,none,.stor1 (t 16) (t 14)⟩])
 (.seq (.ops [⟨some 17,none,.mov (t 1)⟩,⟨some 18,none,.lenS (t 17)⟩,
  ⟨some 4,none,.mov (t 18)⟩,⟨some 5,none,.mov (.const .nilIface)⟩])
 .ret)))),[.tmp 4,.tmp 5]⟩

theorem w_WriteString {us : List AV} {H : Heap} {nx : Nat} {K : AV → Heap → Nat → Prop} (h : H___strings_Builder__WriteString us H nx K) : inl 2 ir___strings_Builder__WriteString.code ir___strings_Builder__WriteString.res us H nx K := by
 obtain ⟨n,m,l,s,rfl,⟨hnm,p,h1,h2,h3⟩,h7,h8,h13,hK⟩ := h
 refine And.intro rfl ?_
 refine ⟨n,p,_,rfl,h1,h3,?_⟩
 obtain ⟨H1,hH1⟩ : ∃ H1,H1 = upd H n (some (.cl true [.ref n 0,.sl m 0 l.length])) := ⟨_,rfl⟩
 dsimp only [St.set]
 rw [← hH1]
 have e1 : H1 n = some (.cl true [.ref n 0,.sl m 0 l.length]) := by rw [hH1,upd_same]
 have e2 : H1 m = some (.ls true 1 (bys l)) := by rw [hH1,upd_ne _ _ (Ne.symm hnm)]; exact h2
 conv => whnf
 dsimp only [St.set]
 rw [e1]
 refine ⟨_,rfl,?_⟩
 conv => whnf
 dsimp only [St.set]
 rw [e2]
 have l1 := bys_length l
 refine And.intro ⟨rfl,rfl,rfl,by rw [l1]; omega,by omega⟩ ⟨_,rfl,?_⟩
 have e4 : ∀ o,upd (upd H1 m none) nx o n = some (.cl true [.ref n 0,.sl m 0 l.length]) := fun o => by rw [upd_ne _ _ (by omega),upd_ne _ _ hnm]; exact e1
 have e5 : bys l ++ (s.map fun b => AV.int .u8 b.toNat) = bys (l ++ s) := by rw [bys_app]; rfl
 conv => whnf
 dsimp only [St.set]
 rw [e4]
 refine And.intro (show 1 < 2 by decide) ?_
 refine ⟨⟨fun k => if k = 4 then some (.int .i64 s.length) else if k = 5 then some (.raw .nilIface) else none,wrB H n m nx (l ++ s),nx + 1⟩,sub_drop ?_ ?_ (Nat.le_refl _),?_⟩
 ·intro k w hk
  dsimp only at hk
  split at hk
  ·rename_i e; subst e; exact hk
  ·split at hk
   ·rename_i e; subst e; exact hk
   ·cases hk
 ·intro k o hk
  dsimp only [St.set] at hk ⊢
  rw [e5]
  unfold wrB at hk
  by_cases q1 : k = n
  ·subst q1
   rw [upd_same] at hk ⊢
   rw [List.length_append] at hk
   exact hk
  ·rw [upd_ne _ _ q1] at hk ⊢
   by_cases q2 : k = nx
   ·subst q2
    rw [upd_same] at hk ⊢
    exact hk
   ·rw [upd_ne _ _ q2] at hk ⊢
    by_cases q3 : k = m
    ·subst q3; rw [upd_same] at hk; cases hk
    ·rw [upd_ne _ _ q3] at hk ⊢
     rw [hH1,upd_ne _ _ q1]
     exact hk
 ·exact hK

def H___strings_Builder__WriteByte : HTran := fun us H nx K => ∃ n m l,∃ b : UInt8,us = [.ref n 0,.int .u8 b.toNat] ∧ BL H n m l ∧ n < nx ∧ m < nx ∧ l.length + 1 ≤ 140737488355328 ∧
 K (.raw .nilIface) (wrB (upd H nx none) n m (nx + 1) (l ++ [b])) (nx + 2)

def ir___strings_Builder__WriteByte : IF := ⟨(.seq (.ops [⟨some 4,none,.mov (.const .nilIface)⟩])
 (.seq (.sops [.op ⟨some 5,none,.mov (t 0)⟩,
  .call none (some 6) H___strings_Builder__copyCheck [(t 5)]])
 (.seq (.ops [⟨some 7,none,.mov (t 0)⟩,⟨some 8,none,.mov (t 0)⟩,⟨some 9,none,.nilck (t 8)⟩,⟨some 10,none,.fldA 1 (t 9)⟩,⟨some 11,none,.load1 (t 10)⟩,⟨some 12,none,.mov (t 1)⟩,
  ⟨some 13,none,.bslice 1 [.int .u8 0] 1 [(0,1,(t 12))]⟩,⟨some 14,none,.app 1 1 (t 11) (t 13)⟩,⟨some 15,none,.nilck (t 7)⟩,⟨some 16,none,.fldA 1 (t 15)⟩,⟨none,none,.stor1 (t 16) (t 14)⟩])
 (.seq (.ops [⟨some 4,none,.mov (.const .nilIface)⟩])
 .ret)))),[.tmp 4]⟩

theorem w_WriteByte {us : List AV} {H : Heap} {nx : Nat} {K : AV → Heap → Nat → Prop} (h : H___strings_Builder__WriteByte us H nx K) : inl 2 ir___strings_Builder__WriteByte.code ir___strings_Builder__WriteByte.res us H nx K := by
 obtain ⟨n,m,l,b,rfl,⟨hnm,p,h1,h2,h3⟩,h7,h8,h13,hK⟩ := h
 refine And.intro rfl ?_
 refine ⟨n,p,_,rfl,h1,h3,?_⟩
 obtain ⟨H1,hH1⟩ : ∃ H1,H1 = upd H n (some (.cl true [.ref n 0,.sl m 0 l.length])) := ⟨_,rfl⟩
 dsimp only [St.set]
 rw [← hH1]
 have e1 : H1 n = some (.cl true [.ref n 0,.sl m 0 l.length]) := by rw [hH1,upd_same]
 have e2 : ∀ o,upd H1 nx o m = some (.ls true 1 (bys l)) := fun o => by rw [upd_ne _ _ (by omega),hH1,upd_ne _ _ (Ne.symm hnm)]; exact h2
 conv => whnf
 dsimp only [St.set]
 rw [e1]
 refine ⟨_,rfl,?_⟩
 conv => whnf
 dsimp only [St.set]
 rw [e2,upd_same]
 have l1 := bys_length l
 refine And.intro ⟨by omega,rfl,rfl,rfl,by rw [l1]; omega,(show (0 + 1) * 1 ≤ 1 by decide),(show AllOne [AV.int .u8 (b.toNat : Int)] from by intro c hc; simp at hc; subst hc; rfl),by omega⟩ ⟨_,rfl,?_⟩
 have e4 : ∀ o o',upd (upd (upd H1 nx o) m none) (nx + 1) o' n = some (.cl true [.ref n 0,.sl m 0 l.length]) := fun o o' => by rw [upd_ne _ _ (by omega),upd_ne _ _ hnm,upd_ne _ _ (by omega)]; exact e1
 have e5 : bys l ++ (([AV.int .u8 (b.toNat : Int)].drop (0 * 1)).take (1 * 1)) = bys (l ++ [b]) := by rw [bys_app]; rfl
 conv => whnf
 dsimp only [St.set]
 rw [e4]
 refine And.intro (show 1 < 2 by decide) ?_
 refine ⟨⟨fun k => if k = 4 then some (.raw .nilIface) else none,wrB (upd H nx none) n m (nx + 1) (l ++ [b]),nx + 2⟩,sub_drop ?_ ?_ (Nat.le_refl _),?_⟩
 ·intro k w hk
  dsimp only at hk
  split at hk
  ·rename_i e; subst e; exact hk
  ·cases hk
 ·intro k o hk
  dsimp only [St.set] at hk ⊢
  unfold wrB at hk
  by_cases q1 : k = n
  ·subst q1
   rw [upd_same] at hk ⊢
   rw [List.length_append] at hk
   exact hk
  ·rw [upd_ne _ _ q1] at hk ⊢
   by_cases q2 : k = nx + 1
   ·subst q2
    rw [upd_same] at hk ⊢
    rw [← e5] at hk
    exact hk
   ·rw [upd_ne _ _ q2] at hk ⊢
    by_cases q3 : k = m
    ·subst q3; rw [upd_same] at hk; cases hk
    ·rw [upd_ne _ _ q3] at hk ⊢
     by_cases q4 : k = nx
     ·subst q4; rw [upd_same] at hk; cases hk
     ·rw [upd_ne _ _ q4] at hk ⊢
      rw [hH1,upd_ne _ _ q1]
      exact hk
 ·exact hK

/-- What is said of a call may be said in other words. -/
theorem KeepsH.weak {G : Gl} {T T' : HTran} {f : FuncId} (h : KeepsH G T f) (hw : ∀ {us : List AV} {H : Heap} {nx : Nat} {K : AV → Heap → Nat → Prop},T' us H nx K → T us H nx K) : KeepsH G T' f :=
 ⟨h.1,fun B X w0 ρ Φ H nx w us vs K hB hwf hs hr hT => h.2 B X w0 ρ Φ H nx w us vs K hB hwf hs hr (hw hT)⟩

end Qk

/-
  Calls of functions without a body, which the model runs itself: searching for a byte, comparing, counting.
-/
namespace Qk
open Go Go.RowKit

/-- A function whose calls are known, and whose result is plain. -/
theorem keeps_calls {G : Gl} {C : PC} {f : FuncId} {fn : Func} (hf : G.P.funcs[f]? = some fn) (hb : fn.body.isNone = false) (hname : (fn.name == "runtime.NumGoroutine") = false)
  (h : ∀ (w : World) (Φ : Phi) (vs : Array Value) x,(∀ b o,Φ b = some o → w.heap[b]? = some o) → vs.size = (C.args x).length → RepAt G Φ (C.args x) (fun _ => none) vs 0 → C.ok x →
   ∃ v,Rep G Φ (C.res x) (fun _ => none) v ∧ Calls G.P f vs w (fun e w' => e = .returned v ∧ Below w.heap.size w w')) : KeepsC G C (fun _ => none) f #[] := by
 rintro us w Φ vs _ hgb hphi hs hr x rfl hok
 obtain ⟨v,h1,h2⟩ := h w Φ vs x hphi hs hr hok
 rw [Array.append_empty]
 refine .inl ⟨⟨fn,hf,hb,hname⟩,Calls.mono h2 ?_⟩
 rintro e w' ⟨rfl,hw⟩
 refine ⟨_,v,Φ,rfl,rfl,PhiLe.refl _,?_,fun b o e => .inl e,h1,hw⟩
 intro b o e
 have := hphi b o e
 rw [hw.block b (Array.getElem?_eq_some_iff.1 this).1]
 exact this

/-- The same, of a function that leans on what is known from the start. -/
theorem keeps_callsG {G : Gl} {C : PC} {f : FuncId} {fn : Func} (hf : G.P.funcs[f]? = some fn) (hb : fn.body.isNone = false) (hname : (fn.name == "runtime.NumGoroutine") = false)
  (h : ∀ (w : World) (Φ : Phi) (vs : Array Value) x,G.base Φ → (∀ b o,Φ b = some o → w.heap[b]? = some o) → vs.size = (C.args x).length → RepAt G Φ (C.args x) (fun _ => none) vs 0 → C.ok x →
   ∃ v,Rep G Φ (C.res x) (fun _ => none) v ∧ Calls G.P f vs w (fun e w' => e = .returned v ∧ Below w.heap.size w w')) : KeepsC G C (fun _ => none) f #[] := by
 rintro us w Φ vs _ hgb hphi hs hr x rfl hok
 obtain ⟨v,h1,h2⟩ := h w Φ vs x hgb hphi hs hr hok
 rw [Array.append_empty]
 refine .inl ⟨⟨fn,hf,hb,hname⟩,Calls.mono h2 ?_⟩
 rintro e w' ⟨rfl,hw⟩
 refine ⟨_,v,Φ,rfl,rfl,PhiLe.refl _,?_,fun b o e => .inl e,h1,hw⟩
 intro b o e
 have := hphi b o e
 rw [hw.block b (Array.getElem?_eq_some_iff.1 this).1]
 exact this

/-- Two arguments. -/
theorem two_args {G : Gl} {Φ : Phi} {a b : AV} {vs : Array Value} (hs : vs.size = 2) (hr : RepAt G Φ [a,b] (fun _ => none) vs 0) : ∃ x y,vs = #[x,y] ∧ Rep G Φ a (fun _ => none) x ∧ Rep G Φ b (fun _ => none) y := by
 obtain ⟨l⟩ := vs
 match l,hs with
 | [x,y],_ =>
  simp only [RepAt] at hr
  obtain ⟨⟨x',h1,h2⟩,⟨y',h3,h4⟩,_⟩ := hr
  simp at h1 h3
  subst h1
  subst h3
  exact ⟨x,y,rfl,h2,h4⟩

def indexB (l : List UInt8) (c : UInt8) : Int := if c ∈ l then (l.idxOf c : Int) else -1
theorem indexByte_eq : ∀ (l : List UInt8) (c : UInt8),Lib.indexByte l c = indexB l c
 | [],c => rfl
 | b :: l,c => by
  have ih := indexByte_eq l c
  unfold Lib.indexByte
  rw [ih]
  unfold indexB
  by_cases hbc : b = c
  ·subst hbc; simp
  ·have h1 : (b == c) = false := by simpa using hbc
   have h2 : ¬ c = b := fun h => hbc h.symm
   rw [h1]
   by_cases hm : c ∈ l
   ·have : ¬ ((l.idxOf c : Int) == -1) = true := by simp
    simp [hm,this,List.idxOf_cons,h1]
   ·simp [hm,h2]

section
variable {G : Gl} {f : FuncId} {fn : Func} (hf : G.P.funcs[f]? = some fn) (hname : (fn.name == "runtime.NumGoroutine") = false) (hb : fn.body.isNone = true) (hn : Extern.findNext fn = none)
include hf hname hb hn

end

end Qk

/-
  From the statements' data to the executor's values: reading arguments; the last steps of a law.
-/
namespace Qk
open Go Go.RowKit Go.WideShapes Go.ChangeShapes Go.ChangeAt

/-- The shapes of the arguments. -/
inductive Ty where
 | unit
 | bool
 | int (k : IntKind)
 | str
 | arr (n : Nat) (t : Ty)
 | sl (t : Ty)
 | pair (a b : Ty)

def Ty.sz : Ty → Nat
 | .unit => 0
 | .bool => 1
 | .int _ => 1
 | .str => 1
 | .arr n t => n * t.sz
 | .sl _ => 1
 | .pair a b => a.sz + b.sz

/-- Cells of a shape. -/
def Fits : Ty → List AV → Prop
 | .unit,cs => cs = []
 | .bool,cs => ∃ b,cs = [.bool b]
 | .int k,cs => ∃ n,cs = [.int k n] ∧ (Lit.int k n).wf = true
 | .str,cs => ∃ l,cs = [.str l] ∧ l.length ≤ maxLen
 | .arr n t,cs => ∃ xs : List (List AV),xs.length = n ∧ cs = xs.flatten ∧ ∀ x ∈ xs,Fits t x
 | .sl t,cs => ∃ xs : List (List AV),cs = [.ilist t.sz xs.length xs.flatten] ∧ (∀ x ∈ xs,Fits t x) ∧ xs.length ≤ maxLen
 | .pair a b,cs => ∃ x y,cs = x ++ y ∧ Fits a x ∧ Fits b y

/-- A type of the program has the shape; the fields of a struct from an offset on have it. -/
def mT (P : Program) : Ty → (TypeId → Bool) × (List Field → Nat → Nat → Bool)
 | .unit => (fun _ => false,fun l off tot => match l with | [] => off == tot | _ => false)
 | .bool => (fun t => match P.underlying t with | some .bool => true | _ => false,fun _ _ _ => false)
 | .int k => (fun t => match P.underlying t with | some (.int j) => kindEq j k | _ => false,fun _ _ _ => false)
 | .str => (fun t => match P.underlying t with | some .string => true | _ => false,fun _ _ _ => false)
 | .arr n a => (fun t => match P.underlying t with | some (.array m e) => m == n && P.cellsOf e == a.sz && P.cellsOf t == n * a.sz && (mT P a).1 e | _ => false,fun _ _ _ => false)
 | .sl a => (fun t => match P.underlying t with | some (.slice e) => P.cellsOf e == a.sz && Nat.blt 0 a.sz && (mT P a).1 e | _ => false,fun _ _ _ => false)
 | .pair a b =>
  (fun t => match P.underlying t with
   | some (.struct fs) => (match fs.toList with | f :: r => f.offset == 0 && P.cellsOf f.type == a.sz && (mT P a).1 f.type && (mT P b).2 r a.sz (P.cellsOf t) | [] => false)
   | _ => false,
   fun l off tot => match l with | f :: r => f.offset == off && P.cellsOf f.type == a.sz && (mT P a).1 f.type && (mT P b).2 r (off + a.sz) tot | [] => false)

theorem choose_list {α : Type} : ∀ {n : Nat} {Q : Nat → α → Prop},(∀ i,i < n → ∃ a,Q i a) → ∃ l : List α,l.length = n ∧ ∀ i a,l[i]? = some a → Q i a
 | 0,_,_ => ⟨[],rfl,fun i a h => by simp at h⟩
 | n + 1,Q,h => by
  obtain ⟨l,h1,h2⟩ := choose_list (n := n) (Q := Q) (fun i hi => h i (by omega))
  obtain ⟨a,ha⟩ := h n (by omega)
  refine ⟨l ++ [a],by simp [h1],fun i b hb => ?_⟩
  rw [List.getElem?_append] at hb
  split at hb
  ·exact h2 i b hb
  ·have hlt := (List.getElem?_eq_some_iff.1 hb).1
   simp at hlt
   have : i = n := by omega
   subst this
   simp [h1] at hb
   subst hb
   exact ha

theorem RepAt.app {G : Gl} {Φ : Phi} {ρ : Nm} {C : Array Value} {a b : List AV} {i : Nat} (h1 : RepAt G Φ a ρ C i) (h2 : RepAt G Φ b ρ C (i + a.length)) : RepAt G Φ (a ++ b) ρ C i := by
 refine RepAt.mk fun j c hj => ?_
 rw [List.getElem?_append] at hj
 split at hj
 ·exact RepAt.get h1 hj
 ·rename_i hge
  obtain ⟨x,hx,hr⟩ := RepAt.get h2 hj
  exact ⟨x,by rw [← hx]; congr 1; omega,hr⟩
theorem repAt_flatten {G : Gl} {Φ : Phi} {ρ : Nm} {C : Array Value} (c : Nat) : ∀ (xs : List (List AV)) (i : Nat),(∀ x ∈ xs,x.length = c) → (∀ j x,xs[j]? = some x → RepAt G Φ x ρ C (i + j * c)) → RepAt G Φ xs.flatten ρ C i
 | [],i,_,_ => by simp [RepAt]
 | x :: xs,i,hl,h => by
  rw [List.flatten_cons]
  have h0 := h 0 x rfl
  rw [Nat.zero_mul,Nat.add_zero] at h0
  refine RepAt.app h0 ?_
  rw [hl x (by simp)]
  refine repAt_flatten c xs (i + c) (fun y hy => hl y (by simp [hy])) (fun j y hy => ?_)
  have := h (j + 1) y (by simpa using hy)
  rw [Nat.succ_mul] at this
  have e : i + c + j * c = i + (j * c + c) := by omega
  rw [e]; exact this
theorem flatten_len {c : Nat} : ∀ {xs : List (List AV)},(∀ x ∈ xs,x.length = c) → xs.flatten.length = xs.length * c
 | [],_ => by simp
 | x :: xs,h => by
  rw [List.flatten_cons,List.length_append,h x (by simp),flatten_len (fun y hy => h y (by simp [hy])),List.length_cons,Nat.succ_mul]; omega
theorem RepAt.piece {G : Gl} {Φ : Phi} {ρ : Nm} {cs : List Value} {av : List AV} {o c : Nat} (h : RepAt G Φ av ρ ((cs.drop o).take c).toArray 0) : RepAt G Φ av ρ cs.toArray o := by
 refine RepAt.mk fun j a hj => ?_
 obtain ⟨x,hx,hr⟩ := RepAt.get h hj
 refine ⟨x,?_,hr⟩
 simp only [Nat.zero_add,List.getElem?_toArray] at hx ⊢
 rw [List.getElem?_take] at hx
 split at hx
 ·rw [List.getElem?_drop] at hx; exact hx
 ·cases hx

theorem addr_add2 {a : Addr} (h : a.spot = none) (m n : Nat) : (a.add m).add n = ⟨a.block,a.off + (m + n),none⟩ := by
 obtain ⟨b,o,s⟩ := a
 simp only at h
 subst h
 unfold Addr.add
 by_cases hm : m = 0 <;> by_cases hn : n = 0 <;> simp [hm,hn] <;> omega

section
variable {H : Type} {enc : TypeId × Value → H} {P : Program} {w : World} (G : Gl)

theorem cell_spot {a : Addr} {v : Value} (h : w.cell? a = some v) : a.spot = none ∧ ∃ C ty fr,w.heap[a.block]? = some (.cells C ty fr) := by
 unfold World.cell? at h
 split at h
 ·rename_i C ty fr hh
  split at h
  ·cases h
  ·rename_i hs
   exact ⟨by simpa using hs,C,ty,fr,hh⟩
 ·cases h

/-- What an argument reads as has the shape of its type. -/
theorem read_ok : ∀ (ty : Ty),
  (∀ (fuel : Nat) (t : TypeId) (cs : List Value) (x : DataW H × List MemPlace),(mT P ty).1 t = true → DataW.trod enc P w 0 (fun _ => true) true fuel t cs = some x →
   ∃ av,Fits ty av ∧ av.length = cs.length ∧ av.length = ty.sz ∧ RepAt G (fun b => w.heap[b]?) av (fun _ => none) cs.toArray 0) ∧
  (∀ (n : Nat) (l : List Field) (off tot : Nat) (cs : List Value),(mT P ty).2 l off tot = true → tot = cs.length →
   (∀ f ∈ l,∃ y,DataW.trod enc P w 0 (fun _ => true) true n f.type ((cs.drop f.offset).take (P.cellsOf f.type)) = some (y : DataW H × List MemPlace)) →
   ∃ av,Fits ty av ∧ off + av.length = cs.length ∧ av.length = ty.sz ∧ RepAt G (fun b => w.heap[b]?) av (fun _ => none) cs.toArray off)
 | .unit => by
  refine ⟨fun fuel t cs x h => absurd h Bool.false_ne_true,fun n l off tot cs h ht _ => ?_⟩
  simp only [mT] at h
  split at h
  ·refine ⟨[],rfl,?_,rfl,by simp [RepAt]⟩
   have : off = tot := by simpa using h
   simp; omega
  ·cases h
 | .bool => by
  refine ⟨fun fuel t cs x h hd => ?_,fun n l off tot cs h => absurd h Bool.false_ne_true⟩
  simp only [mT] at h
  split at h
  case h_2 => cases h
  rename_i ht
  obtain ⟨b,rfl,_⟩ := DataW.trod_bool ht hd
  exact ⟨[.bool b],⟨b,rfl⟩,rfl,rfl,⟨⟨_,rfl,by simp only [Rep]; rfl⟩,trivial⟩⟩
 | .int k => by
  refine ⟨fun fuel t cs x h hd => ?_,fun n l off tot cs h => absurd h Bool.false_ne_true⟩
  simp only [mT] at h
  split at h
  case h_2 => cases h
  rename_i j ht
  have hk : j = k := by cases j <;> cases k <;> first | rfl | cases h
  subst hk
  obtain ⟨n,rfl,_,hw⟩ := DataW.trod_int ht hd
  exact ⟨[.int j n],⟨n,rfl,hw⟩,rfl,rfl,⟨⟨_,rfl,by simp only [Rep]; rfl⟩,trivial⟩⟩
 | .str => by
  refine ⟨fun fuel t cs x h hd => ?_,fun n l off tot cs h => absurd h Bool.false_ne_true⟩
  simp only [mT] at h
  split at h
  case h_2 => cases h
  rename_i ht
  obtain ⟨s,rfl,_,hs⟩ := DataW.trod_string ht hd
  refine ⟨[.str s.data.toList],⟨s.data.toList,rfl,?_⟩,rfl,rfl,⟨⟨_,rfl,by simp only [Rep]; rfl⟩,trivial⟩⟩
  have : s.data.toList.length = s.size := Array.length_toList
  rw [this]; exact hs
 | .arr n a => by
  refine ⟨fun fuel t cs x h hd => ?_,fun n l off tot cs h => absurd h Bool.false_ne_true⟩
  simp only [mT] at h
  split at h
  case h_2 => cases h
  rename_i m e ht
  simp only [Bool.and_eq_true,beq_iff_eq] at h
  obtain ⟨⟨⟨rfl,hc⟩,hct⟩,hm⟩ := h
  obtain ⟨xs,fu,rfl,_,hlen,hxs,hget⟩ := DataW.trod_array ht hd
  have hpick : ∀ i,i < m → ∃ av,Fits a av ∧ av.length = a.sz ∧ RepAt G (fun b => w.heap[b]?) av (fun _ => none) cs.toArray (i * a.sz) := by
   intro i hi
   have hy : ∃ y,xs[i]? = some y := ⟨_,List.getElem?_eq_getElem (by omega)⟩
   obtain ⟨y,hy⟩ := hy
   have hd' := (hget i hi).trans hy
   obtain ⟨av,h1,h2,h3,h4⟩ := (read_ok a).1 fu e _ y hm hd'
   rw [hc] at h4
   exact ⟨av,h1,h3,RepAt.piece h4⟩
  obtain ⟨avs,hl,hav⟩ := choose_list hpick
  have hall : ∀ x ∈ avs,x.length = a.sz := fun x hx => by
   obtain ⟨i,hi⟩ := List.getElem?_of_mem hx
   exact (hav i x hi).2.1
  refine ⟨avs.flatten,⟨avs,hl,rfl,fun x hx => ?_⟩,?_,?_,?_⟩
  ·obtain ⟨i,hi⟩ := List.getElem?_of_mem hx
   exact (hav i x hi).1
  ·rw [flatten_len hall,hl,hlen,hct]
  ·rw [flatten_len hall,hl]; rfl
  ·refine repAt_flatten a.sz avs 0 hall (fun j x hj => ?_)
   rw [Nat.zero_add]
   exact (hav j x hj).2.2
 | .sl a => by
  refine ⟨fun fuel t cs x h hd => ?_,fun n l off tot cs h => absurd h Bool.false_ne_true⟩
  simp only [mT] at h
  split at h
  case h_2 => cases h
  rename_i e ht
  simp only [Bool.and_eq_true,beq_iff_eq] at h
  obtain ⟨⟨hc,hpos⟩,hm⟩ := h
  have hpos : 0 < a.sz := by simpa using hpos
  rcases DataW.trod_slice ht hd with ⟨rfl,_⟩ | ⟨ad,len,cap,elems,rest,fu,rfl,rfl,_,_,hcap,hmax,hel,hget,_⟩
  ·refine ⟨[.ilist a.sz 0 []],⟨[],rfl,(fun x hx => by cases hx),Nat.zero_le _⟩,rfl,rfl,?_⟩
   simp [RepAt,Rep]
  ·have hpick : ∀ i,i < len → ∃ av,Fits a av ∧ av.length = a.sz ∧ ∃ rows : List Value,rows.length = a.sz ∧ (∀ j v,rows[j]? = some v → w.cell? ((ad.add (i * a.sz)).add j) = some v) ∧ RepAt G (fun b => w.heap[b]?) av (fun _ => none) rows.toArray 0 := by
    intro i hi
    have hy : ∃ y,elems[i]? = some y := ⟨_,List.getElem?_eq_getElem (by omega)⟩
    obtain ⟨y,hy⟩ := hy
    have hd' := (hget i hi).trans hy
    rw [hc] at hd'
    cases hcs : w.cells? 0 (ad.add (i * a.sz)) a.sz with
    | none => rw [hcs] at hd'; cases hd'
    | some rows =>
     rw [hcs] at hd'
     simp only [Option.bind_some] at hd'
     obtain ⟨av,h1,h2,h3,h4⟩ := (read_ok a).1 fu e _ y hm hd'
     unfold World.cells? at hcs
     rw [if_pos (Nat.zero_le _)] at hcs
     refine ⟨av,h1,h3,rows,by omega,fun j v hv => ?_,h4⟩
     have hjlt : j < a.sz := by have := (List.getElem?_eq_some_iff.1 hv).1; omega
     have := mapM_some_get hcs j j (by simp [hjlt])
     rw [this]; exact hv
   obtain ⟨avs,hl,hav⟩ := choose_list hpick
   have hall : ∀ x ∈ avs,x.length = a.sz := fun x hx => by
    obtain ⟨i,hi⟩ := List.getElem?_of_mem hx
    exact (hav i x hi).2.1
   refine ⟨[.ilist a.sz len avs.flatten],⟨avs,by rw [hl],fun x hx => ?_,by omega⟩,rfl,rfl,?_⟩
   ·obtain ⟨i,hi⟩ := List.getElem?_of_mem hx
    exact (hav i x hi).1
   ·simp only [RepAt,and_true]
    refine ⟨_,rfl,?_⟩
    simp only [Rep]
    refine ⟨by rw [flatten_len hall,hl],some ad,cap,hcap,rfl,?_⟩
    by_cases h0 : len = 0
    ·left
     have : avs = [] := List.length_eq_zero_iff.1 (by omega)
     rw [this]; rfl
    ·right
     obtain ⟨av0,hav0⟩ : ∃ x,avs[0]? = some x := ⟨_,List.getElem?_eq_getElem (by omega)⟩
     obtain ⟨_,_,rows0,hr1,hr2,_⟩ := hav 0 av0 hav0
     obtain ⟨v0,hv0⟩ : ∃ x,rows0[0]? = some x := ⟨_,List.getElem?_eq_getElem (by omega)⟩
     have hc0 := hr2 0 v0 hv0
     have e0 : (ad.add (0 * a.sz)).add 0 = ad := by simp [Addr.add]
     rw [e0] at hc0
     obtain ⟨hs,C,ty,fr,hh⟩ := cell_spot hc0
     refine ⟨ad.block,ad.off,C,ty,fr,?_,hh,?_⟩
     ·obtain ⟨b,o,s⟩ := ad; simp only at hs; subst hs; rfl
     ·refine repAt_flatten a.sz avs ad.off hall (fun j x hj => ?_)
      obtain ⟨_,_,rows,hr1,hr2,hr3⟩ := hav j x hj
      refine RepAt.mk fun k c hk => ?_
      obtain ⟨v,hv,hrep⟩ := RepAt.get hr3 hk
      simp only [Nat.zero_add,List.getElem?_toArray] at hv
      have hcell := hr2 k v hv
      rw [addr_add2 hs] at hcell
      refine ⟨v,?_,hrep⟩
      unfold World.cell? at hcell
      simp only [hh,Option.isSome_none,Bool.false_eq_true,if_false] at hcell
      rw [← hcell]; congr 1; omega
 | .pair a b => by
  refine ⟨fun fuel t cs x h hd => ?_,fun n l off tot cs h ht hget => ?_⟩
  ·simp only [mT] at h
   split at h
   case h_2 => cases h
   rename_i fs ht
   split at h
   case h_2 => cases h
   rename_i f r hfs
   simp only [Bool.and_eq_true,beq_iff_eq] at h
   obtain ⟨⟨⟨ho,hc⟩,hm⟩,hr⟩ := h
   obtain ⟨xs,fu,rfl,_,hlen,hxs,hget⟩ := DataW.trod_struct ht hd
   have hall : ∀ g ∈ fs.toList,∃ y,DataW.trod enc P w 0 (fun _ => true) true fu g.type ((cs.drop g.offset).take (P.cellsOf g.type)) = some (y : DataW H × List MemPlace) := by
    intro g hg
    obtain ⟨i,hi⟩ := List.getElem?_of_mem hg
    have hi' : fs[i]? = some g := by simpa using hi
    have hlt : i < fs.size := by
     have := (Array.getElem?_eq_some_iff.1 hi').1
     exact this
    exact ⟨_,(hget i g hi').trans (List.getElem?_eq_getElem (by omega))⟩
   obtain ⟨y,hy⟩ := hall f (by rw [hfs]; simp)
   obtain ⟨av,h1,h2,h3,h4⟩ := (read_ok a).1 fu f.type _ y hm hy
   obtain ⟨av2,k1,k2,k3,k4⟩ := (read_ok b).2 fu r a.sz (P.cellsOf t) cs hr hlen.symm (fun g hg => hall g (by rw [hfs]; simp [hg]))
   rw [ho] at h4
   refine ⟨av ++ av2,⟨av,av2,rfl,h1,k1⟩,by rw [List.length_append]; omega,by rw [List.length_append,h3,k3]; rfl,RepAt.app (RepAt.piece h4) ?_⟩
   rw [Nat.zero_add,h3]; exact k4
  ·simp only [mT] at h
   split at h
   case h_2 => cases h
   rename_i f r
   simp only [Bool.and_eq_true,beq_iff_eq] at h
   obtain ⟨⟨⟨ho,hc⟩,hm⟩,hr⟩ := h
   obtain ⟨y,hy⟩ := hget f (by simp)
   obtain ⟨av,h1,h2,h3,h4⟩ := (read_ok a).1 n f.type _ y hm hy
   obtain ⟨av2,k1,k2,k3,k4⟩ := (read_ok b).2 n r (off + a.sz) tot cs hr ht (fun g hg => hget g (by simp [hg]))
   rw [ho] at h4
   refine ⟨av ++ av2,⟨av,av2,rfl,h1,k1⟩,by rw [List.length_append]; omega,by rw [List.length_append,h3,k3]; rfl,RepAt.app (RepAt.piece h4) ?_⟩
   rw [h3]; exact k4

end

end Qk

/-
  The last steps of a law: arguments as the executor's values, and the row's post-condition.
-/
namespace Qk
open Go Go.RowKit Go.WideShapes Go.ChangeShapes Go.ChangeAt

section
variable {H : Type} {enc : TypeId × Value → H} {P : Program}

/-- Behind the call the new memory is all that has turned. -/
theorem post_of_below {f : Func} {s : ChangeSpec} {apart fresh handsOn again : Bool} {W W' : World} {args : Array Value} {v : Value} {ds gs : List (DataW H)} {before pa pv : List MemPlace}
  (hW : DataW.Whole enc P f.params.toList s.vars apart W args.toList ds gs before)
  (hres : ∀ (b : Nat) (sp : Nat → Bool) (hd : Bool),DataW.TrodAll enc P W' b sp hd f.resultTypes.toList (v.resultList f.resultTypes.size) (s.fn H (ds ++ gs)).results [])
  (hargs : ∀ sp : Nat → Bool,(∀ p ∈ before,sp p.block = true) → DataW.TrodAll enc P W' 0 sp true f.params.toList args.toList (s.fn H (ds ++ gs)).args pa)
  (hvars : ∀ sp : Nat → Bool,(∀ p ∈ before,sp p.block = true) → DataW.TrodVars enc P W' sp s.vars (s.fn H (ds ++ gs)).vars pv)
  (hps : before = pa ++ pv) (hb : Below W.heap.size W W')
  (hok : ∀ (j : Nat) (t : TypeId) (r : Value),f.resultTypes[j]? = some t → (v.resultList f.resultTypes.size)[j]? = some r → Value.okWide P W' .any 0 t r) :
  s.post enc P f apart fresh handsOn again W args v W' := by
 have hlt : ∀ p ∈ before,p.block < W.heap.size := fun p hp => hW.lt p hp
 have hold : ∀ p ∈ before,(fun b => decide (b < W.heap.size)) p.block = true := fun p hp => by simpa using hlt p hp
 refine ⟨ds,gs,before,[],pa,pv,hW,hres _ _ _,hargs _ hold,hvars _ hold,World.keptBut_mono (fun p hp => ⟨hp,?_⟩) (hb.frame (· ∈ before)),fun _ => ?_⟩
 ·rw [hps,List.mem_append] at hp
  exact Or.inr hp
 ·obtain ⟨_,_,_,_,_,hz,hn⟩ := hW
  refine ⟨hok,_,_,([] ++ pa) ++ pv,⟨[] ++ pa,pv,trodAll_append (hargs _ (fun _ _ => rfl)) (hres _ _ _),hvars _ (fun _ _ => rfl),rfl,?_,?_⟩,?_⟩
  ·intro b off hp
   have hin : MemPlace.cell b off ∈ before := by rw [hps]; simpa using hp
   rw [hb.frozen (hlt _ hin)]
   exact hz b off hin
  ·intro ha
   have := hn ha
   rw [hps] at this
   simpa using this
  ·intro p hp _
   rw [hps]
   simpa using hp

theorem trodAll_stays (hl : laidOutB P = true) {W W' : World} {sp : Nat → Bool} (hb : Below W.heap.size W W') : ∀ (ts : List TypeId) (vs : List Value) (ds : List (DataW H)) (ps : List MemPlace),
  ts.all (fun t => P.readableRec t && decide (t < P.types.size)) = true → DataW.TrodAll enc P W 0 (fun _ => true) true ts vs ds ps → (∀ x ∈ ps,x.block < W.heap.size) → (∀ x ∈ ps,sp x.block = true) →
  DataW.TrodAll enc P W' 0 sp true ts vs ds ps
 | [],vs,ds,ps,_,h,_,_ => by
  obtain ⟨rfl,rfl,rfl⟩ := trodAll_nil h
  exact trodAll_mk0
 | t :: ts,vs,ds,ps,hts,h,hlt,hsp => by
  simp only [List.all_cons,Bool.and_eq_true,decide_eq_true_eq] at hts
  obtain ⟨v,vs',d,ds',p,q,rfl,rfl,rfl,h1,h2⟩ := trodAll_cons h
  exact trodAll_cons_mk (WideElems.Trod_stays hl hts.1.1 hts.1.2 h1 (fun x hx => hb.same (hlt x (by simp [hx]))) (fun x hx => hsp x (by simp [hx])))
   (trodAll_stays hl hb ts vs' ds' q hts.2 h2 (fun x hx => hlt x (by simp [hx])) (fun x hx => hsp x (by simp [hx])))

/-- A law that answered true, and left memory as it was. -/
theorem law_post {fn : Func} {s : ChangeSpec} {tb : TypeId} {W W' : World} {args : Array Value} {ds gs : List (DataW H)} {before : List MemPlace} (hl : laidOutB P = true)
  (hts : fn.params.toList.all (fun t => P.readableRec t && decide (t < P.types.size)) = true) (hv : s.vars = []) (hr : fn.resultTypes = #[tb]) (htb : P.underlying tb = some .bool)
  (hW : DataW.Whole enc P fn.params.toList s.vars false W args.toList ds gs before) (hfn : s.fn H (ds ++ gs) = { results := [.lit (.bool true)],args := ds }) (hb : Below W.heap.size W W') :
  s.post enc P fn false true false false W args (.bool true) W' := by
 have hW' := hW
 have hlt : ∀ x ∈ before,x.block < W.heap.size := fun x hx => hW'.lt x hx
 obtain ⟨p,q,hA,hV,rfl,_,_⟩ := hW
 have hq : q = [] := by
  rw [hv] at hV
  cases gs with
  | nil => exact hV
  | cons => exact hV.elim
 subst hq
 refine post_of_below (pa := p) (pv := []) hW' (fun b sp hd => ?_) (fun sp hsp => ?_) (fun sp hsp => ?_) rfl hb (ok_one hr rfl (okWide_bool_mk htb true))
 ·rw [hr,hfn]
  exact trodAll_mk1 (shut_bool htb true)
 ·rw [hfn]
  exact trodAll_stays hl hb _ _ _ _ hts hA (fun x hx => hlt x (by simp [hx])) (fun x hx => hsp x (by simp [hx]))
 ·rw [hfn,hv]
  rfl

variable {W : World} (G : Gl)

/-- An argument of one cell. -/
theorem arg_one {ty : Ty} {t : TypeId} {v : Value} {d : DataW H} {p : List MemPlace} (hm : (mT P ty).1 t = true)
  (hs : (match P.underlying t with | some .bool => true | some (.int _) => true | some .string => true | some (.slice _) => true | _ => false) = true) (hval : Value.okWide P W .any 0 t v) (hd : DataW.Trod enc P W 0 (fun _ => true) true t v d p) :
  ∃ a,Fits ty [a] ∧ Rep G (fun b => W.heap[b]?) a (fun _ => none) v := by
 obtain ⟨fuel,hf⟩ := hd
 obtain ⟨av,h1,h2,_,h4⟩ := (read_ok (w := W) G ty).1 fuel t _ _ hm hf
 have hc : v.cells.toList = [v] := by
  unfold Value.okWide at hval
  cases v with
  | agg cs =>
   exfalso
   split at hs <;> first | (rename_i ht; rw [ht] at hval; simp only [Cell.okWide,ht,Cell.ok] at hval; done) | cases hs
  | _ => rfl
 rw [hc] at h2 h4
 match av,h2 with
 | [a],_ =>
  refine ⟨a,h1,?_⟩
  simp only [RepAt] at h4
  obtain ⟨⟨x,hx,hr⟩,_⟩ := h4
  simp at hx
  subst hx
  exact hr

/-- An array or a struct. -/
theorem arg_agg {ty : Ty} {t : TypeId} {v : Value} {d : DataW H} {p : List MemPlace} (hm : (mT P ty).1 t = true)
  (hs : (match P.underlying t with | some (.array _ _) => true | some (.struct _) => true | _ => false) = true) (hval : Value.okWide P W .any 0 t v) (hd : DataW.Trod enc P W 0 (fun _ => true) true t v d p) :
  ∃ av,Fits ty av ∧ Rep G (fun b => W.heap[b]?) (.agg av) (fun _ => none) v := by
 obtain ⟨fuel,hf⟩ := hd
 obtain ⟨av,h1,h2,_,h4⟩ := (read_ok (w := W) G ty).1 fuel t _ _ hm hf
 have hc : ∃ cs,v = .agg cs := by
  unfold Value.okWide at hval
  split at hs
  ·rename_i ht; rw [ht] at hval; exact ⟨hval.choose,hval.choose_spec.1⟩
  ·rename_i ht; rw [ht] at hval; exact ⟨hval.choose,hval.choose_spec.1⟩
  ·cases hs
 obtain ⟨cs,rfl⟩ := hc
 refine ⟨av,h1,?_⟩
 simp only [Rep]
 have e : (Value.agg cs).cells = cs := rfl
 rw [e] at h2 h4
 refine ⟨cs,rfl,?_,?_⟩
 ·rw [h2]; simp
 ·simpa using h4
end

/-- The call that a contract speaks of. -/
theorem calls_of {G : Gl} {C : PC} {f : FuncId} {fn : Func} (hf : G.P.funcs[f]? = some fn) (hb : fn.body.isNone = false) (hname : (fn.name == "runtime.NumGoroutine") = false) (h : KeepsC G C (fun _ => none) f #[])
  {x : C.α} {W : World} {vs : Array Value} (hok : C.ok x) (hres : C.res x = .bool true) (hs : vs.size = (C.args x).length) (hr : RepAt G (fun b => W.heap[b]?) (C.args x) (fun _ => none) vs 0) (hgb : G.base fun b => W.heap[b]? := by trivial) :
  Calls G.P f vs W (fun e w' => e = .returned (.bool true) ∧ Below W.heap.size W w') := by
 rcases h _ W _ vs (fun b o e => by cases e) hgb (fun b o e => e) hs hr x rfl hok with ⟨_,hc⟩ | ⟨v,w',hc,_⟩
 ·rw [Array.append_empty] at hc
  refine Calls.mono hc ?_
  rintro e w' ⟨r,v,Φ',rfl,rfl,_,_,_,hrep,hbel⟩
  rw [hres] at hrep
  simp only [Rep] at hrep
  subst hrep
  exact ⟨rfl,hbel⟩
 ·rw [run_callFunc hf hb hname] at hc
  cases hc

theorem repeatL_eq (l : List UInt8) (n : Nat) : Lib.repeatL l n = (List.replicate n l).flatten := by
 induction n with
 | zero => rfl
 | succ n ih => rw [Lib.repeatL,ih,List.replicate_succ,List.flatten_cons]

end Qk
