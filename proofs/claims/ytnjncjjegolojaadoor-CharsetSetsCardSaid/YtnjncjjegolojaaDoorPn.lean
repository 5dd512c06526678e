/-
  Chapter 57: the statement on character sets.
-/
import Derived.Test.YtnjncjjegolojaaDoorPg
import Derived.Test.YtnjncjjegolojaaDoorPj

/-
  Chapter 57, plain: what the reference reads.
-/
namespace Qk
open Go

/-- The code points ahead of the first error. -/
def preF : Nat → List UInt8 → List Nat
  | 0, _ => []
  | n + 1, l => if l = [] then [] else if Bad l then [] else (Lib.decodeL l).1 :: preF n (l.drop (Lib.decodeL l).2)
def preL (l : List UInt8) : List Nat := preF l.length l
theorem preF_fuel : ∀ (n m : Nat) (l : List UInt8), l.length ≤ n → l.length ≤ m → preF n l = preF m l
  | 0, m, l, hn, _ => by
    have : l = [] := List.eq_nil_of_length_eq_zero (by omega)
    subst this
    cases m <;> simp [preF]
  | n + 1, 0, l, _, hm => by
    have : l = [] := List.eq_nil_of_length_eq_zero (by omega)
    subst this
    simp [preF]
  | n + 1, m + 1, l, hn, hm => by
    unfold preF
    have hw := Lib.decodeL_width l
    by_cases hl : l = []
    · rw [if_pos hl, if_pos hl]
    · have hp : 0 < l.length := List.length_pos_iff.2 hl
      rw [if_neg hl, if_neg hl, preF_fuel n m _ (by rw [List.length_drop]; omega) (by rw [List.length_drop]; omega)]
theorem preL_step {l : List UInt8} (hl : l ≠ []) (hb : ¬ Bad l) : preL l = (Lib.decodeL l).1 :: preL (l.drop (Lib.decodeL l).2) := by
  have hp : 0 < l.length := List.length_pos_iff.2 hl
  have hw := Lib.decodeL_width l
  obtain ⟨n, hn⟩ : ∃ n, l.length = n + 1 := ⟨l.length - 1, by omega⟩
  unfold preL
  rw [hn]
  show (if l = [] then _ else if Bad l then _ else _) = _
  rw [if_neg hl, if_neg hb, preF_fuel n (l.drop (Lib.decodeL l).2).length _ (by rw [List.length_drop]; omega) (Nat.le_refl _)]
theorem preL_bad {l : List UInt8} (hb : Bad l) : preL l = [] := by
  unfold preL
  cases l.length with
  | zero => rfl
  | succ n => unfold preF; rw [if_pos hb]; split <;> rfl
theorem preL_nil : preL [] = [] := rfl
theorem validD_bad {l : List UInt8} (hl : l ≠ []) (hb : Bad l) : Lib.validD l = false := by
  rw [Lib.validD_step l hl]; exact if_pos hb
theorem validD_good {l : List UInt8} (hl : l ≠ []) (hb : ¬ Bad l) : Lib.validD l = Lib.validD (l.drop (Lib.decodeL l).2) := by
  rw [Lib.validD_step l hl]; exact if_neg hb
theorem pts_pre : ∀ (n : Nat) (l : List UInt8), l.length ≤ n → ∀ cs, pts l = some cs → preL l = cs
  | 0, l, hn, cs, h => by
    have : l = [] := List.eq_nil_of_length_eq_zero (by omega)
    subst this
    cases h; rfl
  | n + 1, l, hn, cs, h => by
    have h2 := pts_some.1 h
    cases cs with
    | nil => rw [h2.2]; rfl
    | cons c cs =>
      have e : l = enc c ++ txt cs := by rw [h2.2]; rfl
      have hs := h2.1 c (by simp)
      have hl : l ≠ [] := by
        rw [e]
        intro h3
        exact enc_ne c (List.append_eq_nil_iff.1 h3).1
      have hb : ¬ Bad l := by rw [e]; exact not_bad hs _
      have hd : Lib.decodeL l = (c, (enc c).length) := by rw [e]; exact dec_enc hs _
      rw [preL_step hl hb, hd]
      have hdrop : l.drop (enc c).length = txt cs := by rw [e, List.drop_left']; rfl
      dsimp only
      rw [hdrop]
      have hp := (enc_len c).1
      have hlen : l.length = (enc c).length + (txt cs).length := by rw [e, List.length_append]
      rw [pts_pre n (txt cs) (by omega) cs (pts_txt fun x hx => h2.1 x (by simp [hx]))]

/-- How many bytes the reference reads at a first byte. -/
def refLen (b : Nat) : Nat := if b < 128 then 1 else if b < 224 then 2 else if b < 240 then 3 else 4
/-- What it puts together of so many bytes. -/
def refC (l : List UInt8) : Nat → Nat
  | 1 => (l.getD 0 0).toNat
  | 2 => (l.getD 0 0).toNat % 32 * 64 + (l.getD 1 0).toNat % 64
  | 3 => ((l.getD 0 0).toNat % 16 * 64 + (l.getD 1 0).toNat % 64) * 64 + (l.getD 2 0).toNat % 64
  | _ => (((l.getD 0 0).toNat % 8 * 64 + (l.getD 1 0).toNat % 64) * 64 + (l.getD 2 0).toNat % 64) * 64 + (l.getD 3 0).toNat % 64

theorem ref_good {c : Nat} (h : Sc c) (r : List UInt8) : refLen ((enc c ++ r).getD 0 0).toNat = (enc c).length ∧ refC (enc c ++ r) (enc c).length = c := by
  by_cases h1 : c < 128
  · rw [enc_one h1]
    simp only [List.cons_append, List.nil_append, List.getD_cons_zero, List.length_cons, List.length_nil]
    rw [toNat_u8 (by omega)]
    refine ⟨by unfold refLen; rw [if_pos h1], ?_⟩
    show ((c.toUInt8 :: r).getD 0 0).toNat = c
    rw [List.getD_cons_zero, toNat_u8 (by omega)]
  · by_cases h2 : c < 2048
    · rw [enc_two (by omega) h2]
      simp only [List.cons_append, List.nil_append, List.getD_cons_zero, List.length_cons, List.length_nil]
      rw [toNat_u8 (by omega)]
      refine ⟨by unfold refLen; rw [if_neg (by omega), if_pos (by omega)], ?_⟩
      simp only [refC, List.getD_cons_zero, List.getD_cons_succ]
      rw [toNat_u8 (by omega), toNat_u8 (by omega)]
      omega
    · by_cases h3 : c < 65536
      · rw [enc_three (by omega) h3 h]
        unfold Sc at h
        simp only [List.cons_append, List.nil_append, List.getD_cons_zero, List.length_cons, List.length_nil]
        rw [toNat_u8 (by omega)]
        refine ⟨by unfold refLen; rw [if_neg (by omega), if_neg (by omega), if_pos (by omega)], ?_⟩
        simp only [refC, List.getD_cons_zero, List.getD_cons_succ]
        rw [toNat_u8 (by omega), toNat_u8 (by omega), toNat_u8 (by omega)]
        omega
      · unfold Sc at h
        rw [enc_four (by omega) (by omega)]
        simp only [List.cons_append, List.nil_append, List.getD_cons_zero, List.length_cons, List.length_nil]
        rw [toNat_u8 (by omega)]
        refine ⟨by unfold refLen; rw [if_neg (by omega), if_neg (by omega), if_neg (by omega)], ?_⟩
        simp only [refC, List.getD_cons_zero, List.getD_cons_succ]
        rw [toNat_u8 (by omega), toNat_u8 (by omega), toNat_u8 (by omega), toNat_u8 (by omega)]
        omega

/-- The step of the reference. -/
theorem ref_step {l : List UInt8} (hl : l ≠ []) :
    (¬ Bad l → (Lib.decodeL l).2 = refLen (l.getD 0 0).toNat ∧ refLen (l.getD 0 0).toNat ≤ l.length ∧ refC l (refLen (l.getD 0 0).toNat) = (Lib.decodeL l).1 ∧ Sc (Lib.decodeL l).1 ∧ enc (Lib.decodeL l).1 = l.take (refLen (l.getD 0 0).toNat)) ∧
    (Bad l → refLen (l.getD 0 0).toNat ≤ l.length → Sc (refC l (refLen (l.getD 0 0).toNat)) → enc (refC l (refLen (l.getD 0 0).toNat)) ≠ l.take (refLen (l.getD 0 0).toNat)) := by
  constructor
  · intro hb
    have e := dec_take hl hb
    have hs := dec_sc hl hb
    obtain ⟨c, hc⟩ : ∃ c, c = (Lib.decodeL l).1 := ⟨_, rfl⟩
    obtain ⟨r, hr⟩ : ∃ r, r = l.drop (Lib.decodeL l).2 := ⟨_, rfl⟩
    rw [← hc, ← hr] at e
    rw [← hc] at hs ⊢
    have hd : Lib.decodeL l = (c, (enc c).length) := by rw [e]; exact dec_enc hs _
    have hg := ref_good hs r
    rw [← e] at hg
    rw [hg.1]
    refine ⟨by rw [hd], by rw [e, List.length_append]; omega, hg.2, hs, ?_⟩
    rw [e, List.take_left']
    rfl
  · intro hb hn hs he
    have e : l = enc (refC l (refLen (l.getD 0 0).toNat)) ++ l.drop (refLen (l.getD 0 0).toNat) := by rw [he, List.take_append_drop]
    rw [e] at hb
    exact not_bad hs _ hb

end Qk

/-
  Chapter 57, plain: code points that are read one by one; lengths.
-/
namespace Qk
open Go

def bigN (cs : List Nat) : Nat := cs.countP (fun c => decide (65535 < c))
def fffd : List UInt8 := [239, 191, 189]
theorem enc_fffd : enc 65533 = fffd := by rw [enc_three (by omega) (by omega) (by unfold Sc; omega)]; rfl
theorem bad_iff {l : List UInt8} (hl : l ≠ []) : Bad l ↔ (Lib.decodeL l).1 = 65533 ∧ fffd.isPrefixOf l = false := by
  constructor
  · intro hb
    refine ⟨hb.1, ?_⟩
    cases hp : fffd.isPrefixOf l with
    | false => rfl
    | true =>
      obtain ⟨r, hr⟩ := List.isPrefixOf_iff_prefix.1 hp
      have h := dec_enc (c := 65533) (by unfold Sc; omega) r
      rw [enc_fffd, hr] at h
      have h2 := hb.2
      rw [h] at h2
      exact absurd h2 (by decide)
  · rintro ⟨h1, h2⟩
    refine Classical.byContradiction fun hb => ?_
    have h3 := dec_take hl hb
    rw [h1, enc_fffd] at h3
    have : fffd.isPrefixOf l = true := List.isPrefixOf_iff_prefix.2 ⟨_, h3.symm⟩
    rw [this] at h2; cases h2
theorem wide_len2 (c : Nat) : (wide c).length = 2 + 2 * (if 65535 < c then 1 else 0) := by
  unfold wide
  by_cases h : c < 65536
  · rw [if_pos h, if_neg (by omega)]; rfl
  · rw [if_neg h, if_pos (by omega)]; rfl
theorem flat_wide_len (cs : List Nat) : (cs.flatMap wide).length = 2 * (cs.length + bigN cs) := by
  induction cs with
  | nil => rfl
  | cons c cs ih =>
    rw [List.flatMap_cons, List.length_append, ih, wide_len2]
    unfold bigN
    rw [List.countP_cons, List.length_cons]
    by_cases h : 65535 < c
    · rw [if_pos h, decide_eq_true h]; simp; omega
    · rw [if_neg h, decide_eq_false h]; simp; omega

/-- What has been read of the first p bytes: the code points, those past ffff, whether all was good. -/
structure Read (d : List UInt8) (p n w : Nat) (good : Bool) : Prop where
  hp : p ≤ d.length
  hn : n ≤ p
  hw : w ≤ n
  yes : good = true → Lib.validD d = Lib.validD (d.drop p) ∧ (preL d).length = n + (preL (d.drop p)).length ∧ bigN (preL d) = w + bigN (preL (d.drop p))
  no : good = false → Lib.validD d = false
theorem read0 (d : List UInt8) : Read d 0 0 0 true := ⟨Nat.zero_le _, Nat.le_refl _, Nat.le_refl _, fun _ => ⟨by rw [List.drop_zero], by rw [List.drop_zero, Nat.zero_add], by rw [List.drop_zero, Nat.zero_add]⟩, fun h => by cases h⟩
theorem drop_ne {d : List UInt8} {p : Nat} (h : p < d.length) : d.drop p ≠ [] := by
  intro e
  have := congrArg List.length e
  rw [List.length_drop] at this
  simp at this
  omega
theorem dec_pos (l : List UInt8) (h : l ≠ []) : 1 ≤ (Lib.decodeL l).2 ∧ (Lib.decodeL l).2 ≤ l.length := by
  by_cases hb : Bad l
  · rw [hb.2]; exact ⟨Nat.le_refl _, List.length_pos_iff.2 h⟩
  · have h1 := dec_take h hb
    have h2 := dec_sc h hb
    have h3 := dec_enc h2 (l.drop (Lib.decodeL l).2)
    rw [← h1] at h3
    have h4 := congrArg Prod.snd h3
    dsimp only at h4
    have h5 := (enc_len (Lib.decodeL l).1).1
    have h6 := congrArg List.length h1
    rw [List.length_append] at h6
    omega
theorem read_bad {d : List UInt8} {p n w : Nat} {good : Bool} (h : Read d p n w good) (hlt : p < d.length) (hb : Bad (d.drop p)) : Read d (p + (Lib.decodeL (d.drop p)).2) (n + 1) w false := by
  have h1 := dec_pos _ (drop_ne hlt)
  rw [List.length_drop] at h1
  have hp := h.hp
  have hn := h.hn
  have hw := h.hw
  refine ⟨by omega, by omega, by omega, fun e => (by cases e), fun _ => ?_⟩
  cases good with
  | false => exact h.no rfl
  | true => rw [(h.yes rfl).1]; exact validD_bad (drop_ne hlt) hb
theorem read_good {d : List UInt8} {p n w : Nat} {good : Bool} (h : Read d p n w good) (hlt : p < d.length) (hb : ¬ Bad (d.drop p)) : Read d (p + (Lib.decodeL (d.drop p)).2) (n + 1) (w + if 65535 < (Lib.decodeL (d.drop p)).1 then 1 else 0) good := by
  have h1 := dec_pos _ (drop_ne hlt)
  rw [List.length_drop] at h1
  have hp := h.hp
  have hn := h.hn
  have hw := h.hw
  have hif : (if 65535 < (Lib.decodeL (d.drop p)).1 then 1 else 0) ≤ 1 := by split <;> omega
  refine ⟨by omega, by omega, by omega, fun e => ?_, h.no⟩
  obtain ⟨h2, h3, h4⟩ := h.yes e
  rw [← List.drop_drop]
  have hs := preL_step (drop_ne hlt) hb
  refine ⟨?_, ?_, ?_⟩
  · rw [h2]; exact validD_good (drop_ne hlt) hb
  · rw [h3, hs, List.length_cons]; omega
  · rw [h4]
    conv => lhs; rw [hs]
    unfold bigN
    rw [List.countP_cons]
    by_cases hx : 65535 < (Lib.decodeL (d.drop p)).1
    · rw [if_pos hx, decide_eq_true hx, if_pos rfl]; omega
    · rw [if_neg hx, decide_eq_false hx, if_neg (by decide)]; omega
/-- At the end. -/
theorem read_end {d : List UInt8} {n w : Nat} {good : Bool} (h : Read d d.length n w good) : good = (pts d).isSome ∧ ∀ cs, pts d = some cs → n = cs.length ∧ w = bigN cs := by
  have hv := pts_valid d
  cases good with
  | false => 
    have := h.no rfl
    rw [hv, this]
    refine ⟨rfl, fun cs hc => ?_⟩
    rw [hc] at hv
    rw [this] at hv
    cases hv
  | true =>
    obtain ⟨h1, h2, h3⟩ := h.yes rfl
    rw [List.drop_length] at h1 h2 h3
    refine ⟨?_, fun cs hc => ?_⟩
    · rw [hv, h1]; rfl
    · have h4 := pts_pre d.length d (Nat.le_refl _) cs hc
      rw [h4] at h2 h3
      have e0 : preL [] = [] := preL_nil
      rw [e0] at h2 h3
      refine ⟨by simpa using h2.symm, ?_⟩
      have : bigN [] = 0 := rfl
      omega

end Qk

/-
  Chapter 57: the character sets.
-/
namespace Qk
open Go Go.RowKit

theorem decU_drop (d : List UInt8) (p : Nat) : decU d p = Lib.decodeL (d.drop p) := by
  have e := Lib.decodeL_drop ⟨d.toArray⟩ p
  unfold decU
  rw [← e]
theorem latin_len (d : List UInt8) : (fromLatinS d).length ≤ 4 * d.length := by
  have := txt_len (d.map UInt8.toNat)
  rw [List.length_map] at this
  exact this
theorem decode2 {d : List UInt8} (hd : d.length ≤ 300) : decodeS 2 d = (fromLatinS d, 0) := by
  have := latin_len d
  show convS (fun l => (fromLatinS l, true)) d = _
  exact conv_ok.2 ⟨by omega, rfl, by omega⟩
theorem decode1 {d s : List UInt8} {e : Int} (hd : d.length ≤ 300) (h : decodeS 1 d = (s, e)) : ((pts d).isSome = true → s = d ∧ e = 0) ∧ ((pts d).isSome = false → e = 24) := by
  have h' : convS sameS d = (s, e) := h
  unfold convS sameS at h'
  rw [if_neg (by omega), pts_valid] at *
  cases hv : Lib.validD d with
  | true =>
    rw [hv] at h'
    dsimp only at h'
    rw [if_neg (by omega)] at h'
    cases h'
    exact ⟨fun _ => ⟨rfl, rfl⟩, fun e => (by cases e)⟩
  | false =>
    rw [hv] at h'
    dsimp only at h'
    cases h'
    exact ⟨fun e => (by cases e), fun _ => rfl⟩
theorem encode3 {d : List UInt8} (hd : d.length ≤ 300) : (pts d = none → encodeS 3 d = ([], 24)) ∧ ∀ cs, pts d = some cs → encodeS 3 d = if d = [] then ([], 0) else (255 :: 254 :: cs.flatMap wide, 0) := by
  constructor
  · intro h
    show convS toUtf16S d = _
    unfold convS toUtf16S
    rw [if_neg (by omega), h]
  · intro cs h
    have h2 := (pts_some.1 h).2
    have h3 := cs_le cs
    rw [← h2] at h3
    have h4 := flat_wide_len cs
    have h5 : bigN cs ≤ cs.length := List.countP_le_length
    show convS toUtf16S d = _
    by_cases h0 : d = []
    · rw [if_pos h0]
      refine conv_ok.2 ⟨by omega, ?_, Nat.zero_le _⟩
      unfold toUtf16S; rw [h]; dsimp only; rw [if_pos h0]
    · rw [if_neg h0]
      refine conv_ok.2 ⟨by omega, ?_, by simp only [List.length_cons]; omega⟩
      unfold toUtf16S; rw [h]; dsimp only; rw [if_neg h0]
theorem latin_step {d : List UInt8} {k : Nat} (_hk : k ≤ d.length) (hlt : (txt ((d.map UInt8.toNat).take k)).length < (fromLatinS d).length) :
    k < d.length ∧ ∃ c : Nat, decU (fromLatinS d) (txt ((d.map UInt8.toNat).take k)).length = (c, (enc c).length) ∧ c < 256 ∧ (txt ((d.map UInt8.toNat).take k)).length + (enc c).length = (txt ((d.map UInt8.toNat).take (k + 1))).length ∧ c = (d.getD k 0).toNat := by
  have hml : (d.map UInt8.toNat).length = d.length := List.length_map _
  have hkl : k < d.length := by
    rcases Nat.lt_or_ge k d.length with h | h
    · exact h
    · rw [List.take_of_length_le (by omega)] at hlt
      exact absurd hlt (Nat.lt_irrefl _)
  have h1 := dec_at (latin_sc d) (k := k) (by omega)
  have h2 := txt_take (cs := d.map UInt8.toNat) (k := k) (by omega)
  have h3 : (d.map UInt8.toNat).getD k 0 = (d.getD k 0).toNat := by simp [List.getD, hkl]
  have hb := (d.getD k 0).toNat_lt
  rw [h3] at h1 h2
  exact ⟨hkl, _, h1, by omega, by rw [h2, List.length_append], rfl⟩
theorem latin_stop {d : List UInt8} {k : Nat} (hk : k ≤ d.length) (hge : (fromLatinS d).length ≤ (txt ((d.map UInt8.toNat).take k)).length) : k = d.length := by
  have hml : (d.map UInt8.toNat).length = d.length := List.length_map _
  rcases Nat.lt_or_ge k d.length with h | h
  · have := txt_lt (cs := d.map UInt8.toNat) (k := k) (by omega)
    have h2 : (txt (d.map UInt8.toNat)).length ≤ (txt ((d.map UInt8.toNat).take k)).length := hge
    omega
  · omega
def S2 (d : List UInt8) (n w : Nat) (g : Bool) (k : Nat) : St := mks [(0, .str d), (3, .int .i64 n), (4, .int .i64 w), (5, .bool g), (11, .int .i64 0), (12, .int .i64 k), (65, .ref 0 0)] [(0, .opq (strItR (fromLatinS d) (txt ((d.map UInt8.toNat).take k)).length))] 1
def S1 (d : List UInt8) (p n w : Nat) (good : Bool) : St := mks [(0, .str d), (3, .int .i64 n), (4, .int .i64 w), (5, .bool good), (22, .ref 0 0)] [(0, .opq (strItR d p))] 1
def R1 (d : List UInt8) (x : Nat × Nat × Nat × Bool) : Prop := Read d x.1 x.2.1 x.2.2.1 x.2.2.2

set_option maxRecDepth 4000 in
set_option maxHeartbeats 2000000 in
theorem d_CharsetSets : Does ir_quiltlaw57_CharsetSets C_quiltlaw57_CharsetSets := by
  intro (d : List UInt8) _
  show awp _ _ _ (entry [.str d])
  by_cases h300 : 300 < d.length
  · have E : decide ((300 : Int) < d.length) = true := dec_t (by omega)
    repeat ((conv => whnf); first | refine cond_t (by first | (simp only [E, eq_self]; done) | fail) ?_ | refine cond_f (by first | (simp only [E, cond_true, cond_false, Bool.not_true, Bool.not_false, eq_self, decide_true, decide_false]; done) | fail) ?_ | refine And.intro (by omega) ?_ | refine And.intro ⟨rfl, by omega, by omega⟩ ?_ | refine And.intro ⟨rfl, by decide, by omega, by omega⟩ ?_)
    refine ⟨(), rfl, trivial, ?_⟩
    refine ⟨_, (by first | exact SubSt.refl _ | exact SubTop.refl _), ?_⟩
    rfl
  have E : decide ((300 : Int) < d.length) = false := dec_f (by omega)
  have hd : d.length ≤ 300 := by omega
  repeat ((conv => whnf); first | refine cond_t (by first | (simp only [E]; done) | fail) ?_ | refine cond_f (by first | (simp only [E, eq_self]; done) | fail) ?_ | refine And.intro (by omega) ?_ | refine And.intro ⟨rfl, by omega, by omega⟩ ?_ | refine And.intro ⟨rfl, by decide, by omega, by omega⟩ ?_)
  refine ⟨Nat × Nat × Nat × Bool, R1 d, fun x => S1 d x.1 x.2.1 x.2.2.1 x.2.2.2, fun x => d.length - x.1, (0, 0, 0, true), read0 d, ?_, ?_⟩
  · refine sub_ren [0] rfl (by decide) ⟨⟨_, rfl, rfl⟩, ⟨_, rfl, rfl⟩, ⟨_, rfl, rfl⟩, ⟨_, rfl, rfl⟩, ⟨_, rfl, ⟨0, rfl, rfl⟩⟩, trivial⟩ ⟨⟨0, _, rfl, rfl, ?_⟩, trivial⟩
    exact renI rfl
  · rintro ⟨p, n, w, good⟩ hR
    show awp _ _ _ (S1 d p n w good)
    have hR' : Read d p n w good := hR
    have hp := hR'.hp
    have hn := hR'.hn
    have hw := hR'.hw
    refine ⟨_, _, rfl, fun hlt => ?_, fun hge => ?_⟩
    · replace hlt : p < d.length := hlt
      rw [decU_drop]
      have hne := drop_ne hlt
      have hpos := dec_pos _ hne
      rw [List.length_drop] at hpos
      have hbi := bad_iff hne
      have hgood := fun hb => read_good hR' hlt hb
      have hbad := fun hb => read_bad hR' hlt hb
      obtain ⟨c, hc⟩ : ∃ c, c = (Lib.decodeL (d.drop p)).1 := ⟨_, rfl⟩
      obtain ⟨wd, hwd⟩ : ∃ wd, wd = (Lib.decodeL (d.drop p)).2 := ⟨_, rfl⟩
      have hc2 : c ≤ 1114111 := by
        rw [hc]
        by_cases hb : Bad (d.drop p)
        · rw [hb.1]; decide
        · have := dec_sc hne hb; unfold Sc at this; omega
      replace hpos : 1 ≤ wd ∧ wd ≤ d.length - p := by rw [hwd]; exact hpos
      replace hbi : Bad (d.drop p) ↔ c = 65533 ∧ fffd.isPrefixOf (d.drop p) = false := by rw [hc]; exact hbi
      replace hgood : ¬ Bad (d.drop p) → Read d (p + wd) (n + 1) (w + if 65535 < c then 1 else 0) good := by rw [hwd, hc]; exact hgood
      replace hbad : Bad (d.drop p) → Read d (p + wd) (n + 1) w false := by rw [hwd]; exact hbad
      show (sos _ _ (St.set ⟨_, upd _ 0 (some (.opq (strItR d (p + (Lib.decodeL (d.drop p)).2)))), _⟩ _ (.tup [.bool true, .int .i64 p, .int .i32 (Lib.decodeL (d.drop p)).1])) _)
      rw [← hc, ← hwd]
      obtain ⟨z, hz⟩ : ∃ z : Int, z = (c : Int) := ⟨_, rfl⟩
      rw [← hz]
      refine ⟨_, rfl, ?_⟩
      refine ⟨_, rfl, ?_⟩
      refine ⟨_, rfl, ?_⟩
      have fin : ∀ n' w' good', Read d (p + wd) n' w' good' → ∀ S', SubSt 0 S' (S1 d (p + wd) n' w' good') → ∃ x', R1 d x' ∧ d.length - x'.1 < d.length - p ∧ SubSt 0 S' (S1 d x'.1 x'.2.1 x'.2.2.1 x'.2.2.2) := fun n' w' good' h S' hS => ⟨(p + wd, n', w', good'), h, (show d.length - (p + wd) < d.length - p by omega), hS⟩
      by_cases h65 : c = 65533
      · have Ez : decide (z = 65533) = true := dec_t (by omega)
        have Ew : decide (65535 < z) = false := dec_f (by omega)
        have hw0 : ¬ 65535 < c := by omega
        rw [if_neg hw0] at hgood
        repeat ((conv => whnf); first | refine cond_t (by first | (simp only [Ez, eq_self]; done) | fail) ?_ | refine cond_f (by first | (simp only [Ez, cond_true, cond_false, Bool.not_true, Bool.not_false, eq_self, decide_true, decide_false]; done) | fail) ?_ | refine And.intro (by omega) ?_ | refine And.intro ⟨rfl, by omega, by omega⟩ ?_ | refine And.intro ⟨rfl, by decide, by omega, by omega⟩ ?_)
        refine ⟨(d.drop p, fffd), ?_, ⟨(show (d.drop p).length ≤ 1000000000 by rw [List.length_drop]; omega), (show fffd.length ≤ 1000000000 by decide)⟩, ?_⟩
        · show [AV.str ((d.drop ((p : Int)).toNat).take ((d.length : Int).toNat - ((p : Int)).toNat)), .str fffd] = [.str (d.drop p), .str fffd]
          rw [Int.toNat_natCast, Int.toNat_natCast, List.take_of_length_le (by rw [List.length_drop]; exact Nat.le_refl _)]
        obtain ⟨b, hb⟩ : ∃ b, b = fffd.isPrefixOf (d.drop p) := ⟨_, rfl⟩
        have hr : C_strings_HasPrefix.res (d.drop p, fffd) = .bool b := by rw [hb]; rfl
        rw [hr]
        cases b with
        | false =>
          have hB : Bad (d.drop p) := hbi.2 ⟨h65, hb.symm⟩
          repeat ((conv => whnf); first | refine Exists.intro _ (And.intro (fun _ S' hk => Exists.intro S' (And.intro (SubSt.refl _) hk)) ?_) | refine cond_t (by first | (simp only [Ez,  Ew, cond_true, Bool.not_false, eq_self]; done) | fail) ?_ | refine cond_f (by first | (simp only [ Ew, eq_self]; done) | fail) ?_ | refine And.intro (by omega) ?_ | refine And.intro ⟨rfl, by omega, by omega⟩ ?_ | refine And.intro ⟨rfl, by decide, by omega, by omega⟩ ?_)
          refine fin _ _ _ (hbad hB) _ ?_
          refine sub_ren [0] rfl (by decide) ⟨⟨_, rfl, rfl⟩, ⟨_, rfl, eI (by omega)⟩, ⟨_, rfl, rfl⟩, ⟨_, rfl, rfl⟩, ⟨_, rfl, ⟨0, rfl, rfl⟩⟩, trivial⟩ ⟨⟨0, _, rfl, rfl, ?_⟩, trivial⟩
          exact renI rfl
        | true =>
          have hB : ¬ Bad (d.drop p) := fun h => by
            have h2 := (hbi.1 h).2
            rw [← hb] at h2
            cases h2
          repeat ((conv => whnf); first | refine Exists.intro _ (And.intro (fun _ S' hk => Exists.intro S' (And.intro (SubSt.refl _) hk)) ?_) | refine cond_t (by first | (simp only [Ez,  Ew, cond_true, Bool.not_true, eq_self]; done) | fail) ?_ | refine cond_f (by first | (simp only [Ez,  Ew, cond_true, Bool.not_true, eq_self]; done) | fail) ?_ | refine And.intro (by omega) ?_ | refine And.intro ⟨rfl, by omega, by omega⟩ ?_ | refine And.intro ⟨rfl, by decide, by omega, by omega⟩ ?_)
          refine fin _ _ _ (hgood hB) _ ?_
          refine sub_ren [0] rfl (by decide) ⟨⟨_, rfl, rfl⟩, ⟨_, rfl, eI (by omega)⟩, ⟨_, rfl, rfl⟩, ⟨_, rfl, rfl⟩, ⟨_, rfl, ⟨0, rfl, rfl⟩⟩, trivial⟩ ⟨⟨0, _, rfl, rfl, ?_⟩, trivial⟩
          exact renI rfl
      · have hB : ¬ Bad (d.drop p) := fun h => h65 (hbi.1 h).1
        have Ez : decide (z = 65533) = false := dec_f (by omega)
        have hg := hgood hB
        by_cases hbig : 65535 < c
        · have Ew : decide (65535 < z) = true := dec_t (by omega)
          rw [if_pos hbig] at hg
          repeat ((conv => whnf); first | refine Exists.intro _ (And.intro (fun _ S' hk => Exists.intro S' (And.intro (SubSt.refl _) hk)) ?_) | refine cond_t (by first | (simp only [Ez,  Ew, eq_self]; done) | fail) ?_ | refine cond_f (by first | (simp only [Ez,  eq_self]; done) | fail) ?_ | refine And.intro (by omega) ?_ | refine And.intro ⟨rfl, by omega, by omega⟩ ?_ | refine And.intro ⟨rfl, by decide, by omega, by omega⟩ ?_)
          refine fin _ _ _ hg _ ?_
          refine sub_ren [0] rfl (by decide) ⟨⟨_, rfl, rfl⟩, ⟨_, rfl, eI (by omega)⟩, ⟨_, rfl, eI (by omega)⟩, ⟨_, rfl, rfl⟩, ⟨_, rfl, ⟨0, rfl, rfl⟩⟩, trivial⟩ ⟨⟨0, _, rfl, rfl, ?_⟩, trivial⟩
          exact renI rfl
        · have Ew : decide (65535 < z) = false := dec_f (by omega)
          rw [if_neg hbig] at hg
          repeat ((conv => whnf); first | refine Exists.intro _ (And.intro (fun _ S' hk => Exists.intro S' (And.intro (SubSt.refl _) hk)) ?_) | refine cond_t (by first | (simp only [Ez,  Ew]; done) | fail) ?_ | refine cond_f (by first | (simp only [Ez,  Ew, eq_self]; done) | fail) ?_ | refine And.intro (by omega) ?_ | refine And.intro ⟨rfl, by omega, by omega⟩ ?_ | refine And.intro ⟨rfl, by decide, by omega, by omega⟩ ?_)
          refine fin _ _ _ hg _ ?_
          refine sub_ren [0] rfl (by decide) ⟨⟨_, rfl, rfl⟩, ⟨_, rfl, eI (by omega)⟩, ⟨_, rfl, rfl⟩, ⟨_, rfl, rfl⟩, ⟨_, rfl, ⟨0, rfl, rfl⟩⟩, trivial⟩ ⟨⟨0, _, rfl, rfl, ?_⟩, trivial⟩
          exact renI rfl
    · have hpe : p = d.length := by have : d.length ≤ p := hge; omega
      obtain ⟨hg, hcs⟩ := read_end (d := d) (n := n) (w := w) (good := good) (by rw [← hpe]; exact hR')
      have hd2 := decode2 hd
      have hl2 := latin_len d
      obtain ⟨s1, e1, h1⟩ : ∃ s1 e1, decodeS 1 d = (s1, e1) := ⟨_, _, rfl⟩
      have hr1 : C_charset_Decode.res (1, d) = .tup [.str s1, .int .i64 e1] := by show tupS (decodeS 1 d) = _; rw [h1]; rfl
      have hr2 : C_charset_Decode.res (2, d) = .tup [.str (fromLatinS d), .int .i64 0] := by show tupS (decodeS 2 d) = _; rw [hd2]; rfl
      have key := decode1 hd h1
      rw [← hg] at key
      refine ⟨_, rfl, ?_⟩
      refine ⟨(1, d), rfl, (show d.length ≤ 1000000000 by omega), ?_⟩
      rw [hr1]
      refine ⟨_, rfl, ?_⟩
      refine ⟨_, rfl, ?_⟩
      cases good with
      | true =>
        obtain ⟨hs1, rfl⟩ := key.1 rfl
        replace hs1 := hs1.symm
        subst hs1
        have E0 : decide ((0 : Int) = 0) = true := rfl
        have Es : (!decide (d = d)) = false := by rw [dec_t rfl]; rfl
        repeat ((conv => whnf); first | refine cond_t (by first | (simp only [ cond_true, cond_false, Bool.not_true, eq_self, decide_true]; done) | fail) ?_ | refine cond_f (by first | (simp only [ cond_true, cond_false, Bool.not_true, eq_self, decide_true]; done) | fail) ?_ | refine And.intro (by omega) ?_ | refine And.intro ⟨rfl, by omega, by omega⟩ ?_ | refine And.intro ⟨rfl, by decide, by omega, by omega⟩ ?_)
        refine ⟨(2, d), rfl, (show d.length ≤ 1000000000 by omega), ?_⟩
        rw [hr2]
        refine ⟨_, rfl, ?_⟩
        refine ⟨_, rfl, ?_⟩
        refine ⟨Nat, fun k => k ≤ d.length, fun k => S2 d n w true k, fun k => d.length - k, 0, Nat.zero_le _, ?_, ?_⟩
        · refine sub_ren [1] rfl (by decide) ⟨⟨_, rfl, rfl⟩, ⟨_, rfl, rfl⟩, ⟨_, rfl, rfl⟩, ⟨_, rfl, rfl⟩, ⟨_, rfl, rfl⟩, ⟨_, rfl, rfl⟩, ⟨_, rfl, ⟨1, rfl, rfl⟩⟩, trivial⟩ ⟨⟨1, _, rfl, rfl, ?_⟩, trivial⟩
          exact renI rfl
        · intro k hk
          replace hk : k ≤ d.length := hk
          show awp _ _ _ (S2 d n w true k)
          refine ⟨_, _, rfl, fun hlt => ?_, fun hge => ?_⟩
          · obtain ⟨hkl, c, hdec, hc, htk, hgt⟩ := latin_step hk hlt
            rw [hdec]
            have hb8 := (d.getD (k : Int).toNat 0).toNat_lt
            have E1 : decide ((d.length : Int) ≤ k) = false := dec_f (by omega)
            have E2 : (!decide ((c : Int) = ((d.getD (k : Int).toNat 0).toNat : Int))) = false := by rw [Int.toNat_natCast, ← hgt, dec_t rfl]; rfl
            refine ⟨_, rfl, ?_⟩
            refine ⟨_, rfl, ?_⟩
            repeat ((conv => whnf); first | refine cond_t (by first | (simp only [E1,  E2, cond_false]; done) | fail) ?_ | refine cond_f (by first | (simp only [E1,  E2, cond_false, eq_self]; done) | fail) ?_ | refine And.intro (by omega) ?_ | refine And.intro ⟨rfl, by omega, by omega⟩ ?_ | refine And.intro ⟨rfl, by decide, by omega, by omega⟩ ?_)
            refine ⟨k + 1, (show k + 1 ≤ d.length by omega), (show d.length - (k + 1) < d.length - k by omega), ?_⟩
            show SubSt _ _ (S2 d n w true (k + 1))
            refine sub_ren [0] rfl (by decide) ⟨⟨_, rfl, rfl⟩, ⟨_, rfl, rfl⟩, ⟨_, rfl, rfl⟩, ⟨_, rfl, rfl⟩, ⟨_, rfl, rfl⟩, ⟨_, rfl, eI (by omega)⟩, ⟨_, rfl, ⟨0, rfl, rfl⟩⟩, trivial⟩ ⟨⟨0, _, rfl, rfl, ?_⟩, trivial⟩
            exact renI htk
          · have hke : k = d.length := latin_stop hk hge
            have E3 : (!decide ((0 : Int) = 0)) = false := rfl
            have E4 : (!decide ((k : Int) = d.length)) = false := by rw [dec_t (by omega)]; rfl
            refine ⟨_, rfl, ?_⟩
            repeat ((conv => whnf); first | refine cond_t (by first | (simp only [ E4, cond_false, Bool.not_true, eq_self, decide_true]; done) | fail) ?_ | refine cond_f (by first | (simp only [ E4, cond_false, Bool.not_true, eq_self, decide_true]; done) | fail) ?_ | refine And.intro (by omega) ?_ | refine And.intro ⟨rfl, by omega, by omega⟩ ?_ | refine And.intro ⟨rfl, by decide, by omega, by omega⟩ ?_)
            refine ⟨(3, d), rfl, (show d.length ≤ 1000000000 by omega), ?_⟩
            obtain ⟨u, hu⟩ : ∃ u, encodeS 3 d = (u, 0) ∧ ((d = [] ∧ u = []) ∨ (d ≠ [] ∧ u.length = 2 + 2 * (n + w))) := by
              obtain ⟨cs, hcs1⟩ := Option.isSome_iff_exists.1 hg.symm
              obtain ⟨rfl, rfl⟩ := hcs cs hcs1
              have h3 := (encode3 hd).2 cs hcs1
              by_cases h0 : d = []
              · rw [if_pos h0] at h3; exact ⟨[], h3, .inl ⟨h0, rfl⟩⟩
              · rw [if_neg h0] at h3; exact ⟨_, h3, .inr ⟨h0, by rw [List.length_cons, List.length_cons, flat_wide_len]; omega⟩⟩
            have hr3 : C_charset_Encode.res (3, d) = .tup [.str u, .int .i64 0] := by show tupS (encodeS 3 d) = _; rw [hu.1]; rfl
            rw [hr3]
            refine ⟨_, rfl, ?_⟩
            refine ⟨_, rfl, ?_⟩
            have hwn : n ≤ 300 := by omega
            have E0 : decide ((0 : Int) = 0) = true := rfl
            rcases hu.2 with ⟨h0, h1⟩ | ⟨h0, h1⟩
            · have E6 : decide (d = (ByteArray.mk #[]).data.toList) = true := dec_t h0
              have E7 : decide (u = (ByteArray.mk #[]).data.toList) = true := dec_t h1
              repeat ((conv => whnf); first | refine cond_t (by first | (simp only [ E6,  E7, cond_true, eq_self]; done) | fail) ?_ | refine cond_f (by first | (simp only [E0,  E6,  E7, cond_true, cond_false, Bool.not_true, Bool.not_false, eq_self, decide_true, decide_false]; done) | fail) ?_ | refine And.intro (by omega) ?_ | refine And.intro ⟨rfl, by omega, by omega⟩ ?_ | refine And.intro ⟨rfl, by decide, by omega, by omega⟩ ?_)
              refine ⟨(), rfl, trivial, ?_⟩
              repeat ((conv => whnf); first | refine cond_t (by first | (simp only [E0,  E6,  E7, cond_true, cond_false, Bool.not_true, Bool.not_false, eq_self, decide_true, decide_false]; done) | fail) ?_ | refine cond_f (by first | (simp only [E0,  E6,  E7, cond_true, cond_false, Bool.not_true, Bool.not_false, eq_self, decide_true, decide_false]; done) | fail) ?_ | refine And.intro (by omega) ?_ | refine And.intro ⟨rfl, by omega, by omega⟩ ?_ | refine And.intro ⟨rfl, by decide, by omega, by omega⟩ ?_)
              refine ⟨_, (by first | exact SubSt.refl _ | exact SubTop.refl _), ?_⟩
              show AV.bool _ = AV.bool true
              simp only []
              rfl
            · have E6 : decide (d = (ByteArray.mk #[]).data.toList) = false := dec_f h0
              have E8 : decide ((u.length : Int) = 2 + 2 * ((n : Int) + w)) = true := dec_t (by omega)
              repeat ((conv => whnf); first | refine cond_t (by first | (simp only [ E6,  E8, cond_true, cond_false, Bool.not_false, eq_self, decide_true]; done) | fail) ?_ | refine cond_f (by first | (simp only [ E6,  eq_self]; done) | fail) ?_ | refine And.intro (by omega) ?_ | refine And.intro ⟨rfl, by omega, by omega⟩ ?_ | refine And.intro ⟨rfl, by decide, by omega, by omega⟩ ?_)
              refine ⟨(), rfl, trivial, ?_⟩
              repeat ((conv => whnf); first | refine cond_t (by first | (simp only [E0,  E6,  E8, cond_true, cond_false, Bool.not_true, Bool.not_false, eq_self, decide_true, decide_false]; done) | fail) ?_ | refine cond_f (by first | (simp only [E0,  E6,  E8, cond_true, cond_false, Bool.not_true, Bool.not_false, eq_self, decide_true, decide_false]; done) | fail) ?_ | refine And.intro (by omega) ?_ | refine And.intro ⟨rfl, by omega, by omega⟩ ?_ | refine And.intro ⟨rfl, by decide, by omega, by omega⟩ ?_)
              refine ⟨_, (by first | exact SubSt.refl _ | exact SubTop.refl _), ?_⟩
              show AV.bool _ = AV.bool true
              simp only [E6, E8, cond_true, cond_false, Bool.not_false]
              rfl
      | false =>
        have he := key.2 rfl
        subst he
        have E0 : decide ((24 : Int) = 0) = false := rfl
        repeat ((conv => whnf); first | refine cond_t (by first | (simp only [E0, cond_true, cond_false, Bool.not_true, Bool.not_false, eq_self, decide_true, decide_false]; done) | fail) ?_ | refine cond_f (by first | (simp only [E0, cond_true, cond_false, Bool.not_true, Bool.not_false, eq_self, decide_true, decide_false]; done) | fail) ?_ | refine And.intro (by omega) ?_ | refine And.intro ⟨rfl, by omega, by omega⟩ ?_ | refine And.intro ⟨rfl, by decide, by omega, by omega⟩ ?_)
        refine ⟨(2, d), rfl, (show d.length ≤ 1000000000 by omega), ?_⟩
        rw [hr2]
        refine ⟨_, rfl, ?_⟩
        refine ⟨_, rfl, ?_⟩
        refine ⟨Nat, fun k => k ≤ d.length, fun k => S2 d n w false k, fun k => d.length - k, 0, Nat.zero_le _, ?_, ?_⟩
        · refine sub_ren [1] rfl (by decide) ⟨⟨_, rfl, rfl⟩, ⟨_, rfl, rfl⟩, ⟨_, rfl, rfl⟩, ⟨_, rfl, rfl⟩, ⟨_, rfl, rfl⟩, ⟨_, rfl, rfl⟩, ⟨_, rfl, ⟨1, rfl, rfl⟩⟩, trivial⟩ ⟨⟨1, _, rfl, rfl, ?_⟩, trivial⟩
          exact renI rfl
        · intro k hk
          replace hk : k ≤ d.length := hk
          show awp _ _ _ (S2 d n w false k)
          refine ⟨_, _, rfl, fun hlt => ?_, fun hge => ?_⟩
          · obtain ⟨hkl, c, hdec, hc, htk, hgt⟩ := latin_step hk hlt
            rw [hdec]
            have hb8 := (d.getD (k : Int).toNat 0).toNat_lt
            have E1 : decide ((d.length : Int) ≤ k) = false := dec_f (by omega)
            have E2 : (!decide ((c : Int) = ((d.getD (k : Int).toNat 0).toNat : Int))) = false := by rw [Int.toNat_natCast, ← hgt, dec_t rfl]; rfl
            refine ⟨_, rfl, ?_⟩
            refine ⟨_, rfl, ?_⟩
            repeat ((conv => whnf); first | refine cond_t (by first | (simp only [E1,  E2, cond_false]; done) | fail) ?_ | refine cond_f (by first | (simp only [E1,  E2, cond_false, eq_self]; done) | fail) ?_ | refine And.intro (by omega) ?_ | refine And.intro ⟨rfl, by omega, by omega⟩ ?_ | refine And.intro ⟨rfl, by decide, by omega, by omega⟩ ?_)
            refine ⟨k + 1, (show k + 1 ≤ d.length by omega), (show d.length - (k + 1) < d.length - k by omega), ?_⟩
            show SubSt _ _ (S2 d n w false (k + 1))
            refine sub_ren [0] rfl (by decide) ⟨⟨_, rfl, rfl⟩, ⟨_, rfl, rfl⟩, ⟨_, rfl, rfl⟩, ⟨_, rfl, rfl⟩, ⟨_, rfl, rfl⟩, ⟨_, rfl, eI (by omega)⟩, ⟨_, rfl, ⟨0, rfl, rfl⟩⟩, trivial⟩ ⟨⟨0, _, rfl, rfl, ?_⟩, trivial⟩
            exact renI htk
          · have hke : k = d.length := latin_stop hk hge
            have E3 : (!decide ((0 : Int) = 0)) = false := rfl
            have E4 : (!decide ((k : Int) = d.length)) = false := by rw [dec_t (by omega)]; rfl
            refine ⟨_, rfl, ?_⟩
            repeat ((conv => whnf); first | refine cond_t (by first | (simp only [ E4, cond_false, Bool.not_true, eq_self, decide_true]; done) | fail) ?_ | refine cond_f (by first | (simp only [ E4, cond_false, Bool.not_true, eq_self, decide_true]; done) | fail) ?_ | refine And.intro (by omega) ?_ | refine And.intro ⟨rfl, by omega, by omega⟩ ?_ | refine And.intro ⟨rfl, by decide, by omega, by omega⟩ ?_)
            refine ⟨(3, d), rfl, (show d.length ≤ 1000000000 by omega), ?_⟩
            have h3 := (encode3 hd).1 (by cases hx : pts d with | none => rfl | some cs => rw [hx] at hg; cases hg)
            have hr3 : C_charset_Encode.res (3, d) = .tup [.str [], .int .i64 24] := by show tupS (encodeS 3 d) = _; rw [h3]; rfl
            rw [hr3]
            refine ⟨_, rfl, ?_⟩
            refine ⟨_, rfl, ?_⟩
            have E5 : decide ((24 : Int) = 24) = true := rfl
            repeat ((conv => whnf); first | refine cond_t (by first | (simp only [E5, cond_true, cond_false, Bool.not_true, Bool.not_false, eq_self, decide_true, decide_false]; done) | fail) ?_ | refine cond_f (by first | (simp only [E5, cond_true, cond_false, Bool.not_true, Bool.not_false, eq_self, decide_true, decide_false]; done) | fail) ?_ | refine And.intro (by omega) ?_ | refine And.intro ⟨rfl, by omega, by omega⟩ ?_ | refine And.intro ⟨rfl, by decide, by omega, by omega⟩ ?_)
            refine ⟨(), rfl, trivial, ?_⟩
            repeat ((conv => whnf); first | refine cond_t (by first | (simp only [E5, cond_true, cond_false, Bool.not_true, Bool.not_false, eq_self, decide_true, decide_false]; done) | fail) ?_ | refine cond_f (by first | (simp only [E5, cond_true, cond_false, Bool.not_true, Bool.not_false, eq_self, decide_true, decide_false]; done) | fail) ?_ | refine And.intro (by omega) ?_ | refine And.intro ⟨rfl, by omega, by omega⟩ ?_ | refine And.intro ⟨rfl, by decide, by omega, by omega⟩ ?_)
            refine ⟨_, (by first | exact SubSt.refl _ | exact SubTop.refl _), ?_⟩
            show AV.bool _ = AV.bool true
            simp only []
            rfl

end Qk
