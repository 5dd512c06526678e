/-
  Chapter 57: the statement on line endings.
-/
import Derived.Test.YtnjncjjegolojaaDoorPj
import Derived.Test.YtnjncjjegolojaaDoorPi

/-
  Chapter 57: the line endings.
-/
namespace Qk
open Go Go.RowKit

def gS : List UInt8 := [42, 42]
def pS : List UInt8 := [97, 47, 98]
theorem m_star : matchG gS pS = true := by rw [match_X]; kernel_rfl
theorem find_star (e : Int) : findS [⟨gS, 0, e⟩] pS = ⟨gS, 0, e⟩ := by
  show (if matchG gS pS then (⟨gS, 0, e⟩ : Att) else Att.zero) = _
  rw [m_star]; rfl
theorem known_star {e : Int} {d : List UInt8} (he : 0 ≤ e ∧ e ≤ 2) (hd : d.length ≤ 300) : knownS ⟨gS, 0, e⟩ d = 0 := by
  unfold knownS
  rw [if_neg (by dsimp only; omega), if_neg (by omega)]
theorem to_star {e : Int} {d : List UInt8} (he : 0 ≤ e ∧ e ≤ 2) (hd : d.length ≤ 300) : toRepoS [⟨gS, 0, e⟩] pS d = toLfS e d := by
  unfold toRepoS
  rw [find_star, known_star he hd]
  rfl
theorem from_star {e : Int} {d : List UInt8} (he : 0 ≤ e ∧ e ≤ 2) (hd : d.length ≤ 300) : fromRepoS [⟨gS, 0, e⟩] pS d = fromLfS e d := by
  unfold fromRepoS
  rw [find_star, known_star he hd, if_neg (by simp), if_pos (.inr rfl)]
theorem has13 (d : List UInt8) : decide ((0 : Int) ≤ indexB d 13) = decide ((13 : UInt8) ∈ d) := by
  congr 1
  unfold indexB
  by_cases h : (13 : UInt8) ∈ d
  · rw [if_pos h]; exact eq_true (by omega) |>.trans (eq_true h).symm
  · rw [if_neg h]; exact eq_false (by omega) |>.trans (eq_false h).symm
/-- Of the two directions with LF or as it is: the result and the error. -/
def lineS (e : Int) (d : List UInt8) : List UInt8 × Int := if e = 0 then (d, 0) else if (13 : UInt8) ∈ d then ([], 24) else (d, 0)
theorem to_line {e : Int} {d : List UInt8} (he : 0 ≤ e ∧ e ≤ 1) (hd : d.length ≤ 300) : toRepoS [⟨gS, 0, e⟩] pS d = lineS e d := by
  rw [to_star (by omega) hd]
  unfold toLfS lineS
  split
  · rfl
  · rw [if_neg (by omega)]
theorem from_line {e : Int} {d : List UInt8} (he : 0 ≤ e ∧ e ≤ 1) (hd : d.length ≤ 300) : fromRepoS [⟨gS, 0, e⟩] pS d = lineS e d := by
  rw [from_star (by omega) hd]
  unfold fromLfS lineS
  split
  · rfl
  · split
    · rfl
    · rw [if_neg (by omega), if_neg (by omega)]

theorem ok_star (e : Int) : okA [⟨gS, 0, e⟩] := ⟨(by show 1 ≤ _; omega), by intro b hb; rw [List.mem_singleton] at hb; subst hb; show gS.length ≤ _; decide⟩
theorem plain_tup2 (s : List UInt8) (e : Int) : PlainV (.tup [.str s, .int .i64 e]) := fun _ _ _ _ _ _ hr => by
  simp only [Rep, RepAt] at hr ⊢
  exact hr
def LS (d : List UInt8) (i : Nat) : St := mks [(0, .str d), (3, .bool (decide ((0 : Int) ≤ indexB d 13))), (22, .sl 0 0 2), (23, .int .i64 2), (24, .int .i64 i)] [(0, .ls false 1 [.int .i64 0, .int .i64 1])] 1

set_option maxRecDepth 4000 in
set_option maxHeartbeats 2000000 in
theorem d_CharsetLines : Does ir_quiltlaw57_CharsetLines C_quiltlaw57_CharsetLines := by
  intro (d : List UInt8) _
  show awp _ _ _ (entry [.str d])
  by_cases h300 : 300 < d.length
  · have E : decide ((300 : Int) < d.length) = true := dec_t (by omega)
    repeat ((conv => whnf); first | refine cond_t (by first | (simp only [E, eq_self]; done) | fail) ?_ | refine cond_f (by first | (simp only [E, cond_true, cond_false, Bool.not_true, Bool.not_false, eq_self, decide_true, decide_false]; done) | fail) ?_ | refine And.intro (by omega) ?_ | refine And.intro ⟨rfl, by omega, by omega⟩ ?_ | refine And.intro ⟨rfl, by decide, by omega, by omega⟩ ?_)
    refine ⟨(), rfl, trivial, ?_⟩
    refine ⟨_, (by first | exact SubSt.refl _ | exact SubTop.refl _), ?_⟩
    rfl
  have E : decide ((300 : Int) < d.length) = false := dec_f (by omega)
  have hd : d.length ≤ 300 := by omega
  repeat ((conv => whnf); first | refine cond_t (by first | (simp only [E]; done) | fail) ?_ | refine cond_f (by first | (simp only [E, eq_self]; done) | fail) ?_ | refine And.intro (by omega) ?_ | refine And.intro ⟨rfl, by omega, by omega⟩ ?_ | refine And.intro ⟨rfl, by decide, by omega, by omega⟩ ?_)
  refine ⟨(d, 13), rfl, (show d.length ≤ 1000000000 by omega), ?_⟩
  refine ⟨Nat, fun i => i ≤ 2, LS d, fun i => 2 - i, 0, (by omega), ?_, ?_⟩
  · refine sub_to ⟨rfl, rfl, rfl, rfl, rfl, trivial⟩ ?_ (Nat.le_refl 1)
    exact heap_is [0] (fun _ => none) (by (try dsimp only [St.set, entry]); repeat (first | exact (fun _ _ => rfl) | refine out_upd ?_ (by decide))) (out_mkh rfl) ⟨rfl, trivial⟩
  · intro i hi
    show awp _ _ _ (LS d i)
    refine cond_split (fun h => ?_) (fun h => ?_)
    · have hT : (i : Int) < 2 := of_decide_eq_true h
      have hv : ∃ v, v = AV.int .i64 (i : Int) := ⟨_, rfl⟩
      refine And.intro ⟨rfl, by omega, by omega⟩ ?_
      refine ⟨.int .i64 (i : Int), ?_, ?_⟩
      · have : i = 0 ∨ i = 1 := by omega
        rcases this with rfl | rfl <;> rfl
      refine And.intro rfl ?_
      refine And.intro (show (0 + 1) * 3 ≤ 3 by decide) ?_
      refine And.intro (nnl_attA ⟨gS, 0, i⟩) ?_
      refine ⟨([⟨gS, 0, i⟩], pS, d), rfl, ⟨ok_star _, (show pS.length ≤ 1000000000 by decide), (show d.length ≤ 1000000000 by omega)⟩, ?_⟩
      obtain ⟨s, e, hse⟩ : ∃ s e, lineS i d = (s, e) := ⟨_, _, rfl⟩
      have hr1 : C_charset_ToRepo.res ([⟨gS, 0, i⟩], pS, d) = .tup [.str s, .int .i64 e] := by show tupS (toRepoS [⟨gS, 0, i⟩] pS d) = _; rw [to_line (by omega) hd, hse]; rfl
      have hr2 : C_charset_FromRepo.res ([⟨gS, 0, i⟩], pS, d) = .tup [.str s, .int .i64 e] := by show tupS (fromRepoS [⟨gS, 0, i⟩] pS d) = _; rw [from_line (by omega) hd, hse]; rfl
      rw [hr1]
      refine And.intro (plain_tup2 s e) ?_
      refine ⟨_, rfl, ?_⟩
      refine ⟨_, rfl, ?_⟩
      refine And.intro (show (0 + 1) * 3 ≤ 3 by decide) ?_
      refine And.intro (nnl_attA ⟨gS, 0, i⟩) ?_
      refine ⟨([⟨gS, 0, i⟩], pS, d), rfl, ⟨ok_star _, (show pS.length ≤ 1000000000 by decide), (show d.length ≤ 1000000000 by omega)⟩, ?_⟩
      rw [hr2]
      refine And.intro (plain_tup2 s e) ?_
      refine ⟨_, rfl, ?_⟩
      refine ⟨_, rfl, ?_⟩
      have E13 := has13 d
      have fin : (i = 0 ∧ s = d ∧ e = 0) ∨ (i = 1 ∧ (13 : UInt8) ∈ d ∧ e = 24) ∨ (i = 1 ∧ (13 : UInt8) ∉ d ∧ s = d ∧ e = 0) := by
        unfold lineS at hse
        have : i = 0 ∨ i = 1 := by omega
        rcases this with rfl | rfl
        · rw [if_pos (show ((0 : Nat) : Int) = 0 from rfl)] at hse; cases hse; exact .inl ⟨rfl, rfl, rfl⟩
        · rw [if_neg (by decide)] at hse
          by_cases h13 : (13 : UInt8) ∈ d
          · rw [if_pos h13] at hse; cases hse; exact .inr (.inl ⟨rfl, h13, rfl⟩)
          · rw [if_neg h13] at hse; cases hse; exact .inr (.inr ⟨rfl, h13, rfl, rfl⟩)
      have Es : ∀ x : List UInt8, (!decide (x = x)) = false := fun x => by rw [dec_t rfl]; rfl
      rcases fin with ⟨rfl, rfl, rfl⟩ | ⟨rfl, h13, rfl⟩ | ⟨rfl, h13, rfl, rfl⟩
      · have Ei : decide (((0 : Nat) : Int) = 0) = true := rfl
        repeat ((conv => whnf); first | refine cond_t (by first | (simp only [ cond_true, cond_false, Bool.not_true, eq_self, decide_true]; done) | fail) ?_ | refine cond_f (by first | (simp only [ cond_true, cond_false, Bool.not_true, eq_self, decide_true]; done) | fail) ?_ | refine And.intro (by omega) ?_ | refine And.intro ⟨rfl, by omega, by omega⟩ ?_ | refine And.intro ⟨rfl, by decide, by omega, by omega⟩ ?_)
        refine ⟨1, (show 1 ≤ 2 by decide), (show 2 - 1 < 2 - 0 by decide), ?_⟩
        show SubSt _ _ (LS s 1)
        refine sub_ren [0] rfl (by decide) ⟨⟨_, rfl, rfl⟩, ⟨_, rfl, rfl⟩, ⟨_, rfl, ⟨0, rfl, eSl ?_⟩⟩, ⟨_, rfl, rfl⟩, ⟨_, rfl, rfl⟩, trivial⟩ ⟨⟨0, _, rfl, rfl, ?_⟩, trivial⟩
        · rfl
        · exact ⟨_, rfl, eN (nnl_cons (plain_int _ _).nn (nnl_one (plain_int _ _).nn)) rfl⟩
      · have Ei : decide (((1 : Nat) : Int) = 0) = false := rfl
        have E24 : decide ((24 : Int) = 0) = false := rfl
        rw [dec_t h13] at E13
        repeat ((conv => whnf); first | refine cond_t (by first | (simp only [Ei,   E13,  E24, cond_true, cond_false, Bool.not_true, eq_self, decide_true]; done) | fail) ?_ | refine cond_f (by first | (simp only [Ei,   E13,  E24, cond_true, cond_false, Bool.not_true, eq_self, decide_true]; done) | fail) ?_ | refine And.intro (by omega) ?_ | refine And.intro ⟨rfl, by omega, by omega⟩ ?_ | refine And.intro ⟨rfl, by decide, by omega, by omega⟩ ?_)
        refine ⟨2, (show 2 ≤ 2 by decide), (show 2 - 2 < 2 - 1 by decide), ?_⟩
        show SubSt _ _ (LS d 2)
        refine sub_ren [0] rfl (by decide) ⟨⟨_, rfl, rfl⟩, ⟨_, rfl, rfl⟩, ⟨_, rfl, ⟨0, rfl, eSl ?_⟩⟩, ⟨_, rfl, rfl⟩, ⟨_, rfl, rfl⟩, trivial⟩ ⟨⟨0, _, rfl, rfl, ?_⟩, trivial⟩
        · rfl
        · exact ⟨_, rfl, eN (nnl_cons (plain_int _ _).nn (nnl_one (plain_int _ _).nn)) rfl⟩
      · have Ei : decide (((1 : Nat) : Int) = 0) = false := rfl
        rw [dec_f h13] at E13
        repeat ((conv => whnf); first | refine cond_t (by first | (simp only [Ei,   E13, cond_true, cond_false, Bool.not_true, Bool.not_false, eq_self, decide_true]; done) | fail) ?_ | refine cond_f (by first | (simp only [Ei,   E13, cond_true, cond_false, Bool.not_true, Bool.not_false, eq_self, decide_true]; done) | fail) ?_ | refine And.intro (by omega) ?_ | refine And.intro ⟨rfl, by omega, by omega⟩ ?_ | refine And.intro ⟨rfl, by decide, by omega, by omega⟩ ?_)
        refine ⟨2, (show 2 ≤ 2 by decide), (show 2 - 2 < 2 - 1 by decide), ?_⟩
        show SubSt _ _ (LS s 2)
        refine sub_ren [0] rfl (by decide) ⟨⟨_, rfl, rfl⟩, ⟨_, rfl, rfl⟩, ⟨_, rfl, ⟨0, rfl, eSl ?_⟩⟩, ⟨_, rfl, rfl⟩, ⟨_, rfl, rfl⟩, trivial⟩ ⟨⟨0, _, rfl, rfl, ?_⟩, trivial⟩
        · rfl
        · exact ⟨_, rfl, eN (nnl_cons (plain_int _ _).nn (nnl_one (plain_int _ _).nn)) rfl⟩
    · have hF : ¬ (i : Int) < 2 := of_decide_eq_false h
      refine And.intro rfl ?_
      refine And.intro (show (0 + 1) * 3 ≤ 3 by decide) ?_
      refine And.intro (nnl_attA ⟨gS, 0, 2⟩) ?_
      refine ⟨([⟨gS, 0, 2⟩], pS, d), rfl, ⟨ok_star _, (show pS.length ≤ 1000000000 by decide), (show d.length ≤ 1000000000 by omega)⟩, ?_⟩
      obtain ⟨s, e, hse⟩ : ∃ s e, fromLfS 2 d = (s, e) := ⟨_, _, rfl⟩
      have hr2 : C_charset_FromRepo.res ([⟨gS, 0, 2⟩], pS, d) = .tup [.str s, .int .i64 e] := by show tupS (fromRepoS [⟨gS, 0, 2⟩] pS d) = _; rw [from_star (by omega) hd, hse]; rfl
      rw [hr2]
      refine And.intro (plain_tup2 s e) ?_
      refine ⟨_, rfl, ?_⟩
      refine ⟨_, rfl, ?_⟩
      have E13 := has13 d
      have fin : ((13 : UInt8) ∈ d ∧ e = 24) ∨ ((13 : UInt8) ∉ d ∧ s = Lib.replaceAll d [10] [13, 10] ∧ e = 0) := by
        unfold fromLfS at hse
        rw [if_neg (by decide)] at hse
        by_cases h13 : (13 : UInt8) ∈ d
        · rw [if_pos h13] at hse; cases hse; exact .inl ⟨h13, rfl⟩
        · rw [if_neg h13, if_pos rfl] at hse
          have hlen : (Lib.replaceAll d [10] [13, 10]).length ≤ 65536 := by
            rw [ra_add]
            have := addCR_len d
            omega
          rw [if_neg (by omega)] at hse
          cases hse
          exact .inr ⟨h13, rfl, rfl⟩
      rcases fin with ⟨h13, rfl⟩ | ⟨h13, rfl, rfl⟩
      · rw [dec_t h13] at E13
        have E24 : decide ((24 : Int) = 24) = true := rfl
        repeat ((conv => whnf); first | refine cond_t (by first | (simp only [E13,  eq_self]; done) | fail) ?_ | refine cond_f (by first | (simp only [E13,  E24, cond_true, cond_false, Bool.not_true, Bool.not_false, eq_self, decide_true, decide_false]; done) | fail) ?_ | refine And.intro (by omega) ?_ | refine And.intro ⟨rfl, by omega, by omega⟩ ?_ | refine And.intro ⟨rfl, by decide, by omega, by omega⟩ ?_)
        refine ⟨(), rfl, trivial, ?_⟩
        repeat ((conv => whnf); first | refine cond_t (by first | (simp only [E13,  E24, cond_true, cond_false, Bool.not_true, Bool.not_false, eq_self, decide_true, decide_false]; done) | fail) ?_ | refine cond_f (by first | (simp only [E13,  E24, cond_true, cond_false, Bool.not_true, Bool.not_false, eq_self, decide_true, decide_false]; done) | fail) ?_ | refine And.intro (by omega) ?_ | refine And.intro ⟨rfl, by omega, by omega⟩ ?_ | refine And.intro ⟨rfl, by decide, by omega, by omega⟩ ?_)
        refine ⟨_, (by first | exact SubSt.refl _ | exact SubTop.refl _), ?_⟩
        rfl
      · rw [dec_f h13] at E13
        have E0 : decide ((0 : Int) = 0) = true := rfl
        repeat ((conv => whnf); first | refine cond_t (by first | (simp only [E13,  ]; done) | fail) ?_ | refine cond_f (by first | (simp only [E13,  eq_self]; done) | fail) ?_ | refine And.intro (by omega) ?_ | refine And.intro ⟨rfl, by omega, by omega⟩ ?_ | refine And.intro ⟨rfl, by decide, by omega, by omega⟩ ?_)
        refine ⟨(d, [10], [13, 10]), rfl, ⟨(show d.length ≤ 1000000000 by omega), (show 1 ≤ [(10 : UInt8)].length by decide), (show [(13 : UInt8), 10].length ≤ 2 by decide)⟩, ?_⟩
        have Ee : decide (Lib.replaceAll d [10] [13, 10] = Lib.replaceAll d [10] [13, 10]) = true := dec_t rfl
        have hr4 : C_strings_ReplaceAll.res (d, [10], [13, 10]) = .str (Lib.replaceAll d [10] [13, 10]) := rfl
        rw [hr4]
        repeat ((conv => whnf); first | refine cond_t (by first | (simp only [  cond_true, eq_self, decide_true]; done) | fail) ?_ | refine cond_f (by first | (simp only [E13,  E0,  Ee, cond_true, cond_false, Bool.not_true, Bool.not_false, eq_self, decide_true, decide_false]; done) | fail) ?_ | refine And.intro (by omega) ?_ | refine And.intro ⟨rfl, by omega, by omega⟩ ?_ | refine And.intro ⟨rfl, by decide, by omega, by omega⟩ ?_)
        refine ⟨(), rfl, trivial, ?_⟩
        repeat ((conv => whnf); first | refine cond_t (by first | (simp only [E13,  E0,  Ee, cond_true, cond_false, Bool.not_true, Bool.not_false, eq_self, decide_true, decide_false]; done) | fail) ?_ | refine cond_f (by first | (simp only [E13,  E0,  Ee, cond_true, cond_false, Bool.not_true, Bool.not_false, eq_self, decide_true, decide_false]; done) | fail) ?_ | refine And.intro (by omega) ?_ | refine And.intro ⟨rfl, by omega, by omega⟩ ?_ | refine And.intro ⟨rfl, by decide, by omega, by omega⟩ ?_)
        refine ⟨_, (by first | exact SubSt.refl _ | exact SubTop.refl _), ?_⟩
        show AV.bool (bif (bif decide ((0 : Int) = 0) then decide (Lib.replaceAll d [10] [13, 10] = Lib.replaceAll d [10] [13, 10]) else false) then true else false) = AV.bool true
        rw [E0, Ee]; rfl

end Qk

/-
  Chapter 57: the place of a byte.
-/
namespace Qk
open Go Go.RowKit

theorem keeps_IndexByte {G : Gl} {f : FuncId} {fn : Func} (hf : G.P.funcs[f]? = some fn) (hb : fn.body.isNone = false) (hname : (fn.name == "runtime.NumGoroutine") = false)
    (h : ∀ (s : ByteArray) (c : Int) (w : World), Calls G.P f #[.string s, .int .u8 c] w fun e w' => e = .returned (.int .i64 (Lib.indexByte s.data.toList c.toNat.toUInt8)) ∧ w' = w) : KeepsC G C_strings_IndexByte (fun _ => none) f #[] := by
  refine keeps_calls hf hb hname ?_
  rintro w Φ vs ⟨l, c⟩ hphi hs hr _
  obtain ⟨x, y, rfl, h1, h2⟩ := two_args hs hr
  simp only [Rep] at h1 h2
  subst h1
  subst h2
  refine ⟨.int .i64 (indexB l c), by simp only [Rep, C_strings_IndexByte], Calls.mono (h ⟨l.toArray⟩ c.toNat w) ?_⟩
  rintro e w' ⟨rfl, rfl⟩
  refine ⟨?_, Below.refl _ _⟩
  have e1 : ((c.toNat : Int)).toNat.toUInt8 = c := UInt8.toNat_inj.1 (toNat_u8 c.toNat_lt)
  rw [e1, indexByte_eq]

end Qk
