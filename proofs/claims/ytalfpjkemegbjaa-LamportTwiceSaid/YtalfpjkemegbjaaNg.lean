/-
  Chapter 53: the functions.
-/
import Derived.Test.YtalfpjkemegbjaaNf

/-
  Signing: the reference.
-/
namespace Qk
open Go Go.RowKit
attribute [local irreducible] sha hmac

theorem d_ref_Sign : Does ir_quiltref53_Sign C_quiltref53_Sign := by
  rintro ⟨seed, i, m⟩ ⟨hs, hm⟩
  dsimp only at hs hm
  -- the index is out of range
  have out : ¬ inR i → (PC.res C_quiltref53_Sign (seed, i, m)) = .tup [.agg [.int .i64 0, .ilist 32 0 [], .ilist 32 0 [], .ilist 32 0 []], .int .i64 2] := by
    intro hi
    show AV.tup [sgA (signS seed i m), .int .i64 (signE i)] = _
    rw [signS_out hi, signE_out hi]
  refine cond_split (fun h => ?_) (fun h => ?_)
  · have hT : i < 0 := of_decide_eq_true h
    have hi : ¬ inR i := fun h => by have := h.1; omega
    refine cond_t h ?_
    refine cond_t h ?_
    refine And.intro rfl ?_
    refine And.intro ⟨rfl, one_sig rfl rfl rfl⟩ ?_
    refine And.intro (Nat.le_refl 4) ?_
    refine ⟨_, rfl, ?_⟩
    rw [out hi]
    exact sign_none rfl rfl rfl
  · have hF : ¬ i < 0 := of_decide_eq_false h
    refine cond_f h ?_
    refine cond_split (fun h2 => ?_) (fun h2 => ?_)
    · have hi : ¬ inR i := fun h3 => by
        rw [h] at h2
        have h4 : (3 : Int) < i := of_decide_eq_true h2
        have := h3.2
        omega
      refine And.intro rfl ?_
      refine And.intro ⟨rfl, one_sig rfl rfl rfl⟩ ?_
      refine And.intro (Nat.le_refl 4) ?_
      refine ⟨_, rfl, ?_⟩
      rw [out hi]
      exact sign_none rfl rfl rfl
    · have hi : inR i := by
        rw [h] at h2
        have h4 : ¬ (3 : Int) < i := of_decide_eq_false h2
        exact ⟨by omega, by omega⟩
      have hi4 := hi.2
      have hi0 := hi.1
      obtain ⟨x1, x2, x3, x4⟩ := xor_other hi
      refine And.intro rfl ?_
      refine And.intro ⟨rfl, one_sig rfl rfl rfl⟩ ?_
      refine And.intro (Nat.le_refl 4) ?_
      refine ⟨_, rfl, ?_⟩
      refine ⟨m, rfl, hm, ?_⟩
      refine ⟨Nat, fun p => p ≤ 128, fun p => mks [(0, .str seed), (1, .int .i64 i), (6, .ref 0 0), (8, .ref 1 0), (9, .str ((sha m).take 16)), (10, .int .i64 p)]
        [(0, .cells [.int .i64 0, .raw (.slice none 0 0), .raw (.slice none 0 0), .raw (.slice none 0 0)]), (1, .cells [.int .i64 i, .sl 2 0 p, .sl 3 0 p, .raw (.slice none 0 0)]),
          (2, .lst 32 (bys (catF (revAt seed i m) p))), (3, .lst 32 (bys (catF (othAt seed i m) p)))] 4, fun p => 128 - p, 0, by omega, ?_, ?_⟩
      · refine (sub_nil 1 1 false 32 rfl rfl).trans ((sub_nil 1 2 false 32 rfl rfl).trans ?_)
        refine sub_ren [0, 1, 2, 3] rfl (by decide) ⟨⟨_, rfl, rfl⟩, ⟨_, rfl, rfl⟩, ⟨_, rfl, ⟨0, rfl, rfl⟩⟩, ⟨_, rfl, ⟨1, rfl, rfl⟩⟩, ⟨_, rfl, rfl⟩, ⟨_, rfl, rfl⟩, trivial⟩ ⟨⟨0, _, rfl, rfl, ?_⟩, ⟨1, _, rfl, rfl, ?_⟩, ⟨2, _, rfl, rfl, ⟨_, rfl, eB rfl⟩⟩, ⟨3, _, rfl, rfl, ⟨_, rfl, eB rfl⟩⟩, trivial⟩
        · exact ⟨_, rfl, eN (nnl_sig _ _ _ _) rfl⟩
        · exact ⟨_, rfl, renS (a' := 2) (b' := 3) ⟨_, rfl⟩ rfl rfl rfl rfl⟩
      · intro p hp
        set_option maxRecDepth 2000 in
        refine cond_split (fun h => ?_) (fun h => ?_)
        · have hT : (p : Int) < 128 := of_decide_eq_true h
          have hb := bitB_le (sha m) p
          have eb : bitB ((sha m).take 16) p = bitB (sha m) p := by
            unfold bitB
            have : ((sha m).take 16).getD (p / 8) 0 = (sha m).getD (p / 8) 0 := by
              simp only [List.getD]
              rw [List.getElem?_take_of_lt (by omega)]
            rw [this]
          refine ⟨⟨(sha m).take 16, p⟩, rfl, ⟨by dsimp only; omega, by show ((sha m).take 16).length = 16; rw [List.length_take, sha_len]; rfl⟩, ?_⟩
          -- the revealed one
          refine jn_to ?_
          refine ⟨_, rfl, ?_⟩
          refine ⟨⟨seed, i, (p : Int), (bitB (sha m) p : Int)⟩, congrArg (fun z : Nat => [AV.str seed, .int .i64 i, .int .i64 p, .int .i64 (z : Int)]) eb, hs, ?_⟩
          have ln : (bys (revAt seed i m p)).length = 32 := by rw [bys_length]; exact secB_len _ _ _ _
          conv => whnf
          dsimp only [St.set, St.nx]
          rw [fillA_one (cs := bys (revAt seed i m p)) rfl ln (show 0 + 32 ≤ 32 by decide), ← lay_all (vs := bys (revAt seed i m p)) (cs := repl 1 (repl 32 [AV.int .u8 0])) ln]
          refine And.intro ⟨(show (2 : Nat) ≠ 11 by decide), rfl, rfl, rfl, by rw [bys_length, rev_len]; omega, by rw [ln]; decide, bys_all _, by omega⟩ ⟨_, rfl, ?_⟩
          refine And.intro (show 1 < 4 by decide) ?_
          refine And.intro rfl ?_
          refine ⟨mks [(0, .str seed), (1, .int .i64 i), (6, .ref 0 0), (8, .ref 1 0), (9, .str ((sha m).take 16)), (10, .int .i64 p), (11, .int .i64 (bitB (sha m) p))]
            [(0, .cells [.int .i64 0, .raw (.slice none 0 0), .raw (.slice none 0 0), .raw (.slice none 0 0)]), (1, .cells [.int .i64 i, .sl 2 0 (p + 1), .sl 3 0 p, .raw (.slice none 0 0)]),
              (2, .lst 32 (bys (catF (revAt seed i m) (p + 1)))), (3, .lst 32 (bys (catF (othAt seed i m) p)))] 4, ?_, ?_⟩
          · refine sub_ren [0, 1, 12, 3] rfl (by decide) ⟨⟨_, rfl, rfl⟩, ⟨_, rfl, rfl⟩, ⟨_, rfl, ⟨0, rfl, rfl⟩⟩, ⟨_, rfl, ⟨1, rfl, rfl⟩⟩, ⟨_, rfl, rfl⟩, ⟨_, rfl, rfl⟩, ⟨_, rfl, eI ?_⟩, trivial⟩ ⟨⟨0, _, rfl, rfl, ?_⟩, ⟨1, _, rfl, rfl, ?_⟩, ⟨12, _, rfl, rfl, ⟨_, rfl, eB ?_⟩⟩, ⟨3, _, rfl, rfl, ⟨_, rfl, eB rfl⟩⟩, trivial⟩
            · exact congrArg (fun z : Nat => (z : Int)) eb
            · exact ⟨_, rfl, eN (nnl_sig _ _ _ _) rfl⟩
            · exact ⟨_, rfl, renS (a' := 12) (b' := 3) ⟨_, rfl⟩ rfl rfl rfl rfl⟩
            · show bys (catF (revAt seed i m) p) ++ ((bys (revAt seed i m p)).drop 0).take 32 = bys (catF (revAt seed i m) p ++ revAt seed i m p)
              rw [← tda ln, bys_app]
          -- the other one
          refine jn_to ?_
          refine ⟨_, rfl, ?_⟩
          refine And.intro (by omega) ?_
          refine ⟨⟨seed, i, (p : Int), 1 - (bitB (sha m) p : Int)⟩, rfl, hs, ?_⟩
          refine And.intro (plainA_bys _).nn ?_
          refine ⟨secB seed i p (1 - (bitB (sha m) p : Int)), rfl, secB_len _ _ _ _, ?_⟩
          have ln2 : (bys (othAt seed i m p)).length = 32 := by rw [bys_length]; exact sha_len _
          conv => whnf
          dsimp only [St.set, St.nx]
          rw [fillA_one (cs := bys (othAt seed i m p)) rfl ln2 (show 0 + 32 ≤ 32 by decide), ← lay_all (vs := bys (othAt seed i m p)) (cs := repl 1 (repl 32 [AV.int .u8 0])) ln2]
          refine And.intro ⟨(show (3 : Nat) ≠ 13 by decide), rfl, rfl, rfl, by rw [bys_length, oth_len]; omega, by rw [ln2]; decide, bys_all _, by omega⟩ ⟨_, rfl, ?_⟩
          refine And.intro (show 2 < 4 by decide) ?_
          refine And.intro rfl ?_
          refine ⟨mks [(0, .str seed), (1, .int .i64 i), (6, .ref 0 0), (8, .ref 1 0), (9, .str ((sha m).take 16)), (10, .int .i64 p)]
            [(0, .cells [.int .i64 0, .raw (.slice none 0 0), .raw (.slice none 0 0), .raw (.slice none 0 0)]), (1, .cells [.int .i64 i, .sl 2 0 (p + 1), .sl 3 0 (p + 1), .raw (.slice none 0 0)]),
              (2, .lst 32 (bys (catF (revAt seed i m) (p + 1)))), (3, .lst 32 (bys (catF (othAt seed i m) (p + 1))))] 4, ?_, ?_⟩
          · refine sub_ren [0, 1, 2, 14] rfl (by decide) ⟨⟨_, rfl, rfl⟩, ⟨_, rfl, rfl⟩, ⟨_, rfl, ⟨0, rfl, rfl⟩⟩, ⟨_, rfl, ⟨1, rfl, rfl⟩⟩, ⟨_, rfl, rfl⟩, ⟨_, rfl, rfl⟩, trivial⟩ ⟨⟨0, _, rfl, rfl, ?_⟩, ⟨1, _, rfl, rfl, ?_⟩, ⟨2, _, rfl, rfl, ⟨_, rfl, eB rfl⟩⟩, ⟨14, _, rfl, rfl, ⟨_, rfl, eB ?_⟩⟩, trivial⟩
            · exact ⟨_, rfl, eN (nnl_sig _ _ _ _) rfl⟩
            · exact ⟨_, rfl, renS (a' := 2) (b' := 14) ⟨_, rfl⟩ rfl rfl rfl rfl⟩
            · show bys (catF (othAt seed i m) p) ++ ((bys (othAt seed i m p)).drop 0).take 32 = bys (catF (othAt seed i m) p ++ othAt seed i m p)
              rw [← tda ln2, bys_app]
          refine And.intro (by omega) ?_
          refine ⟨p + 1, by omega, by omega, ?_⟩
          refine sub_ren [0, 1, 2, 3] rfl (by decide) ⟨⟨_, rfl, rfl⟩, ⟨_, rfl, rfl⟩, ⟨_, rfl, ⟨0, rfl, rfl⟩⟩, ⟨_, rfl, ⟨1, rfl, rfl⟩⟩, ⟨_, rfl, rfl⟩, ⟨_, rfl, eI (by omega)⟩, trivial⟩ ⟨⟨0, _, rfl, rfl, ?_⟩, ⟨1, _, rfl, rfl, ?_⟩, ⟨2, _, rfl, rfl, ⟨_, rfl, eB rfl⟩⟩, ⟨3, _, rfl, rfl, ⟨_, rfl, eB rfl⟩⟩, trivial⟩
          · exact ⟨_, rfl, eN (nnl_sig _ _ _ _) rfl⟩
          · exact ⟨_, rfl, renS (a' := 2) (b' := 3) ⟨_, rfl⟩ rfl rfl rfl rfl⟩
        · have hF : ¬ (p : Int) < 128 := of_decide_eq_false h
          have : p = 128 := by omega
          subst this
          obtain ⟨L, hL⟩ : ∃ L : List (List UInt8), L = [leafK seed 0, leafK seed 1, leafK seed 2, leafK seed 3] := ⟨_, rfl⟩
          have aL : All32 L := by rw [hL]; intro d hd; simp at hd; rcases hd with rfl | rfl | rfl | rfl <;> exact leafK_len _ _
          have lL : L.length = 4 := by rw [hL]; rfl
          have gL : ∀ k : Int, 0 ≤ k → k < 4 → ((bys (List.flatten [leafK seed 0, leafK seed 1, leafK seed 2, leafK seed 3])).drop ((0 + k.toNat) * 32)).take 32 = bys (leafK seed k) := by
            intro k h0 h4
            rw [← hL, bys_flat aL (by omega), hL]
            have : k = 0 ∨ k = 1 ∨ k = 2 ∨ k = 3 := by omega
            rcases this with rfl | rfl | rfl | rfl <;> rfl
          have l32 : ∀ k, (bys (leafK seed k)).length = 32 := fun k => by rw [bys_length, leafK_len]
          refine ⟨seed, rfl, hs, ?_⟩
          refine And.intro (by decide) ?_
          refine And.intro (by rw [x3]; omega) ?_
          refine And.intro (by rw [x3]; omega) ?_
          refine And.intro (by rw [x3]; omega) ?_
          refine jn_to ?_
          refine And.intro (by decide) ?_
          refine And.intro (by rw [x3]; omega) ?_
          refine And.intro (by rw [x3]; omega) ?_
          refine And.intro (by rw [x3]; omega) ?_
          refine And.intro (by decide) ?_
          refine And.intro (by rw [x3, x4]; omega) ?_
          refine And.intro ⟨rfl, by rw [x3, x4]; omega, by rw [x3, x4]; show _ < (4 : Int); omega⟩ ?_
          refine ⟨bys (leafK seed (i / 2 * 2 + 1 - i % 2)), ⟨by rw [x3, x4]; exact (gL _ (by omega) (by omega)).symm, l32 _⟩, ?_⟩
          refine And.intro ⟨rfl, by rw [x3]; omega, by rw [x3]; show _ < (4 : Int); omega⟩ ?_
          refine ⟨bys (leafK seed (2 - i / 2 * 2)), ⟨by rw [x3]; exact (gL _ (by omega) (by omega)).symm, l32 _⟩, ?_⟩
          refine And.intro (by rw [x3]; omega) ?_
          refine And.intro ⟨rfl, by rw [x3]; omega, by rw [x3]; show _ < (4 : Int); omega⟩ ?_
          refine ⟨bys (leafK seed (2 - i / 2 * 2 + 1)), ⟨by rw [x3]; exact (gL _ (by omega) (by omega)).symm, l32 _⟩, ?_⟩
          refine And.intro (plainA_bys _).nn (And.intro (plainA_bys _).nn ?_)
          refine ⟨⟨leafK seed (2 - i / 2 * 2), leafK seed (2 - i / 2 * 2 + 1)⟩, rfl, ⟨leafK_len _ _, leafK_len _ _⟩, ?_⟩
          dsimp only
          refine x_bsliceO (cs := bys (leafK seed (i / 2 * 2 + 1 - i % 2) ++ nodeB (leafK seed (2 - i / 2 * 2)) (leafK seed (2 - i / 2 * 2 + 1)))) ?_ ?_
          · exact fill_two rfl rfl (leafK_len _ _) (nodeB_len _ _)
          have ep : (signP seed i).flatten = leafK seed (i / 2 * 2 + 1 - i % 2) ++ nodeB (leafK seed (2 - i / 2 * 2)) (leafK seed (2 - i / 2 * 2 + 1)) := by simp [signP]
          rw [← ep]
          refine And.intro (show 3 < 4 by decide) ?_
          refine ⟨mks [(6, .ref 0 0), (8, .ref 1 0)]
            [(0, .cells [.int .i64 0, .raw (.slice none 0 0), .raw (.slice none 0 0), .raw (.slice none 0 0)]), (1, .cells [.int .i64 i, .sl 2 0 128, .sl 3 0 128, .sl 4 0 2]),
              (2, .lst 32 (bys (catF (revAt seed i m) 128))), (3, .lst 32 (bys (catF (othAt seed i m) 128))), (4, .lst 32 (bys (signP seed i).flatten))] 5, ?_, ?_⟩
          · refine sub_ren [0, 1, 2, 3, 5] rfl (by decide) ⟨⟨_, rfl, ⟨0, rfl, rfl⟩⟩, ⟨_, rfl, ⟨1, rfl, rfl⟩⟩, trivial⟩ ⟨⟨0, _, rfl, rfl, ?_⟩, ⟨1, _, rfl, rfl, ?_⟩, ⟨2, _, rfl, rfl, ⟨_, rfl, eB rfl⟩⟩, ⟨3, _, rfl, rfl, ⟨_, rfl, eB rfl⟩⟩, ⟨5, _, rfl, rfl, ⟨_, rfl, eB rfl⟩⟩, trivial⟩
            · exact ⟨_, rfl, eN (nnl_sig _ _ _ _) rfl⟩
            · exact ⟨_, rfl, renS3 (a' := 2) (b' := 3) (c' := 5) rfl rfl rfl rfl rfl rfl⟩
          refine ⟨_, ⟨rfl, rfl⟩, ?_⟩
          refine And.intro ⟨rfl, one_sig rfl rfl rfl⟩ ?_
          refine And.intro (Nat.le_refl 4) ?_
          refine ⟨_, rfl, ?_⟩
          have hin : (PC.res C_quiltref53_Sign (seed, i, m)) = .tup [.agg [.int .i64 i, .ilist 32 128 (bys (catF (revAt seed i m) 128)), .ilist 32 128 (bys (catF (othAt seed i m) 128)), .ilist 32 2 (bys (signP seed i).flatten)], .int .i64 0] := by
            show AV.tup [sgA (signS seed i m), .int .i64 (signE i)] = _
            rw [signS_in hi, signE_in hi]
          rw [hin]
          exact sign_end (n0 := 0) (a := 2) (b := 3) (c := 4) rfl rfl rfl rfl rfl rfl (rev_len _ _ _ _) (oth_len _ _ _ _) (path_len _ _) ⟨by decide, by decide, by decide⟩


end Qk

/-
  The form of signatures; equality; bounds.
-/
namespace Qk
open Go Go.RowKit
attribute [local irreducible] sha hmac

theorem d_lamport_Check : Does ir_lamport_Check C_lamport_Check := by
  intro (g : Sg) _
  have res : ∀ {k : Int}, chk g = k → AV.int .i64 k = PC.res C_lamport_Check g := by
    intro k hk
    show AV.int .i64 k = AV.int .i64 (chk g)
    rw [hk]
  refine ⟨_, rfl, ?_⟩
  refine cond_split (fun h => ?_) (fun h => ?_)
  · have hT : g.i < 0 := of_decide_eq_true h
    refine cond_t h ?_
    refine cond_t h ?_
    refine cond_t h ?_
    refine ⟨_, (by first | exact SubSt.refl _ | exact SubTop.refl _), ?_⟩
    refine res ?_
    unfold chk
    rw [if_neg (fun hi => by have := hi.1; omega)]
  · have hF : ¬ g.i < 0 := of_decide_eq_false h
    refine cond_f h ?_
    refine ⟨_, rfl, ?_⟩
    refine cond_f h ?_
    refine cond_split (fun h2 => ?_) (fun h2 => ?_)
    · rw [h] at h2
      have h4 : (4 : Int) ≤ g.i := of_decide_eq_true h2
      refine ⟨_, (by first | exact SubSt.refl _ | exact SubTop.refl _), ?_⟩
      refine res ?_
      unfold chk
      rw [if_neg (fun hi => by have := hi.2; omega)]
    · rw [h] at h2
      have h4 : ¬ (4 : Int) ≤ g.i := of_decide_eq_false h2
      have hin : inR g.i := ⟨by omega, by omega⟩
      have no : ¬ (g.rev.length = 128 ∧ g.oth.length = 128 ∧ g.path.length = 2) → chk g = 1 := by
        intro hn
        unfold chk
        rw [if_pos hin, if_neg hn]
      refine ⟨_, rfl, ?_⟩
      refine cond_split (fun h3 => ?_) (fun h3 => ?_)
      · have e1 : ¬ (g.rev.length : Int) = 128 := by simpa using h3
        refine cond_t h3 ?_
        refine cond_t h3 ?_
        refine cond_t h3 ?_
        refine cond_t h3 ?_
        refine ⟨_, (by first | exact SubSt.refl _ | exact SubTop.refl _), ?_⟩
        exact res (no (by omega))
      · have e1 : (g.rev.length : Int) = 128 := by simpa using h3
        refine cond_f h3 ?_
        refine ⟨_, rfl, ?_⟩
        refine cond_f h3 ?_
        refine cond_f h3 ?_
        refine cond_split (fun h5 => ?_) (fun h5 => ?_)
        · have h5' := h5
          rw [h3] at h5'
          have e2 : ¬ (g.oth.length : Int) = 128 := by simpa using h5'
          refine cond_t h5 ?_
          refine cond_t h5 ?_
          refine cond_t h5 ?_
          refine cond_t h5 ?_
          refine ⟨_, (by first | exact SubSt.refl _ | exact SubTop.refl _), ?_⟩
          exact res (no (by omega))
        · have h5' := h5
          rw [h3] at h5'
          have e2 : (g.oth.length : Int) = 128 := by simpa using h5'
          refine cond_f h5 ?_
          refine ⟨_, rfl, ?_⟩
          refine cond_f h5 ?_
          refine cond_f h5 ?_
          refine cond_split (fun h7 => ?_) (fun h7 => ?_)
          · rw [h5] at h7
            have e3 : ¬ (g.path.length : Int) = 2 := by simpa using h7
            refine ⟨_, (by first | exact SubSt.refl _ | exact SubTop.refl _), ?_⟩
            exact res (no (by omega))
          · rw [h5] at h7
            have e3 : (g.path.length : Int) = 2 := by simpa using h7
            refine ⟨_, (by first | exact SubSt.refl _ | exact SubTop.refl _), ?_⟩
            refine res ?_
            unfold chk
            rw [if_pos hin, if_pos ⟨by omega, by omega, by omega⟩]

theorem d_ref_Check : Does ir_quiltref53_Check C_quiltref53_Check := by
  intro (g : Sg) _
  have res : ∀ {k : Int}, chk g = k → AV.int .i64 k = PC.res C_quiltref53_Check g := by
    intro k hk
    show AV.int .i64 k = AV.int .i64 (chk g)
    rw [hk]
  refine ⟨_, rfl, ?_⟩
  refine cond_split (fun h => ?_) (fun h => ?_)
  · have hT : g.i < 0 := of_decide_eq_true h
    refine cond_t h ?_
    refine cond_t h ?_
    refine cond_t h ?_
    refine ⟨_, (by first | exact SubSt.refl _ | exact SubTop.refl _), ?_⟩
    refine res ?_
    unfold chk
    rw [if_neg (fun hi => by have := hi.1; omega)]
  · have hF : ¬ g.i < 0 := of_decide_eq_false h
    refine cond_f h ?_
    refine ⟨_, rfl, ?_⟩
    refine cond_f h ?_
    refine cond_split (fun h2 => ?_) (fun h2 => ?_)
    · rw [h] at h2
      have h4 : (3 : Int) < g.i := of_decide_eq_true h2
      refine ⟨_, (by first | exact SubSt.refl _ | exact SubTop.refl _), ?_⟩
      refine res ?_
      unfold chk
      rw [if_neg (fun hi => by have := hi.2; omega)]
    · rw [h] at h2
      have h4 : ¬ (3 : Int) < g.i := of_decide_eq_false h2
      have hin : inR g.i := ⟨by omega, by omega⟩
      have no : ¬ (g.rev.length = 128 ∧ g.oth.length = 128 ∧ g.path.length = 2) → chk g = 1 := by
        intro hn
        unfold chk
        rw [if_pos hin, if_neg hn]
      refine ⟨_, rfl, ?_⟩
      refine cond_split (fun h3 => ?_) (fun h3 => ?_)
      · have e1 : ¬ (g.rev.length : Int) = 128 := by simpa using h3
        refine cond_t h3 ?_
        refine cond_t h3 ?_
        refine cond_t h3 ?_
        refine cond_t h3 ?_
        refine ⟨_, (by first | exact SubSt.refl _ | exact SubTop.refl _), ?_⟩
        exact res (no (by omega))
      · have e1 : (g.rev.length : Int) = 128 := by simpa using h3
        refine cond_f h3 ?_
        refine ⟨_, rfl, ?_⟩
        refine cond_f h3 ?_
        refine cond_f h3 ?_
        refine cond_split (fun h5 => ?_) (fun h5 => ?_)
        · have h5' := h5
          rw [h3] at h5'
          have e2 : ¬ (g.oth.length : Int) = 128 := by simpa using h5'
          refine cond_t h5 ?_
          refine cond_t h5 ?_
          refine cond_t h5 ?_
          refine cond_t h5 ?_
          refine ⟨_, (by first | exact SubSt.refl _ | exact SubTop.refl _), ?_⟩
          exact res (no (by omega))
        · have h5' := h5
          rw [h3] at h5'
          have e2 : (g.oth.length : Int) = 128 := by simpa using h5'
          refine cond_f h5 ?_
          refine ⟨_, rfl, ?_⟩
          refine cond_f h5 ?_
          refine cond_f h5 ?_
          refine cond_split (fun h7 => ?_) (fun h7 => ?_)
          · rw [h5] at h7
            have e3 : ¬ (g.path.length : Int) = 2 := by simpa using h7
            refine ⟨_, (by first | exact SubSt.refl _ | exact SubTop.refl _), ?_⟩
            exact res (no (by omega))
          · rw [h5] at h7
            have e3 : (g.path.length : Int) = 2 := by simpa using h7
            refine ⟨_, (by first | exact SubSt.refl _ | exact SubTop.refl _), ?_⟩
            refine res ?_
            unfold chk
            rw [if_pos hin, if_pos ⟨by omega, by omega, by omega⟩]


theorem d_ref_Same02 : Does ir_quiltref02_Same C_quiltref02_Same := by
  rintro ⟨a, b⟩ ⟨ha, hb, hl⟩
  dsimp only at ha hb hl
  refine cond_split (fun h => ?_) (fun h => ?_)
  · have hT : ¬ (a.length : Int) = b.length := by simpa using h
    refine ⟨_, (by first | exact SubSt.refl _ | exact SubTop.refl _), ?_⟩
    show AV.bool false = AV.bool (decide (a = b))
    rw [decide_eq_false (fun e => hT (by rw [e]))]
  · have hF : (a.length : Int) = b.length := by simpa using h
    have hlen : a.length = b.length := by omega
    refine ⟨Nat, fun i => i ≤ a.length ∧ ∀ j, j < i → a.getD j [] = b.getD j [], fun i => mks [(0, dl a), (1, dl b), (5, .int .i64 i)] [] 0, fun i => a.length - i, 0, ⟨by omega, fun j hj => by omega⟩, ?_, ?_⟩
    · refine sub_ren [] rfl (by decide) ⟨⟨_, rfl, rfl⟩, ⟨_, rfl, rfl⟩, ⟨_, rfl, rfl⟩, trivial⟩ trivial
    · rintro i ⟨hi, hj⟩
      refine cond_split (fun h => ?_) (fun h => ?_)
      · have hT : (i : Int) < a.length := of_decide_eq_true h
        have e0 : (i : Int).toNat * 32 = i * 32 := by omega
        have la : (a.getD i []).length = 32 := getD_len ha (by omega)
        have lb : (b.getD i []).length = 32 := getD_len hb (by omega)
        refine And.intro ⟨rfl, by decide, by omega, by omega⟩ ?_
        refine And.intro (nnl_bys _) ⟨bys (a.getD i []), ⟨by rw [e0, bys_flat ha (by omega)], by rw [bys_length, la]⟩, ?_⟩
        refine And.intro ⟨rfl, by decide, by omega, by show (i : Int) < b.length; omega⟩ ?_
        refine And.intro (nnl_bys _) ⟨bys (b.getD i []), ⟨by rw [e0, bys_flat hb (by omega)], by rw [bys_length, lb]⟩, ?_⟩
        refine ⟨_, eq_bys la lb, ?_⟩
        refine cond_split (fun h => ?_) (fun h => ?_)
        · have hn : ¬ a.getD i [] = b.getD i [] := by simpa using h
          refine ⟨_, (by first | exact SubSt.refl _ | exact SubTop.refl _), ?_⟩
          show AV.bool false = AV.bool (decide (a = b))
          rw [decide_eq_false (fun e => hn (by rw [e]))]
        · have he : a.getD i [] = b.getD i [] := by simpa using h
          refine And.intro (by omega) ?_
          refine ⟨i + 1, ⟨by omega, fun j hj' => ?_⟩, by dsimp only; omega, ?_⟩
          · by_cases hji : j = i
            · subst hji; exact he
            · exact hj j (by omega)
          · refine sub_ren [] rfl (by decide) ⟨⟨_, rfl, rfl⟩, ⟨_, rfl, rfl⟩, ⟨_, rfl, eI (by omega)⟩, trivial⟩ trivial
      · have hF : ¬ (i : Int) < a.length := of_decide_eq_false h
        have : i = a.length := by omega
        subst this
        refine ⟨_, (by first | exact SubSt.refl _ | exact SubTop.refl _), ?_⟩
        show AV.bool true = AV.bool (decide (a = b))
        have hab : a = b := by
          apply List.ext_getElem hlen
          intro j h1 h2
          have := hj j h1
          simpa [List.getD, h1, h2] using this
        rw [decide_eq_true hab]

theorem d_ref_Same53 : Does ir_quiltref53_Same C_quiltref53_Same := by
  rintro ⟨a, b⟩ ⟨ha, hb, hl⟩
  dsimp only at ha hb hl
  obtain ⟨a1, a2, a3⟩ := ha
  obtain ⟨b1, b2, b3⟩ := hb
  obtain ⟨l1, l2, l3⟩ := hl
  have res : ∀ {r : Bool}, sameB a b = r → AV.bool r = PC.res C_quiltref53_Same (a, b) := by
    intro r hr
    show AV.bool r = AV.bool (sameB a b)
    rw [hr]
  refine ⟨_, rfl, ?_⟩
  refine ⟨_, rfl, ?_⟩
  refine cond_split (fun h => ?_) (fun h => ?_)
  · refine cond_t h ?_
    refine ⟨_, rfl, ?_⟩
    refine cond_t h ?_
    refine cond_t h ?_
    refine ⟨_, rfl, ?_⟩
    refine cond_t h ?_
    refine ⟨⟨a.rev, b.rev⟩, rfl, ⟨a1, b1, l1⟩, ?_⟩
    refine cond_split (fun h2 => ?_) (fun h2 => ?_)
    · have h2' := h2
      rw [h] at h2'
      refine cond_t h2 ?_
      refine ⟨_, rfl, ?_⟩
      refine cond_t h2 ?_
      refine cond_t h2 ?_
      refine ⟨_, rfl, ?_⟩
      refine cond_t h2 ?_
      refine ⟨⟨a.oth, b.oth⟩, rfl, ⟨a2, b2, l2⟩, ?_⟩
      refine cond_split (fun h3 => ?_) (fun h3 => ?_)
      · have h3' := h3
        rw [h2] at h3'
        refine cond_t h3 ?_
        refine ⟨_, rfl, ?_⟩
        refine cond_t h3 ?_
        refine cond_t h3 ?_
        refine ⟨_, rfl, ?_⟩
        refine cond_t h3 ?_
        refine ⟨⟨a.path, b.path⟩, rfl, ⟨a3, b3, l3⟩, ?_⟩
        refine ⟨_, (by first | exact SubSt.refl _ | exact SubTop.refl _), ?_⟩
        have e1 : decide (a.i = b.i) = true := h
        have e2 : decide (a.rev = b.rev) = true := h2'
        have e3 : decide (a.oth = b.oth) = true := h3'
        refine res ?_
        unfold sameB
        rw [e1, e2, e3]
        rfl
      · have h3' := h3
        rw [h2] at h3'
        iterate 5 (refine cond_f h3 ?_)
        refine ⟨_, (by first | exact SubSt.refl _ | exact SubTop.refl _), ?_⟩
        have e3 : decide (a.oth = b.oth) = false := h3'
        refine res ?_
        unfold sameB
        rw [e3]
        simp
    · have h2' := h2
      rw [h] at h2'
      iterate 5 (refine cond_f h2 ?_)
      refine ⟨_, (by first | exact SubSt.refl _ | exact SubTop.refl _), ?_⟩
      have e2 : decide (a.rev = b.rev) = false := h2'
      refine res ?_
      unfold sameB
      rw [e2]
      simp
  · iterate 5 (refine cond_f h ?_)
    refine ⟨_, (by first | exact SubSt.refl _ | exact SubTop.refl _), ?_⟩
    have e1 : decide (a.i = b.i) = false := h
    refine res ?_
    unfold sameB
    rw [e1]
    simp

theorem d_ref_Great : Does ir_quiltref53_Great C_quiltref53_Great := by
  intro (g : Sg) _
  have res : ∀ {r : Bool}, greatB g = r → AV.bool r = PC.res C_quiltref53_Great g := by
    intro r hr
    show AV.bool r = AV.bool (greatB g)
    rw [hr]
  refine ⟨_, rfl, ?_⟩
  refine cond_split (fun h => ?_) (fun h => ?_)
  · have e1 : (200 : Int) < g.rev.length := of_decide_eq_true h
    iterate 4 (refine cond_t h ?_)
    refine ⟨_, (by first | exact SubSt.refl _ | exact SubTop.refl _), ?_⟩
    refine res ?_
    have : decide (200 < g.rev.length) = true := decide_eq_true (by omega)
    simp [greatB, this]
  · have e1 : ¬ (200 : Int) < g.rev.length := of_decide_eq_false h
    refine cond_f h ?_
    refine ⟨_, rfl, ?_⟩
    refine cond_f h ?_
    refine cond_f h ?_
    refine cond_split (fun h2 => ?_) (fun h2 => ?_)
    · have h2' := h2
      rw [h] at h2'
      have e2 : (200 : Int) < g.oth.length := of_decide_eq_true h2'
      iterate 1 (refine cond_t h2 ?_)
      iterate 1 (refine cond_t h2 ?_)
      iterate 1 (refine cond_t h2 ?_)
      iterate 1 (refine cond_t h2 ?_)
      refine ⟨_, (by first | exact SubSt.refl _ | exact SubTop.refl _), ?_⟩
      refine res ?_
      have : decide (200 < g.oth.length) = true := decide_eq_true (by omega)
      simp [greatB, this]
    · have h2' := h2
      rw [h] at h2'
      have e2 : ¬ (200 : Int) < g.oth.length := of_decide_eq_false h2'
      refine cond_f h2 ?_
      refine ⟨_, rfl, ?_⟩
      refine cond_f h2 ?_
      refine cond_f h2 ?_
      refine ⟨_, (by first | exact SubSt.refl _ | exact SubTop.refl _), ?_⟩
      refine res ?_
      have q1 : decide (200 < g.rev.length) = false := decide_eq_false (by omega)
      have q2 : decide (200 < g.oth.length) = false := decide_eq_false (by omega)
      rw [h2]
      show (decide (200 < g.rev.length) || decide (200 < g.oth.length) || decide (10 < g.path.length)) = decide ((10 : Int) < g.path.length)
      rw [q1, q2]
      show decide (10 < g.path.length) = _
      rw [decide_eq_decide]
      omega

theorem strs_get {l : List (List UInt8)} {i : Nat} (h : i < l.length) : (strs l)[i]? = some (.str (l.getD i [])) := by
  simp [strs, List.getD, List.getElem?_eq_getElem h]

theorem d_law_long : Does ir_quiltlaw53_long C_quiltlaw53_long := by
  intro (l : List (List UInt8)) (hl : l.length ≤ 1000000000)
  refine ⟨Nat, fun i => i ≤ l.length ∧ ∀ j, j < i → ¬ 200 < (l.getD j []).length, fun i => mks [(5, .ilist 1 l.length (strs l)), (6, .int .i64 l.length), (7, .int .i64 i)] [] 0, fun i => l.length - i, 0, ⟨by omega, fun j hj => by omega⟩, ?_, ?_⟩
  · refine sub_ren [] rfl (by decide) ⟨⟨_, rfl, rfl⟩, ⟨_, rfl, rfl⟩, ⟨_, rfl, rfl⟩, trivial⟩ trivial
  · rintro i ⟨hi, hj⟩
    refine cond_split (fun h => ?_) (fun h => ?_)
    · have hT : (i : Int) < l.length := of_decide_eq_true h
      refine And.intro ⟨rfl, by decide, by omega, by omega⟩ ?_
      have e0 : (i : Int).toNat * 1 = i := by omega
      refine ⟨.str (l.getD i []), by rw [e0]; exact strs_get (by omega), ?_⟩
      refine cond_split (fun h => ?_) (fun h => ?_)
      · have hb : (200 : Int) < (l.getD i []).length := of_decide_eq_true h
        refine ⟨_, (by first | exact SubSt.refl _ | exact SubTop.refl _), ?_⟩
        show AV.bool true = AV.bool (longB l)
        have : longB l = true := by
          unfold longB
          rw [List.any_eq_true]
          refine ⟨l.getD i [], ?_, decide_eq_true (by omega)⟩
          simp only [List.getD, List.getElem?_eq_getElem (show i < l.length by omega), Option.getD_some]
          exact List.getElem_mem _
        rw [this]
      · have hb : ¬ (200 : Int) < (l.getD i []).length := of_decide_eq_false h
        refine And.intro (by omega) ?_
        refine ⟨i + 1, ⟨by omega, fun j hj' => ?_⟩, by dsimp only; omega, ?_⟩
        · by_cases hji : j = i
          · subst hji; omega
          · exact hj j (by omega)
        · refine sub_ren [] rfl (by decide) ⟨⟨_, rfl, rfl⟩, ⟨_, rfl, rfl⟩, ⟨_, rfl, eI (by omega)⟩, trivial⟩ trivial
    · have hF : ¬ (i : Int) < l.length := of_decide_eq_false h
      have : i = l.length := by omega
      subst this
      refine ⟨_, (by first | exact SubSt.refl _ | exact SubTop.refl _), ?_⟩
      show AV.bool false = AV.bool (longB l)
      have : longB l = false := by
        unfold longB
        rw [List.any_eq_false]
        intro s hs
        obtain ⟨j, h1, rfl⟩ := List.getElem_of_mem hs
        have := hj j h1
        simp only [List.getD, List.getElem?_eq_getElem h1, Option.getD_some] at this
        simpa using this
      rw [this]

end Qk

/-
  Leaves that a signature claims; verifying.
-/
namespace Qk
open Go Go.RowKit
attribute [local irreducible] sha hmac

theorem nn_ilist (e l : Nat) (cs : List AV) : NN (.ilist e l cs) := fun _ _ _ _ _ h => by simpa [Rep] using h
theorem nnl_of {cs : List AV} (h : ∀ c ∈ cs, NN c) : NNL cs := fun _ _ _ _ _ _ hr => RepAt.mk fun j c hj => by
  obtain ⟨x, hx, hrep⟩ := RepAt.get hr hj
  exact ⟨x, hx, h c (List.mem_of_getElem? hj) _ _ _ _ _ hrep⟩
theorem nn_agg {cs : List AV} (h : ∀ c ∈ cs, NN c) : NN (.agg cs) := fun _ _ _ _ _ hr => by
  simp only [Rep] at hr ⊢
  obtain ⟨A, h1, h2, h3⟩ := hr
  exact ⟨A, h1, h2, nnl_of h _ _ _ _ _ _ h3⟩
theorem nn_tup {cs : List AV} (h : ∀ c ∈ cs, NN c) : NN (.tup cs) := fun _ _ _ _ _ hr => by
  simp only [Rep] at hr ⊢
  obtain ⟨A, h1, h2, h3⟩ := hr
  exact ⟨A, h1, h2, nnl_of h _ _ _ _ _ _ h3⟩
theorem nn_sgL (g : Sg) : ∀ c ∈ sgL g, NN c := by
  intro c hc
  simp only [sgL, List.mem_cons, List.not_mem_nil, or_false] at hc
  rcases hc with rfl | rfl | rfl | rfl
  · exact (plain_int _ _).nn
  · exact nn_ilist _ _ _
  · exact nn_ilist _ _ _
  · exact nn_ilist _ _ _
theorem nn_sgA (g : Sg) : NN (sgA g) := nn_agg (nn_sgL g)
theorem nnl_sgL (g : Sg) : NNL (sgL g) := nnl_of (nn_sgL g)
theorem nn_sgE (g : Sg) (e : Int) : NN (.tup [sgA g, .int .i64 e]) := nn_tup (by
  intro c hc
  simp at hc
  rcases hc with rfl | rfl
  · exact nn_sgA g
  · exact (plain_int _ _).nn)

theorem chk_zero {g : Sg} (h : chk g = 0) : inR g.i ∧ g.rev.length = 128 ∧ g.oth.length = 128 ∧ g.path.length = 2 := by
  unfold chk at h
  split at h
  · rename_i h1
    split at h
    · rename_i h2; exact ⟨h1, h2⟩
    · cases h
  · cases h

theorem claimAt_len {b : Nat → Nat} {g : Sg} (hg : g.ok) (h2 : g.oth.length = 128) {n : Nat} (hn : n < 256) : (claimAt b g n).length = 32 := by
  unfold claimAt
  split
  · exact sha_len _
  · exact getD_len hg.2.1 (by omega)
theorem catC_len {b : Nat → Nat} {g : Sg} (hg : g.ok) (h2 : g.oth.length = 128) : ∀ n, n ≤ 256 → (catF (claimAt b g) n).length = 32 * n
  | 0, _ => rfl
  | n + 1, h => by rw [catF, List.length_append, catC_len hg h2 n (by omega), claimAt_len hg h2 (by omega), Nat.mul_succ]

theorem t_claimed {m : List UInt8} {g : Sg} {H : Heap} {nx : Nat} {K : AV → Heap → Nat → Prop}
    (h : K (.clo 4 [.ref nx 0, .ref (nx + 1) 0]) (upd (upd H nx (some (.cells [.str m]))) (nx + 1) (some (.cells (sgL g)))) (nx + 2)) : H_lamport_claimed [.str m, .agg (sgL g)] H nx K := by
  refine And.intro rfl ?_
  refine ⟨_, (by first | exact SubSt.refl _ | exact SubTop.refl _), ?_⟩
  exact h

/-- Two digests in a pair, in either order. -/
theorem pair_lay {A B : List UInt8} {v : Nat} (hA : A.length = 32) (hB : B.length = 32) (hv : v < 2) :
    lay (lay (repl 64 [AV.int .u8 0]) (v * 32) (bys A)) ((1 - v) * 32) (bys B) = bys ((if v = 0 then A else B) ++ (if v = 0 then B else A)) := by
  rw [repl_bys, bys_lay, bys_lay, hA, hB]
  refine congrArg bys ?_
  have : v = 0 ∨ v = 1 := by omega
  rcases this with rfl | rfl
  · have e1 : (List.take (0 * 32) (List.replicate 64 (0 : UInt8)) ++ A ++ List.drop (0 * 32 + 32) (List.replicate 64 0)) = A ++ List.replicate 32 0 := by simp
    rw [e1, List.take_append_of_le_length (by omega), List.take_of_length_le (by omega), List.drop_of_length_le (by simp; omega), List.append_nil]
    rfl
  · have e1 : (List.take (1 * 32) (List.replicate 64 (0 : UInt8)) ++ A ++ List.drop (1 * 32 + 32) (List.replicate 64 0)) = List.replicate 32 0 ++ A := by simp
    rw [e1]
    show List.take 0 _ ++ B ++ List.drop 32 _ = B ++ A
    rw [List.take_zero, List.nil_append, List.drop_append]
    simp

set_option maxRecDepth 4000 in
set_option maxHeartbeats 1000000 in
theorem t_leafOf_claim {m root : List UInt8} {g : Sg} {K : AV → Heap → Nat → Prop} (hm : m.length ≤ 1000000000) (hg : g.ok) (g1 : g.rev.length = 128) (g2 : g.oth.length = 128)
    (hK : K (.agg (bys (sha (claimS m g)))) (mkh [(0, .cells (bys root)), (1, .cells (sgL g)), (4, .cells (bys (sha (claimS m g))))]) 5) :
    H_lamport_leafOf [.clo 4 [.ref 2 0, .ref 3 0]] (mkh [(3, .cells (sgL g)), (2, .cells [.str m]), (1, .cells (sgL g)), (0, .cells (bys root))]) 4 K := by
  have l32 : (bys (List.replicate 32 0)).length = 32 := rfl
  refine And.intro rfl ?_
  refine jn_to ?_
  refine ⟨_, sub_nil 5 1 true 1 rfl rfl, ?_⟩
  refine jn_to ?_
  refine ⟨5, 6, [], 0, rfl, ⟨(show (5 : Nat) ≠ 6 by decide), _, rfl, rfl, .inl rfl⟩, (show 5 < 7 by decide), (show 6 < 7 by decide), by decide, ?_⟩
  refine ⟨mks [(0, .clo 4 [.ref 2 0, .ref 3 0]), (2, .ref 4 0), (3, .ref 5 0)] [(0, .cells (bys root)), (1, .cells (sgL g)), (2, .cells [.str m]), (3, .cells (sgL g)), (4, .cells (bys (List.replicate 32 0))),
    (5, .cl true [.ref 5 0, .sl 6 0 ([0] : List UInt8).length]), (6, .ls true 1 (bys [0]))] 7, ?_, ?_⟩
  · refine sub_renF [0, 1, 2, 3, 4, 5, 8] (hfixOf 4 rfl (by decide)) rfl (by decide) ⟨⟨_, rfl, ?_⟩, ⟨_, rfl, ⟨4, rfl, rfl⟩⟩, ⟨_, rfl, ⟨5, rfl, rfl⟩⟩, trivial⟩ ⟨⟨0, _, rfl, rfl, ⟨_, rfl, eB rfl⟩⟩, ⟨1, _, rfl, rfl, ?_⟩, ⟨2, _, rfl, rfl, ?_⟩, ⟨3, _, rfl, rfl, ?_⟩, ⟨4, _, rfl, rfl, ⟨_, rfl, eB ?_⟩⟩, ⟨5, _, rfl, rfl, ?_⟩, ⟨8, _, rfl, rfl, ?_⟩, trivial⟩
    · exact .inr ⟨_, rfl, ⟨_, _, rfl, ⟨2, rfl, rfl⟩, ⟨_, _, rfl, ⟨3, rfl, rfl⟩, rfl⟩⟩⟩
    · exact ⟨_, rfl, eN (nnl_sgL _) rfl⟩
    · exact ⟨_, rfl, eN (nnl_str _) rfl⟩
    · exact ⟨_, rfl, eN (nnl_sgL _) rfl⟩
    · exact repl_bys 32
    · exact ⟨_, rfl, renB (a' := 5) (m := 8) rfl rfl rfl⟩
    · exact ⟨_, rfl, eB rfl⟩
  refine And.intro rfl (fun lp => ?_)
  refine ⟨_, rfl, ?_⟩
  refine ⟨m, rfl, hm, ?_⟩
  obtain ⟨b, hb⟩ : ∃ b, b = bitB (sha m) := ⟨_, rfl⟩
  have cl := catC_len (b := b) hg g2
  refine ⟨Nat, fun p => p ≤ 128, fun p => mks [(0, .raw (.func (.yield lp) #[] #[])), (1, .ref 2 0), (2, .ref 3 0), (8, .agg (ints .i64 (tagI m))), (9, .int .i64 p)]
    [(0, .cells (bys root)), (1, .cells (sgL g)), (2, .cells [.str m]), (3, .cells (sgL g)), (4, .cells (bys (List.replicate 32 0))), (5, .cl true [.ref 5 0, .sl 7 0 (0 :: catF (claimAt b g) (2 * p)).length]), (7, .ls true 1 (bys (0 :: catF (claimAt b g) (2 * p))))] 8,
    fun p => 128 - p, 0, by omega, ?_, ?_⟩
  · refine sub_renG [0, 1, 2, 3, 4, 5, 6, 6] _ rfl (hfixOf 7 rfl (by decide)) rfl rfl ⟨⟨_, rfl, rfl⟩, ⟨_, rfl, ⟨2, rfl, rfl⟩⟩, ⟨_, rfl, ⟨3, rfl, rfl⟩⟩, ⟨_, rfl, ?_⟩, ⟨_, rfl, rfl⟩, trivial⟩ ⟨⟨0, _, rfl, rfl, ⟨_, rfl, eB rfl⟩⟩, ⟨1, _, rfl, rfl, ?_⟩, ⟨2, _, rfl, rfl, ?_⟩, ⟨3, _, rfl, rfl, ?_⟩, ⟨4, _, rfl, rfl, ⟨_, rfl, eB rfl⟩⟩, ⟨5, _, rfl, rfl, ?_⟩, ⟨6, _, rfl, rfl, ?_⟩, trivial⟩
    · exact .inl ⟨rfl, nnl_ints _ _⟩
    · exact ⟨_, rfl, eN (nnl_sgL _) rfl⟩
    · exact ⟨_, rfl, eN (nnl_str _) rfl⟩
    · exact ⟨_, rfl, eN (nnl_sgL _) rfl⟩
    · exact ⟨_, rfl, renB (a' := 5) (m := 6) rfl rfl rfl⟩
    · exact ⟨_, rfl, eB rfl⟩
  · intro p hp
    refine cond_split (fun h => ?_) (fun h => ?_)
    · have hT : (p : Int) < 128 := of_decide_eq_true h
      have hb2 : b p < 2 := by rw [hb]; exact bitB_le _ _
      have lt : (tagI m).length = 128 := by simp [tagI]
      have e0 : (p : Int).toNat * 32 = p * 32 := by omega
      have tg : (tagI m).getD ((p : Int).toNat * 1) 0 = (b p : Int) := by
        have : (p : Int).toNat * 1 = p := by omega
        rw [this, hb]; exact tagI_get (by omega)
      refine And.intro (by omega) ?_
      refine ⟨_, ints_get (xs := tagI m) (by omega), ?_⟩
      rw [tg]
      have lz : (repl 64 [AV.int .u8 0]).length = 64 := rfl
      refine And.intro rfl ?_
      refine And.intro ⟨lz, by rw [repl_bys]; exact bys_all _⟩ ?_
      refine And.intro (Nat.le_refl 64) ?_
      refine ⟨_, lay_all (vs := repl 64 [AV.int .u8 0]) rfl, ?_⟩
      obtain ⟨A, hA⟩ : ∃ A, A = sha (g.rev.getD p []) := ⟨_, rfl⟩
      obtain ⟨B, hB⟩ : ∃ B, B = g.oth.getD p [] := ⟨_, rfl⟩
      have lr : (g.rev.getD p []).length = 32 := getD_len hg.1 (by omega)
      have lA : A.length = 32 := by rw [hA, sha_len]
      have lB : B.length = 32 := by rw [hB]; exact getD_len hg.2.1 (by omega)
      have lA' : (bys A).length = 32 := by rw [bys_length, lA]
      have lB' : (bys B).length = 32 := by rw [bys_length, lB]
      refine jn_to ?_
      refine And.intro (by omega) ?_
      refine ⟨_, rfl, ?_⟩
      refine And.intro ⟨rfl, by decide, by omega, by show (p : Int) < g.rev.length; omega⟩ ?_
      refine And.intro (nnl_bys _) ⟨bys (g.rev.getD p []), ⟨by rw [e0, bys_flat hg.1 (by omega)], by rw [bys_length, lr]⟩, ?_⟩
      refine And.intro (plainA_bys _).nn ?_
      refine ⟨g.rev.getD p [], rfl, lr, ?_⟩
      refine ⟨_, rfl, ?_⟩
      refine And.intro ⟨rfl, by decide, by omega, by show (p : Int) < g.oth.length; omega⟩ ?_
      refine And.intro (nnl_bys _) ⟨bys B, ⟨by rw [e0, bys_flat hg.2.1 (by omega), hB], lB'⟩, ?_⟩
      refine And.intro (by omega) ?_
      refine And.intro ⟨by rw [← hA]; exact lA', bys_all _⟩ ?_
      refine And.intro (by rw [lz]; omega) ?_
      refine ⟨_, rfl, ?_⟩
      refine And.intro (by omega) ?_
      have ll : (lay (repl 64 [AV.int .u8 0]) (0 + ((b p : Nat) : Int).toNat * 32) (bys (sha (g.rev.getD p [])))).length = 64 := by
        rw [lay_length (by rw [← hA, lA', lz]; omega), lz]
      refine And.intro ⟨lB', bys_all _⟩ ?_
      refine And.intro (by rw [ll]; omega) ?_
      refine ⟨_, rfl, ?_⟩
      refine And.intro rfl ?_
      obtain ⟨c0, hc0⟩ : ∃ c, c = claimAt b g (2 * p) := ⟨_, rfl⟩
      obtain ⟨c1, hc1⟩ : ∃ c, c = claimAt b g (2 * p + 1) := ⟨_, rfl⟩
      have q0 : c0 = if b p = 0 then A else B := by
        rw [hc0, hA, hB]
        unfold claimAt
        have a1 : 2 * p / 2 = p := by omega
        have a2 : 2 * p % 2 = 0 := by omega
        rw [a1, a2]
      have q1 : c1 = if b p = 0 then B else A := by
        rw [hc1, hA, hB]
        unfold claimAt
        have a1 : (2 * p + 1) / 2 = p := by omega
        have a2 : (2 * p + 1) % 2 = 1 := by omega
        rw [a1, a2]
        have : b p = 0 ∨ b p = 1 := by omega
        rcases this with h0 | h0 <;> rw [h0] <;> rfl
      have l0 : c0.length = 32 := by rw [hc0]; exact claimAt_len hg g2 (by omega)
      have l1 : c1.length = 32 := by rw [hc1]; exact claimAt_len hg g2 (by omega)
      refine ⟨mks [(0, .raw (.func (.yield lp) #[] #[])), (1, .ref 2 0), (2, .ref 3 0), (6, .ref 8 0), (8, .agg (ints .i64 (tagI m))), (9, .int .i64 p)]
        [(0, .cells (bys root)), (1, .cells (sgL g)), (2, .cells [.str m]), (3, .cells (sgL g)), (4, .cells (bys (List.replicate 32 0))), (5, .cl true [.ref 5 0, .sl 7 0 (0 :: catF (claimAt b g) (2 * p)).length]), (7, .ls true 1 (bys (0 :: catF (claimAt b g) (2 * p)))),
          (8, .cells (bys (c0 ++ c1)))] 9, ?_, ?_⟩
      · refine sub_renG [0, 1, 2, 3, 4, 5, 6, 7, 8] _ rfl (hfixOf 7 rfl (by decide)) rfl rfl ⟨⟨_, rfl, rfl⟩, ⟨_, rfl, ⟨2, rfl, rfl⟩⟩, ⟨_, rfl, ⟨3, rfl, rfl⟩⟩, ⟨_, rfl, ⟨8, rfl, rfl⟩⟩, ⟨_, rfl, ?_⟩, ⟨_, rfl, rfl⟩, trivial⟩ ⟨⟨0, _, rfl, rfl, ⟨_, rfl, eB rfl⟩⟩, ⟨1, _, rfl, rfl, ?_⟩, ⟨2, _, rfl, rfl, ?_⟩, ⟨3, _, rfl, rfl, ?_⟩, ⟨4, _, rfl, rfl, ⟨_, rfl, eB rfl⟩⟩, ⟨5, _, rfl, rfl, ?_⟩, ⟨7, _, rfl, rfl, ?_⟩, ⟨8, _, rfl, rfl, ⟨_, rfl, eB ?_⟩⟩, trivial⟩
        · exact .inl ⟨rfl, nnl_ints _ _⟩
        · exact ⟨_, rfl, eN (nnl_sgL _) rfl⟩
        · exact ⟨_, rfl, eN (nnl_str _) rfl⟩
        · exact ⟨_, rfl, eN (nnl_sgL _) rfl⟩
        · exact ⟨_, rfl, renB (a' := 5) (m := 7) rfl rfl rfl⟩
        · exact ⟨_, rfl, eB rfl⟩
        · rw [q0, q1, ← pair_lay lA lB hb2, ← hA]
          have z1 : 0 + ((b p : Nat) : Int).toNat * 32 = b p * 32 := by omega
          have z2 : 0 + (1 - ((b p : Nat) : Int)).toNat * 32 = (1 - b p) * 32 := by omega
          rw [z1, z2]
      have k0 : ((bys (c0 ++ c1)).drop 0).take 32 = bys c0 := by rw [bys_drop, bys_take, List.drop_zero, List.take_append_of_le_length (by omega), List.take_of_length_le (by omega)]
      have k1 : ((bys (c0 ++ c1)).drop 32).take 32 = bys c1 := by
        rw [bys_drop, bys_take, List.drop_append, List.drop_of_length_le (by omega), List.nil_append, l0, List.take_of_length_le (by rw [List.length_drop]; omega)]
        simp
      have lc0 : (bys c0).length = 32 := by rw [bys_length, l0]
      have lc1 : (bys c1).length = 32 := by rw [bys_length, l1]
      have lc := cl (2 * p) (by omega)
      refine And.intro ⟨by decide, by decide⟩ ?_
      refine ⟨bys c0, ⟨k0.symm, lc0⟩, ?_⟩
      refine And.intro rfl ?_
      refine And.intro rfl ?_
      refine And.intro rfl ?_
      refine And.intro ⟨lc0, bys_all _⟩ ?_
      refine And.intro (Nat.le_refl 32) ?_
      refine ⟨_, lay_all (vs := bys c0) lc0, ?_⟩
      refine And.intro (by decide) ?_
      refine ⟨5, 7, 0 :: catF (claimAt b g) (2 * p), 9, 0, 32, _, c0, _, rfl, ⟨(show (5 : Nat) ≠ 7 by decide), _, rfl, rfl, .inr rfl⟩, rfl, (show (5 : Nat) ≠ 9 by decide), (show (7 : Nat) ≠ 9 by decide),
        (show 5 < 10 by decide), (show 7 < 10 by decide), (show 9 < 10 by decide), by rw [lc0]; decide, (tda lc0).symm, bys_all _, by rw [List.length_cons, lc]; omega, ?_⟩
      refine And.intro ⟨by decide, by decide⟩ ?_
      refine ⟨bys c1, ⟨k1.symm, lc1⟩, ?_⟩
      refine And.intro rfl ?_
      refine And.intro rfl ?_
      refine And.intro rfl ?_
      refine And.intro ⟨lc1, bys_all _⟩ ?_
      refine And.intro (Nat.le_refl 32) ?_
      refine ⟨_, lay_all (vs := bys c1) lc1, ?_⟩
      refine And.intro (by decide) ?_
      refine ⟨5, 10, (0 :: catF (claimAt b g) (2 * p)) ++ c0, 11, 0, 32, _, c1, _, rfl, ⟨(show (5 : Nat) ≠ 10 by decide), _, rfl, rfl, .inr rfl⟩, rfl, (show (5 : Nat) ≠ 11 by decide), (show (10 : Nat) ≠ 11 by decide),
        (show 5 < 12 by decide), (show 10 < 12 by decide), (show 11 < 12 by decide), by rw [lc1]; decide, (tda lc1).symm, bys_all _, by rw [List.length_append, List.length_cons, lc, l0]; omega, ?_⟩
      refine And.intro (by omega) ?_
      refine ⟨p + 1, by omega, by dsimp only; omega, ?_⟩
      have ee : 0 :: catF (claimAt b g) (2 * (p + 1)) = (0 :: catF (claimAt b g) (2 * p)) ++ c0 ++ c1 := by
        rw [hc0, hc1]
        show 0 :: ((catF (claimAt b g) (2 * p) ++ claimAt b g (2 * p)) ++ claimAt b g (2 * p + 1)) = _
        simp
      dsimp only
      rw [ee]
      refine sub_renG [0, 1, 2, 3, 4, 5, 6, 12] _ rfl (hfixOf 7 rfl (by decide)) rfl rfl ⟨⟨_, rfl, rfl⟩, ⟨_, rfl, ⟨2, rfl, rfl⟩⟩, ⟨_, rfl, ⟨3, rfl, rfl⟩⟩, ⟨_, rfl, ?_⟩, ⟨_, rfl, eI (by omega)⟩, trivial⟩ ⟨⟨0, _, rfl, rfl, ⟨_, rfl, eB rfl⟩⟩, ⟨1, _, rfl, rfl, ?_⟩, ⟨2, _, rfl, rfl, ?_⟩, ⟨3, _, rfl, rfl, ?_⟩, ⟨4, _, rfl, rfl, ⟨_, rfl, eB rfl⟩⟩, ⟨5, _, rfl, rfl, ?_⟩, ⟨12, _, rfl, rfl, ?_⟩, trivial⟩
      · exact .inl ⟨rfl, nnl_ints _ _⟩
      · exact ⟨_, rfl, eN (nnl_sgL _) rfl⟩
      · exact ⟨_, rfl, eN (nnl_str _) rfl⟩
      · exact ⟨_, rfl, eN (nnl_sgL _) rfl⟩
      · exact ⟨_, rfl, renB (a' := 5) (m := 12) rfl rfl rfl⟩
      · exact ⟨_, rfl, eB rfl⟩
    · have hF : ¬ ((p : Int) < 128) := of_decide_eq_false h
      have : p = 128 := by omega
      subst this
      refine ⟨_, (by first | exact SubSt.refl _ | exact SubTop.refl _), ?_⟩
      have lc : (claimS m g).length = 8193 := by unfold claimS; rw [← hb, List.length_cons, cl 256 (by omega)]
      have ec : 0 :: catF (claimAt b g) 256 = claimS m g := by unfold claimS; rw [← hb]
      refine ⟨5, 7, _, claimS m g, rfl, (show (5 : Nat) ≠ 7 by decide), by rw [← ec]; rfl, by rw [← ec]; rfl, by rw [lc]; decide, ?_⟩
      refine ⟨claimS m g, rfl, by show (claimS m g).length ≤ _; rw [lc]; decide, ?_⟩
      have ln : (bys (sha (claimS m g))).length = 32 := by rw [bys_length, sha_len]
      refine And.intro ⟨ln, bys_all _⟩ ?_
      refine And.intro (by rw [l32]; exact Nat.le_refl 32) ?_
      refine ⟨_, lay_all (vs := bys (sha (claimS m g))) (by rw [ln, l32]), ?_⟩
      refine ⟨mks [(2, .ref 4 0)] [(0, .cells (bys root)), (1, .cells (sgL g)), (4, .cells (bys (sha (claimS m g))))] 5, ?_, ?_⟩
      · refine sub_renF [0, 1, 2, 3, 4] (hfixOf 4 rfl (by decide)) rfl (by decide) ⟨⟨_, rfl, ⟨4, rfl, rfl⟩⟩, trivial⟩ ⟨⟨0, _, rfl, rfl, ⟨_, rfl, eB rfl⟩⟩, ⟨1, _, rfl, rfl, ?_⟩, ⟨4, _, rfl, rfl, ⟨_, rfl, eB rfl⟩⟩, trivial⟩
        exact ⟨_, rfl, eN (nnl_sgL _) rfl⟩
      refine ⟨_, ⟨tda ln, ln, by omega⟩, ?_⟩
      exact hK

end Qk

/-
  Verifying: the program.
-/
namespace Qk
open Go Go.RowKit
attribute [local irreducible] sha hmac

/-- The climb, step by step. -/
def climbN (d : List UInt8) (k : Nat) (path : List (List UInt8)) : Nat → List UInt8 × Nat
  | 0 => (d, k)
  | i + 1 => (if (climbN d k path i).2 % 2 = 0 then nodeB (climbN d k path i).1 (path.getD i []) else nodeB (path.getD i []) (climbN d k path i).1, (climbN d k path i).2 / 2)
theorem climbN_eq {d : List UInt8} {k : Nat} {path : List (List UInt8)} (h : path.length = 2) : (climbN d k path 2).1 = climb d k path := by
  match path, h with
  | [a, b], _ => rfl
theorem climbN_len {d : List UInt8} {k : Nat} {path : List (List UInt8)} (h : d.length = 32) (i : Nat) : (climbN d k path i).1.length = 32 := by
  cases i with
  | zero => exact h
  | succ i =>
    simp only [climbN]
    split <;> exact nodeB_len _ _
theorem climbN_k {d : List UInt8} {k : Nat} {path : List (List UInt8)} (i : Nat) : (climbN d k path i).2 ≤ k := by
  induction i with
  | zero => exact Nat.le_refl _
  | succ i ih => simp only [climbN]; omega

set_option maxRecDepth 4000 in
theorem d_lamport_Verify : Does ir_lamport_Verify C_lamport_Verify := by
  rintro ⟨root, m, g⟩ ⟨hr, hm, hg⟩
  dsimp only at hr hm hg
  have res : ∀ {r : Bool}, verB root m g = r → AV.bool r = PC.res C_lamport_Verify (root, m, g) := by
    intro r h
    show AV.bool r = AV.bool (verB root m g)
    rw [h]
  have lr : (bys root).length = 32 := by rw [bys_length, hr]
  refine ⟨sgL g, ⟨rfl, rfl⟩, ?_⟩
  refine And.intro (nn_sgA g) ?_
  refine ⟨g, rfl, trivial, ?_⟩
  refine cond_split (fun h => ?_) (fun h => ?_)
  · have hn : ¬ chk g = 0 := by simpa using h
    refine ⟨_, (by first | exact SubSt.refl _ | exact SubTop.refl _), ?_⟩
    refine res ?_
    unfold verB
    rw [decide_eq_false hn]
    rfl
  · have hz : chk g = 0 := by simpa using h
    obtain ⟨hi, g1, g2, g3⟩ := chk_zero hz
    have hi0 := hi.1
    have hi4 := hi.2
    refine ⟨sgL g, ⟨rfl, rfl⟩, ?_⟩
    refine t_claimed ?_
    refine t_leafOf_claim hm hg g1 g2 ?_
    obtain ⟨d, hd⟩ : ∃ d, d = sha (claimS m g) := ⟨_, rfl⟩
    have ld : d.length = 32 := by rw [hd, sha_len]
    rw [← hd]
    have ln : (bys d).length = 32 := by rw [bys_length, ld]
    refine And.intro ⟨ln, bys_all _⟩ ?_
    refine And.intro (Nat.le_refl 32) ?_
    refine ⟨_, lay_all (vs := bys d) ln, ?_⟩
    refine ⟨_, rfl, ?_⟩
    refine ⟨_, rfl, ?_⟩
    refine ⟨Nat, fun i => i ≤ 2, fun i => mks [(3, .ref 0 0), (7, .ref 1 0), (8, .int .i64 ((climbN d g.i.toNat g.path i).2 : Nat)), (21, dl g.path), (22, .int .i64 2), (23, .int .i64 i)]
      [(0, .cells (bys root)), (1, .cells (bys (climbN d g.i.toNat g.path i).1))] 2, fun i => 2 - i, 0, by omega, ?_, ?_⟩
    · refine sub_ren [0, 5] rfl (by decide) ⟨⟨_, rfl, ⟨0, rfl, rfl⟩⟩, ⟨_, rfl, ⟨5, rfl, rfl⟩⟩, ⟨_, rfl, eI ?_⟩, ⟨_, rfl, rfl⟩, ⟨_, rfl, eI ?_⟩, ⟨_, rfl, rfl⟩, trivial⟩ ⟨⟨0, _, rfl, rfl, ⟨_, rfl, eB rfl⟩⟩, ⟨5, _, rfl, rfl, ⟨_, rfl, eB rfl⟩⟩, trivial⟩
      · show g.i = ((g.i.toNat : Nat) : Int); omega
      · show (g.path.length : Int) = 2; omega
    · intro i hi'
      obtain ⟨D, hD⟩ : ∃ D, D = (climbN d g.i.toNat g.path i).1 := ⟨_, rfl⟩
      obtain ⟨k, hk⟩ : ∃ k, k = (climbN d g.i.toNat g.path i).2 := ⟨_, rfl⟩
      have lD : D.length = 32 := by rw [hD]; exact climbN_len ld i
      have kle : k ≤ g.i.toNat := by rw [hk]; exact climbN_k i
      have lnD : (bys D).length = 32 := by rw [bys_length, lD]
      dsimp only
      rw [← hD, ← hk]
      refine cond_split (fun h => ?_) (fun h => ?_)
      · have hT : (i : Int) < 2 := of_decide_eq_true h
        obtain ⟨b, hb⟩ : ∃ b, b = g.path.getD i [] := ⟨_, rfl⟩
        have lb : b.length = 32 := by rw [hb]; exact getD_len hg.2.2 (by omega)
        have lnb : (bys b).length = 32 := by rw [bys_length, lb]
        have e0 : (i : Int).toNat * 32 = i * 32 := by omega
        refine And.intro ⟨rfl, by decide, by omega, by show (i : Int) < g.path.length; omega⟩ ?_
        refine And.intro (nnl_bys _) ⟨bys b, ⟨by rw [e0, bys_flat hg.2.2 (by omega), hb], lnb⟩, ?_⟩
        refine And.intro ⟨lnb, bys_all _⟩ ?_
        refine And.intro (Nat.le_refl 32) ?_
        refine ⟨_, lay_all (vs := bys b) lnb, ?_⟩
        refine And.intro (by decide) ?_
        have q : Int.tmod (k : Int) 2 = ((k % 2 : Nat) : Int) := tmodN k 2
        refine jn_at (fun _ : Unit => mks [(3, .ref 0 0), (7, .ref 1 0), (8, .int .i64 k), (21, dl g.path), (22, .int .i64 2), (23, .int .i64 i)]
          [(0, .cells (bys root)), (1, .cells (bys (climbN d g.i.toNat g.path (i + 1)).1))] 2) (fun _ => True) ?_ ?_
        · refine cond_split (fun h => ?_) (fun h => ?_)
          · have he : Int.tmod (k : Int) 2 = 0 := of_decide_eq_true h
            rw [q] at he
            have ec : (climbN d g.i.toNat g.path (i + 1)).1 = nodeB D b := by
              simp only [climbN]; rw [← hD, ← hk, ← hb, if_pos (by omega)]
            refine ⟨bys D, ⟨tda lnD, lnD⟩, ?_⟩
            refine ⟨bys b, ⟨tda lnb, lnb⟩, ?_⟩
            refine And.intro (plainA_bys _).nn (And.intro (plainA_bys _).nn ?_)
            refine ⟨⟨D, b⟩, rfl, ⟨lD, lb⟩, ?_⟩
            have lx : (bys (nodeB D b)).length = 32 := by rw [bys_length, nodeB_len]
            refine And.intro ⟨lx, bys_all (nodeB D b)⟩ ?_
            refine And.intro (by rw [lnD]; exact Nat.le_refl 32) ?_
            refine ⟨_, lay_all (vs := bys (nodeB D b)) (by rw [lx, lnD]), ?_⟩
            refine ⟨(), trivial, ?_⟩
            rw [ec]
            refine sub_ren [0, 1] rfl (by decide) ⟨⟨_, rfl, ⟨0, rfl, rfl⟩⟩, ⟨_, rfl, ⟨1, rfl, rfl⟩⟩, ⟨_, rfl, rfl⟩, ⟨_, rfl, rfl⟩, ⟨_, rfl, rfl⟩, ⟨_, rfl, rfl⟩, trivial⟩ ⟨⟨0, _, rfl, rfl, ⟨_, rfl, eB rfl⟩⟩, ⟨1, _, rfl, rfl, ⟨_, rfl, eB rfl⟩⟩, trivial⟩
          · have he : ¬ Int.tmod (k : Int) 2 = 0 := of_decide_eq_false h
            rw [q] at he
            have ec : (climbN d g.i.toNat g.path (i + 1)).1 = nodeB b D := by
              simp only [climbN]; rw [← hD, ← hk, ← hb, if_neg (by omega)]
            refine ⟨bys b, ⟨tda lnb, lnb⟩, ?_⟩
            refine ⟨bys D, ⟨tda lnD, lnD⟩, ?_⟩
            refine And.intro (plainA_bys _).nn (And.intro (plainA_bys _).nn ?_)
            refine ⟨⟨b, D⟩, rfl, ⟨lb, lD⟩, ?_⟩
            have lx : (bys (nodeB b D)).length = 32 := by rw [bys_length, nodeB_len]
            refine And.intro ⟨lx, bys_all (nodeB b D)⟩ ?_
            refine And.intro (by rw [lnD]; exact Nat.le_refl 32) ?_
            refine ⟨_, lay_all (vs := bys (nodeB b D)) (by rw [lx, lnD]), ?_⟩
            refine ⟨(), trivial, ?_⟩
            rw [ec]
            refine sub_ren [0, 1] rfl (by decide) ⟨⟨_, rfl, ⟨0, rfl, rfl⟩⟩, ⟨_, rfl, ⟨1, rfl, rfl⟩⟩, ⟨_, rfl, rfl⟩, ⟨_, rfl, rfl⟩, ⟨_, rfl, rfl⟩, ⟨_, rfl, rfl⟩, trivial⟩ ⟨⟨0, _, rfl, rfl, ⟨_, rfl, eB rfl⟩⟩, ⟨1, _, rfl, rfl, ⟨_, rfl, eB rfl⟩⟩, trivial⟩
        · intro _ _
          have q2 : Int.tdiv (k : Int) 2 = ((k / 2 : Nat) : Int) := tdivN k 2
          refine And.intro (by decide) ?_
          refine And.intro (by rw [q2]; omega) ?_
          refine And.intro (by omega) ?_
          refine ⟨i + 1, by omega, by omega, ?_⟩
          refine sub_ren [0, 1] rfl (by decide) ⟨⟨_, rfl, ⟨0, rfl, rfl⟩⟩, ⟨_, rfl, ⟨1, rfl, rfl⟩⟩, ⟨_, rfl, eI ?_⟩, ⟨_, rfl, rfl⟩, ⟨_, rfl, rfl⟩, ⟨_, rfl, eI (by omega)⟩, trivial⟩ ⟨⟨0, _, rfl, rfl, ⟨_, rfl, eB rfl⟩⟩, ⟨1, _, rfl, rfl, ⟨_, rfl, eB rfl⟩⟩, trivial⟩
          show Int.tdiv (k : Int) 2 = (((climbN d g.i.toNat g.path i).2 / 2 : Nat) : Int)
          rw [q2, hk]
      · have hF : ¬ (i : Int) < 2 := of_decide_eq_false h
        have : i = 2 := by omega
        subst this
        refine ⟨bys D, ⟨tda lnD, lnD⟩, ?_⟩
        refine ⟨bys root, ⟨tda lr, lr⟩, ?_⟩
        refine ⟨_, eq_bys lD hr, ?_⟩
        refine ⟨_, (by first | exact SubSt.refl _ | exact SubTop.refl _), ?_⟩
        refine res ?_
        unfold verB top
        rw [decide_eq_true hz, ← climbN_eq g3, ← hd, ← hD]
        rfl

end Qk

/-
  The strings that are hashed to verify; verifying: the reference.
-/
namespace Qk
open Go Go.RowKit
attribute [local irreducible] sha hmac

theorem strs_len (l : List (List UInt8)) : (strs l).length = l.length := by simp [strs]
theorem strs_app (l m : List (List UInt8)) : strs (l ++ m) = strs l ++ strs m := by simp [strs]
theorem plain_strs (l : List (List UInt8)) : ∀ c ∈ strs l, PlainV c := by
  intro c hc
  obtain ⟨x, _, rfl⟩ := List.mem_map.1 hc
  exact plain_str _
theorem nnl_strs (l : List (List UInt8)) : NNL (strs l) := nnl_plain (plain_strs l)
theorem one_str (s : List UInt8) : AllOne [AV.str s] := by intro c hc; simp at hc; subst hc; rfl
theorem take_succ {ds : List (List UInt8)} {p : Nat} (h : p < ds.length) : ds.take (p + 1) = ds.take p ++ [ds.getD p []] := by
  rw [List.take_add_one, List.getD, List.getElem?_eq_getElem h]
  rfl

set_option maxRecDepth 4000 in
theorem d_ref_Strings : DoesF ir_quiltref53_Strings F_quiltref53_Strings := by
  rintro ⟨tg, g⟩ ⟨ht, hg, hz⟩
  dsimp only at ht hg hz
  obtain ⟨hi, g1, g2, g3⟩ := chk_zero hz
  have hi0 := hi.1
  have hi4 := hi.2
  obtain ⟨b, hb⟩ : ∃ b, b = bitB tg := ⟨_, rfl⟩
  have cl := catC_len (b := b) hg g2
  obtain ⟨S, hS⟩ : ∃ S : List UInt8, S = 0 :: catF (claimAt b g) 256 := ⟨_, rfl⟩
  have lS : S.length = 8193 := by rw [hS, List.length_cons, cl 256 (by omega)]
  refine ⟨Nat, fun p => p ≤ 128, fun p => mks [(0, .str tg), (3, .ref 0 0), (5, .sl 1 0 p), (6, .sl 2 0 (1 + 32 * (2 * p))), (7, .int .i64 p)]
    [(0, .cells (sgL g)), (1, .lst 1 (strs (g.rev.take p))), (2, .lst 1 (bys (0 :: catF (claimAt b g) (2 * p))))] 3, fun p => 128 - p, 0, by omega, ?_, ?_⟩
  · refine sub_ren [0, 1, 2] rfl (by decide) ⟨⟨_, rfl, rfl⟩, ⟨_, rfl, ⟨0, rfl, rfl⟩⟩, ⟨_, rfl, ⟨1, rfl, eSl ?_⟩⟩, ⟨_, rfl, ⟨2, rfl, eSl ?_⟩⟩, ⟨_, rfl, rfl⟩, trivial⟩ ⟨⟨0, _, rfl, rfl, ?_⟩, ⟨1, _, rfl, rfl, ?_⟩, ⟨2, _, rfl, rfl, ⟨_, rfl, eB rfl⟩⟩, trivial⟩
    · rfl
    · rfl
    · exact ⟨_, rfl, eN (nnl_sgL _) rfl⟩
    · exact ⟨_, rfl, eN (nnl_strs _) rfl⟩
  · intro p hp
    refine cond_split (fun h => ?_) (fun h => ?_)
    · have hT : (p : Int) < 128 := of_decide_eq_true h
      have hb2 : b p < 2 := by rw [hb]; exact bitB_le _ _
      have e0 : (p : Int).toNat * 32 = p * 32 := by omega
      obtain ⟨r, hr⟩ : ∃ r, r = g.rev.getD p [] := ⟨_, rfl⟩
      obtain ⟨A, hA⟩ : ∃ A, A = sha r := ⟨_, rfl⟩
      obtain ⟨B, hB⟩ : ∃ B, B = g.oth.getD p [] := ⟨_, rfl⟩
      have lr : r.length = 32 := by rw [hr]; exact getD_len hg.1 (by omega)
      have lA : A.length = 32 := by rw [hA, sha_len]
      have lB : B.length = 32 := by rw [hB]; exact getD_len hg.2.1 (by omega)
      have lA' : (bys A).length = 32 := by rw [bys_length, lA]
      have lB' : (bys B).length = 32 := by rw [bys_length, lB]
      refine ⟨_, rfl, ?_⟩
      refine And.intro ⟨rfl, by decide, by omega, by show (p : Int) < g.rev.length; omega⟩ ?_
      refine And.intro (nnl_bys _) ⟨bys r, ⟨by rw [e0, bys_flat hg.1 (by omega), hr], by rw [bys_length, lr]⟩, ?_⟩
      refine And.intro (plainA_bys _).nn ?_
      refine ⟨r, rfl, lr, ?_⟩
      refine And.intro ⟨(show (1 : Nat) ≠ 3 by decide), rfl, rfl, rfl, by rw [strs_len, List.length_take]; omega, (show (0 + 1) * 1 ≤ 1 by decide), one_str _, by omega⟩ ⟨_, rfl, ?_⟩
      refine jn_to ?_
      refine ⟨r, rfl, by show r.length ≤ _; omega, ?_⟩
      refine ⟨_, rfl, ?_⟩
      refine And.intro ⟨rfl, by decide, by omega, by show (p : Int) < g.oth.length; omega⟩ ?_
      refine And.intro (nnl_bys _) ⟨bys B, ⟨by rw [e0, bys_flat hg.2.1 (by omega), hB], lB'⟩, ?_⟩
      refine And.intro ⟨by rw [← hA]; exact lA', bys_all (sha r)⟩ ?_
      refine And.intro (Nat.le_refl 32) ?_
      refine ⟨_, lay_all (vs := bys (sha r)) (by rw [← hA, lA']; rfl), ?_⟩
      refine And.intro ⟨lB', bys_all B⟩ ?_
      refine And.intro (Nat.le_refl 32) ?_
      refine ⟨_, lay_all (vs := bys B) (by rw [lB']; rfl), ?_⟩
      refine And.intro rfl ?_
      refine ⟨mks [(0, .str tg), (3, .ref 0 0), (5, .sl 1 0 (p + 1)), (6, .sl 2 0 (1 + 32 * (2 * p))), (7, .int .i64 p), (9, .ref 3 0), (10, .ref 4 0)]
        [(0, .cells (sgL g)), (1, .lst 1 (strs (g.rev.take (p + 1)))), (2, .lst 1 (bys (0 :: catF (claimAt b g) (2 * p)))), (3, .cells (bys A)), (4, .cells (bys B))] 5, ?_, ?_⟩
      · refine sub_ren [0, 4, 2, 12, 13] rfl (by decide) ⟨⟨_, rfl, rfl⟩, ⟨_, rfl, ⟨0, rfl, rfl⟩⟩, ⟨_, rfl, ⟨4, rfl, eSl ?_⟩⟩, ⟨_, rfl, ⟨2, rfl, eSl ?_⟩⟩, ⟨_, rfl, rfl⟩, ⟨_, rfl, ⟨12, rfl, rfl⟩⟩, ⟨_, rfl, ⟨13, rfl, rfl⟩⟩, trivial⟩ ⟨⟨0, _, rfl, rfl, ?_⟩, ⟨4, _, rfl, rfl, ?_⟩, ⟨2, _, rfl, rfl, ⟨_, rfl, eB rfl⟩⟩, ⟨12, _, rfl, rfl, ⟨_, rfl, eB ?_⟩⟩, ⟨13, _, rfl, rfl, ⟨_, rfl, eB rfl⟩⟩, trivial⟩
        · rfl
        · rfl
        · exact ⟨_, rfl, eN (nnl_sgL _) rfl⟩
        · refine ⟨_, rfl, eN (nnl_strs _) ?_⟩
          rw [take_succ (by omega), strs_app, ← hr]
          rfl
        · rw [hA]
      refine ⟨⟨tg, p⟩, rfl, ⟨by dsimp only; omega, ht⟩, ?_⟩
      obtain ⟨c0, hc0⟩ : ∃ c, c = claimAt b g (2 * p) := ⟨_, rfl⟩
      obtain ⟨c1, hc1⟩ : ∃ c, c = claimAt b g (2 * p + 1) := ⟨_, rfl⟩
      have q0 : c0 = if b p = 0 then A else B := by
        rw [hc0, hA, hB, hr]
        unfold claimAt
        have a1 : 2 * p / 2 = p := by omega
        have a2 : 2 * p % 2 = 0 := by omega
        rw [a1, a2]
      have q1 : c1 = if b p = 0 then B else A := by
        rw [hc1, hA, hB, hr]
        unfold claimAt
        have a1 : (2 * p + 1) / 2 = p := by omega
        have a2 : (2 * p + 1) % 2 = 1 := by omega
        rw [a1, a2]
        have : b p = 0 ∨ b p = 1 := by omega
        rcases this with h0 | h0 <;> rw [h0] <;> rfl
      have l0 : c0.length = 32 := by rw [hc0]; exact claimAt_len hg g2 (by omega)
      have l1 : c1.length = 32 := by rw [hc1]; exact claimAt_len hg g2 (by omega)
      refine jn_at (fun _ : Unit => mks [(0, .str tg), (3, .ref 0 0), (5, .sl 1 0 (p + 1)), (6, .sl 2 0 (1 + 32 * (2 * p))), (7, .int .i64 p), (9, .ref 3 0), (10, .ref 4 0)]
        [(0, .cells (sgL g)), (1, .lst 1 (strs (g.rev.take (p + 1)))), (2, .lst 1 (bys (0 :: catF (claimAt b g) (2 * p)))), (3, .cells (bys c0)), (4, .cells (bys c1))] 5) (fun _ => True) ?_ ?_
      · refine cond_split (fun h => ?_) (fun h => ?_)
        · have hbp : b p = 1 := by
            rw [hb]
            have : ((bitB tg p : Nat) : Int) = 1 := of_decide_eq_true h
            omega
          refine ⟨bys B, ⟨tda lB', lB'⟩, ?_⟩
          refine ⟨bys A, ⟨tda lA', lA'⟩, ?_⟩
          refine And.intro ⟨lB', bys_all B⟩ ?_
          refine And.intro (by rw [lA']; exact Nat.le_refl 32) ?_
          refine ⟨_, lay_all (vs := bys B) (by rw [lA', lB']), ?_⟩
          refine And.intro ⟨lA', bys_all A⟩ ?_
          refine And.intro (by rw [lB']; exact Nat.le_refl 32) ?_
          refine ⟨_, lay_all (vs := bys A) (by rw [lA', lB']), ?_⟩
          refine ⟨(), trivial, ?_⟩
          have r0 : c0 = B := by rw [q0, if_neg (by omega)]
          have r1 : c1 = A := by rw [q1, if_neg (by omega)]
          rw [r0, r1]
          refine sub_ren [0, 1, 2, 3, 4] rfl (by decide) ⟨⟨_, rfl, rfl⟩, ⟨_, rfl, ⟨0, rfl, rfl⟩⟩, ⟨_, rfl, ⟨1, rfl, eSl ?_⟩⟩, ⟨_, rfl, ⟨2, rfl, eSl ?_⟩⟩, ⟨_, rfl, rfl⟩, ⟨_, rfl, ⟨3, rfl, rfl⟩⟩, ⟨_, rfl, ⟨4, rfl, rfl⟩⟩, trivial⟩ ⟨⟨0, _, rfl, rfl, ?_⟩, ⟨1, _, rfl, rfl, ?_⟩, ⟨2, _, rfl, rfl, ⟨_, rfl, eB rfl⟩⟩, ⟨3, _, rfl, rfl, ⟨_, rfl, eB rfl⟩⟩, ⟨4, _, rfl, rfl, ⟨_, rfl, eB rfl⟩⟩, trivial⟩
          · rfl
          · rfl
          · exact ⟨_, rfl, eN (nnl_sgL _) rfl⟩
          · exact ⟨_, rfl, eN (nnl_strs _) rfl⟩
        · have hbp : b p = 0 := by
            have h' : ¬ ((bitB tg p : Nat) : Int) = 1 := of_decide_eq_false h
            rw [← hb] at h'
            omega
          refine ⟨(), trivial, ?_⟩
          have r0 : c0 = A := by rw [q0, if_pos hbp]
          have r1 : c1 = B := by rw [q1, if_pos hbp]
          rw [r0, r1]
          refine sub_ren [0, 1, 2, 3, 4] rfl (by decide) ⟨⟨_, rfl, rfl⟩, ⟨_, rfl, ⟨0, rfl, rfl⟩⟩, ⟨_, rfl, ⟨1, rfl, eSl ?_⟩⟩, ⟨_, rfl, ⟨2, rfl, eSl ?_⟩⟩, ⟨_, rfl, rfl⟩, ⟨_, rfl, ⟨3, rfl, rfl⟩⟩, ⟨_, rfl, ⟨4, rfl, rfl⟩⟩, trivial⟩ ⟨⟨0, _, rfl, rfl, ?_⟩, ⟨1, _, rfl, rfl, ?_⟩, ⟨2, _, rfl, rfl, ⟨_, rfl, eB rfl⟩⟩, ⟨3, _, rfl, rfl, ⟨_, rfl, eB rfl⟩⟩, ⟨4, _, rfl, rfl, ⟨_, rfl, eB rfl⟩⟩, trivial⟩
          · rfl
          · rfl
          · exact ⟨_, rfl, eN (nnl_sgL _) rfl⟩
          · exact ⟨_, rfl, eN (nnl_strs _) rfl⟩
      · intro _ _
        have lc0 : (bys c0).length = 32 := by rw [bys_length, l0]
        have lc1 : (bys c1).length = 32 := by rw [bys_length, l1]
        have lc := cl (2 * p) (by omega)
        refine ⟨bys c0, ⟨tda lc0, lc0⟩, ?_⟩
        refine And.intro (plainA_bys _).nn ?_
        refine ⟨c0, rfl, l0, ?_⟩
        refine And.intro ⟨rfl, rfl, rfl, by rw [bys_length, List.length_cons, lc]; omega, by omega⟩ ⟨_, rfl, ?_⟩
        refine ⟨bys c1, ⟨tda lc1, lc1⟩, ?_⟩
        refine And.intro (plainA_bys _).nn ?_
        refine ⟨c1, rfl, l1, ?_⟩
        refine And.intro ⟨rfl, rfl, rfl, by rw [List.length_append, List.length_map, bys_length, List.length_cons, lc, l0]; omega, by omega⟩ ⟨_, rfl, ?_⟩
        refine And.intro (by omega) ?_
        refine ⟨p + 1, by omega, by dsimp only; omega, ?_⟩
        refine sub_ren [0, 1, 6] rfl (by decide) ⟨⟨_, rfl, rfl⟩, ⟨_, rfl, ⟨0, rfl, rfl⟩⟩, ⟨_, rfl, ⟨1, rfl, eSl ?_⟩⟩, ⟨_, rfl, ⟨6, rfl, eSl ?_⟩⟩, ⟨_, rfl, eI (by omega)⟩, trivial⟩ ⟨⟨0, _, rfl, rfl, ?_⟩, ⟨1, _, rfl, rfl, ?_⟩, ⟨6, _, rfl, rfl, ⟨_, rfl, eB ?_⟩⟩, trivial⟩
        · rfl
        · rw [l0, l1]; omega
        · exact ⟨_, rfl, eN (nnl_sgL _) rfl⟩
        · exact ⟨_, rfl, eN (nnl_strs _) rfl⟩
        · show bys (0 :: catF (claimAt b g) (2 * p)) ++ bys c0 ++ bys c1 = bys (0 :: ((catF (claimAt b g) (2 * p) ++ claimAt b g (2 * p)) ++ claimAt b g (2 * p + 1)))
          rw [← hc0, ← hc1, ← bys_app, ← bys_app]
          rfl
    · have hF : ¬ ((p : Int) < 128) := of_decide_eq_false h
      have : p = 128 := by omega
      subst this
      have et : g.rev.take 128 = g.rev := List.take_of_length_le (by omega)
      have bS : ((bys (0 :: catF (claimAt b g) (2 * 128))).drop 0).take (1 + 32 * (2 * 128)) = bys S := by
        rw [hS]
        exact (tda (by rw [bys_length, ← hS, lS])).symm
      obtain ⟨p0, hp0⟩ : ∃ x, x = g.path.getD 0 [] := ⟨_, rfl⟩
      obtain ⟨p1, hp1⟩ : ∃ x, x = g.path.getD 1 [] := ⟨_, rfl⟩
      have lp0 : p0.length = 32 := by rw [hp0]; exact getD_len hg.2.2 (by omega)
      have lp1 : p1.length = 32 := by rw [hp1]; exact getD_len hg.2.2 (by omega)
      have gp0 : ((bys g.path.flatten).drop (0 * 32)).take 32 = bys p0 := by rw [bys_flat hg.2.2 (by omega), hp0]
      have gp1 : ((bys g.path.flatten).drop (1 * 32)).take 32 = bys p1 := by rw [bys_flat hg.2.2 (by omega), hp1]
      have lp0' : (bys p0).length = 32 := by rw [bys_length, lp0]
      have lp1' : (bys p1).length = 32 := by rw [bys_length, lp1]
      have ls : (bys (sha S)).length = 32 := by rw [bys_length, sha_len]
      have nlen : (0 : Int) ≤ 0 ∧ (0 : Int) < g.path.length := by omega
      have nlen1 : (0 : Int) ≤ 1 ∧ (1 : Int) < g.path.length := by omega
      obtain ⟨N1, hN1⟩ : ∃ x, x = above1 b g := ⟨_, rfl⟩
      obtain ⟨N2, hN2⟩ : ∃ x, x = above2 b g := ⟨_, rfl⟩
      have v1 : N1 = if g.i.toNat % 2 = 0 then 1 :: (sha S ++ p0) else 1 :: (p0 ++ sha S) := by rw [hN1, hS, hp0]; rfl
      have v2 : N2 = if g.i.toNat / 2 % 2 = 0 then 1 :: (sha N1 ++ p1) else 1 :: (p1 ++ sha N1) := by rw [hN2, hN1, hp1]; rfl
      have ln1 : N1.length = 65 := by rw [v1]; split <;> simp [sha_len, lp0]
      refine And.intro rfl ⟨S, ⟨bS, by rw [lS]⟩, ?_⟩
      refine And.intro ⟨(show (1 : Nat) ≠ 3 by decide), rfl, rfl, rfl, by rw [strs_len, et, g1], (show (0 + 1) * 1 ≤ 1 by decide), one_str _, by decide⟩ ⟨_, rfl, ?_⟩
      refine And.intro rfl ⟨S, ⟨bS, by rw [lS]⟩, ?_⟩
      refine ⟨S, rfl, by show S.length ≤ _; omega, ?_⟩
      refine And.intro ⟨ls, bys_all (sha S)⟩ ?_
      refine And.intro (Nat.le_refl 32) ?_
      refine ⟨_, lay_all (vs := bys (sha S)) (by rw [ls]; rfl), ?_⟩
      refine ⟨bys (sha S), ⟨tda ls, ls⟩, ?_⟩
      refine ⟨_, rfl, ?_⟩
      refine And.intro ⟨rfl, by decide, nlen.1, nlen.2⟩ ?_
      refine And.intro (nnl_bys _) ⟨bys p0, ⟨gp0.symm, lp0'⟩, ?_⟩
      refine And.intro (plainA_bys _).nn (And.intro (plainA_bys _).nn ?_)
      refine ⟨⟨sha S, p0⟩, rfl, ⟨sha_len _, lp0⟩, ?_⟩
      refine ⟨_, rfl, ?_⟩
      refine And.intro (by decide) ?_
      have hmod : Int.tmod g.i 2 = ((g.i.toNat % 2 : Nat) : Int) := by
        rw [Int.tmod_eq_emod_of_nonneg hi0]
        omega
      refine jn_at (fun _ : Unit => mks [(3, .ref 0 0), (5, .sl 1 0 129), (11, .ref 2 0), (12, .str N1)]
        [(0, .cells (sgL g)), (1, .lst 1 (strs (g.rev ++ [S]))), (2, .cells (bys (sha S)))] 3) (fun _ => True) ?_ ?_
      · have fin : ∀ (st : St), st.env 3 = some (.ref 0 0) → st.env 5 = some (.sl 4 0 129) → st.env 11 = some (.ref 5 0) → st.env 12 = some (.str N1) → st.heap 0 = some (.cells (sgL g)) → st.heap 4 = some (.lst 1 (strs (g.rev.take 128) ++ [.str S])) →
            st.heap 5 = some (.cells (bys (sha S))) → SubSt 0 st (mks [(3, .ref 0 0), (5, .sl 1 0 129), (11, .ref 2 0), (12, .str N1)] [(0, .cells (sgL g)), (1, .lst 1 (strs (g.rev ++ [S]))), (2, .cells (bys (sha S)))] 3) := by
          intro st a1 a2 a3 a4 a5 a6 a7
          refine sub_ren [0, 4, 5] rfl (by decide) ⟨⟨_, a1, ⟨0, rfl, rfl⟩⟩, ⟨_, a2, ⟨4, rfl, rfl⟩⟩, ⟨_, a3, ⟨5, rfl, rfl⟩⟩, ⟨_, a4, rfl⟩, trivial⟩
            ⟨⟨0, _, rfl, a5, ⟨_, rfl, eN (nnl_sgL _) rfl⟩⟩, ⟨4, _, rfl, a6, ⟨_, rfl, eN (nnl_strs _) ?_⟩⟩, ⟨5, _, rfl, a7, ⟨_, rfl, eB rfl⟩⟩, trivial⟩
          rw [et, strs_app]
          rfl
        refine cond_split (fun h => ?_) (fun h => ?_)
        · have h1 : Int.tmod g.i 2 = 1 := of_decide_eq_true h
          rw [hmod] at h1
          refine ⟨_, rfl, ?_⟩
          refine And.intro ⟨rfl, by decide, nlen.1, nlen.2⟩ ?_
          refine And.intro (nnl_bys _) ⟨bys p0, ⟨gp0.symm, lp0'⟩, ?_⟩
          refine ⟨bys (sha S), ⟨tda ls, ls⟩, ?_⟩
          refine And.intro (plainA_bys _).nn (And.intro (plainA_bys _).nn ?_)
          refine ⟨⟨p0, sha S⟩, rfl, ⟨lp0, sha_len _⟩, ?_⟩
          refine ⟨(), trivial, ?_⟩
          have : N1 = 1 :: (p0 ++ sha S) := by rw [v1, if_neg (by omega)]
          exact fin _ rfl rfl rfl (by rw [this]; rfl) rfl rfl rfl
        · have h1 : ¬ Int.tmod g.i 2 = 1 := of_decide_eq_false h
          rw [hmod] at h1
          refine ⟨(), trivial, ?_⟩
          have : N1 = 1 :: (sha S ++ p0) := by rw [v1, if_pos (by omega)]
          exact fin _ rfl rfl rfl (by rw [this]; rfl) rfl rfl rfl
      · intro _ _
        have ls1 : (bys (sha N1)).length = 32 := by rw [bys_length, sha_len]
        refine And.intro ⟨(show (1 : Nat) ≠ 3 by decide), rfl, rfl, rfl, by rw [strs_len, List.length_append, g1]; rfl, (show (0 + 1) * 1 ≤ 1 by decide), one_str _, by decide⟩ ⟨_, rfl, ?_⟩
        refine ⟨N1, rfl, by show N1.length ≤ _; omega, ?_⟩
        refine And.intro ⟨ls1, bys_all (sha N1)⟩ ?_
        refine And.intro (by rw [ls]; exact Nat.le_refl 32) ?_
        refine ⟨_, lay_all (vs := bys (sha N1)) (by rw [ls, ls1]), ?_⟩
        refine ⟨bys (sha N1), ⟨tda ls1, ls1⟩, ?_⟩
        refine ⟨_, rfl, ?_⟩
        refine And.intro ⟨rfl, by decide, nlen1.1, nlen1.2⟩ ?_
        refine And.intro (nnl_bys _) ⟨bys p1, ⟨gp1.symm, lp1'⟩, ?_⟩
        refine And.intro (plainA_bys _).nn (And.intro (plainA_bys _).nn ?_)
        refine ⟨⟨sha N1, p1⟩, rfl, ⟨sha_len _, lp1⟩, ?_⟩
        refine ⟨_, rfl, ?_⟩
        refine jn_at (fun _ : Unit => mks [(5, .sl 0 0 130), (12, .str N2)] [(0, .lst 1 (strs (g.rev ++ [S, N1])))] 1) (fun _ => True) ?_ ?_
        · have fin : ∀ (st : St), st.env 5 = some (.sl 4 0 130) → st.env 12 = some (.str N2) → st.heap 4 = some (.lst 1 (strs (g.rev ++ [S]) ++ [.str N1])) →
              SubSt 0 st (mks [(5, .sl 0 0 130), (12, .str N2)] [(0, .lst 1 (strs (g.rev ++ [S, N1])))] 1) := by
            intro st a2 a4 a6
            refine sub_ren [4] rfl (by decide) ⟨⟨_, a2, ⟨4, rfl, rfl⟩⟩, ⟨_, a4, rfl⟩, trivial⟩ ⟨⟨4, _, rfl, a6, ⟨_, rfl, eN (nnl_strs _) ?_⟩⟩, trivial⟩
            rw [show g.rev ++ [S, N1] = (g.rev ++ [S]) ++ [N1] by simp, strs_app (g.rev ++ [S])]
            rfl
          refine cond_split (fun h => ?_) (fun h => ?_)
          · have h1 : (1 : Int) < g.i := of_decide_eq_true h
            refine ⟨_, rfl, ?_⟩
            refine And.intro ⟨rfl, by decide, nlen1.1, nlen1.2⟩ ?_
            refine And.intro (nnl_bys _) ⟨bys p1, ⟨gp1.symm, lp1'⟩, ?_⟩
            refine ⟨bys (sha N1), ⟨tda ls1, ls1⟩, ?_⟩
            refine And.intro (plainA_bys _).nn (And.intro (plainA_bys _).nn ?_)
            refine ⟨⟨p1, sha N1⟩, rfl, ⟨lp1, sha_len _⟩, ?_⟩
            refine ⟨(), trivial, ?_⟩
            have : N2 = 1 :: (p1 ++ sha N1) := by rw [v2, if_neg (by omega)]
            exact fin _ rfl (by rw [this]; rfl) rfl
          · have h1 : ¬ (1 : Int) < g.i := of_decide_eq_false h
            refine ⟨(), trivial, ?_⟩
            have : N2 = 1 :: (sha N1 ++ p1) := by rw [v2, if_pos (by omega)]
            exact fin _ rfl (by rw [this]; rfl) rfl
        · intro _ _
          refine And.intro ⟨(show (0 : Nat) ≠ 1 by decide), rfl, rfl, rfl, by rw [strs_len, List.length_append, g1]; rfl, (show (0 + 1) * 1 ≤ 1 by decide), one_str _, by decide⟩ ⟨_, rfl, ?_⟩
          refine ⟨_, (by first | exact SubSt.refl _ | exact SubTop.refl _), ?_⟩
          refine ⟨2, false, rfl, ?_, plain_strs _⟩
          have e9 : strs (g.rev ++ [S, N1]) ++ [AV.str N2] = strs (strsG (bitB tg) g) := by
            unfold strsG
            rw [← hb, ← hS, ← hN1, ← hN2, show g.rev ++ [S, N1, N2] = (g.rev ++ [S, N1]) ++ [N2] by simp, strs_app (g.rev ++ [S, N1])]
            rfl
          exact congrArg (fun l => some (AO.ls false 1 l)) e9

end Qk

/-
  Verifying: the reference.
-/
namespace Qk
open Go Go.RowKit
attribute [local irreducible] sha hmac

theorem bit_take (d : List UInt8) {p : Nat} (hp : p < 128) : bitB (d.take 16) p = bitB d p := by
  unfold bitB
  have : (d.take 16).getD (p / 8) 0 = d.getD (p / 8) 0 := by
    simp only [List.getD]
    rw [List.getElem?_take_of_lt (by omega)]
  rw [this]

theorem claim_take (d : List UInt8) (g : Sg) : catF (claimAt (bitB (d.take 16)) g) 256 = catF (claimAt (bitB d) g) 256 := by
  refine catF_congr fun n hn => ?_
  unfold claimAt
  rw [bit_take d (show n / 2 < 128 by omega)]

/-- The last string that is hashed gives the root. -/
theorem above_top {m : List UInt8} {g : Sg} (h : g.path.length = 2) : sha (above2 (bitB ((sha m).take 16)) g) = top m g := by
  obtain ⟨i, rev, oth, path⟩ := g
  match path, h with
  | [a, b], _ =>
    unfold above2 above1 top claimS
    rw [claim_take]
    show sha (if i.toNat / 2 % 2 = 0 then _ else _) = (if i.toNat / 2 % 2 = 0 then nodeB (if i.toNat % 2 = 0 then _ else _) b else nodeB b (if i.toNat % 2 = 0 then _ else _))
    by_cases h1 : i.toNat % 2 = 0 <;> by_cases h2 : i.toNat / 2 % 2 = 0
    · simp only [h1, h2, if_true]; rfl
    · simp only [h1, h2, if_true, if_false]; rfl
    · simp only [h1, h2, if_true, if_false]; rfl
    · simp only [h1, h2, if_false]; rfl

theorem d_ref_Verify : Does ir_quiltref53_Verify C_quiltref53_Verify := by
  rintro ⟨root, m, g⟩ ⟨hr, hm, hg⟩
  dsimp only at hr hm hg
  have res : ∀ {r : Bool}, verB root m g = r → AV.bool r = PC.res C_quiltref53_Verify (root, m, g) := by
    intro r h
    show AV.bool r = AV.bool (verB root m g)
    rw [h]
  have lr : (bys root).length = 32 := by rw [bys_length, hr]
  refine ⟨sgL g, ⟨rfl, rfl⟩, ?_⟩
  refine And.intro (nn_sgA g) ?_
  refine ⟨g, rfl, trivial, ?_⟩
  refine cond_split (fun h => ?_) (fun h => ?_)
  · have hn : ¬ chk g = 0 := by simpa using h
    refine ⟨_, (by first | exact SubSt.refl _ | exact SubTop.refl _), ?_⟩
    refine res ?_
    unfold verB
    rw [decide_eq_false hn]
    rfl
  · have hz : chk g = 0 := by simpa using h
    obtain ⟨hi, g1, g2, g3⟩ := chk_zero hz
    refine ⟨m, rfl, hm, ?_⟩
    refine ⟨sgL g, ⟨rfl, rfl⟩, ?_⟩
    refine And.intro (nn_sgA g) ?_
    have lt : ((sha m).take 16).length = 16 := by rw [List.length_take, sha_len]; rfl
    refine ⟨⟨(sha m).take 16, g⟩, rfl, ⟨lt, hg, hz⟩, ?_⟩
    refine And.intro (by show (-9223372036854775808 : Int) ≤ 131 - 1 ∧ (131 : Int) - 1 ≤ 9223372036854775807; decide) ?_
    refine And.intro ⟨rfl, (show (0 : Int) ≤ 131 - 1 by decide), (show (131 : Int) - 1 < 131 by decide)⟩ ?_
    obtain ⟨N2, hN2⟩ : ∃ x, x = above2 (bitB ((sha m).take 16)) g := ⟨_, rfl⟩
    have gt : (strs (strsG (bitB ((sha m).take 16)) g))[130]? = some (.str N2) := by
      have l1 : (strsG (bitB ((sha m).take 16)) g).length = 131 := by simp [strsG, g1]
      rw [strs_get (by omega)]
      have : (strsG (bitB ((sha m).take 16)) g).getD 130 [] = N2 := by
        unfold strsG
        rw [← hN2]
        simp only [List.getD]
        rw [List.getElem?_append_right (by omega), g1]
        rfl
      rw [this]
    refine ⟨_, gt, ?_⟩
    have ln : N2.length ≤ 1000 := by
      rw [hN2]
      unfold above2
      have : (g.path.getD 1 []).length = 32 := getD_len hg.2.2 (by omega)
      split <;> rw [List.length_cons, List.length_append, sha_len, this] <;> decide
    refine ⟨N2, rfl, by show N2.length ≤ _; omega, ?_⟩
    refine ⟨bys root, ⟨tda lr, lr⟩, ?_⟩
    refine ⟨_, eq_bys (sha_len _) hr, ?_⟩
    refine ⟨_, (by first | exact SubSt.refl _ | exact SubTop.refl _), ?_⟩
    refine res ?_
    unfold verB
    rw [decide_eq_true hz, ← above_top g3, ← hN2]
    rfl

end Qk
