/-
  Chapter 32: the reference: the fixed beginning.
-/
import Derived.Test.YtgioceapingblaaDoorPh
import Derived.Test.YtgioceapingblaaDoorPg
import Derived.Test.YtgioceapingblaaDoorPf

/-
  Chapter 32: the reference's Fixed in the executor's form.
-/
namespace Qk
open Go Go.RowKit

/-- quilt/quiltref32.Fixed -/
def irq_Fixed : IF := ⟨(.seq (.ops [⟨(some 2), none, .mov (.const (.string ⟨#[]⟩))⟩])
  (.seq (.ops [⟨(some 10), none, .mov (t 0)⟩,
    ⟨(some 11), none, .pcall C_quiltref32_glob [(t 10)]⟩,
    ⟨(some 9), none, .mov (t 11)⟩,
    ⟨(some 12), none, .extr (t 9) 0⟩,
    ⟨(some 13), none, .extr (t 9) 1⟩,
    ⟨(some 3), none, .mov (t 12)⟩,
    ⟨(some 4), none, .mov (t 13)⟩])
  (.seq (.seq (.ops [⟨(some 14), none, .mov (t 4)⟩,
    ⟨(some 15), none, .not (t 14)⟩])
  (.cond (t 15) (.seq (.ops [⟨(some 2), none, .mov (.const (.string ⟨#[]⟩))⟩])
  .ret)
  .skip))
  (.seq (.ops [⟨(some 5), none, .mov (.const (.string ⟨#[]⟩))⟩])
  (.seq (.seq (.ops [⟨(some 6), none, .mov (ci 0)⟩])
  (.block 0 (.loop (.seq (.seq (.ops [⟨(some 16), none, .mov (t 6)⟩,
    ⟨(some 17), none, .mov (t 3)⟩,
    ⟨(some 18), none, .lenL (t 17)⟩,
    ⟨(some 19), none, .bin .lss (t 16) (t 18)⟩])
  (.cond (t 19) .skip
  (.exit 0)))
  (.seq (.block 1 (.seq (.seq (.ops [⟨(some 22), none, .mov (t 3)⟩,
    ⟨(some 23), none, .mov (t 6)⟩,
    ⟨(some 24), none, .idxL 2 (t 22) (t 23)⟩,
    ⟨(some 25), none, .fldA 0 (t 24)⟩,
    ⟨(some 26), none, .load1 (t 25)⟩])
  (.cond (t 26) (.seq (.seq (.ops [⟨(some 27), none, .mov (t 6)⟩,
    ⟨(some 7), none, .mov (t 27)⟩])
  (.block 2 (.loop (.seq (.seq (.ops [⟨(some 28), none, .mov (t 7)⟩,
    ⟨(some 29), none, .mov (t 3)⟩,
    ⟨(some 30), none, .lenL (t 29)⟩,
    ⟨(some 31), none, .bin .lss (t 28) (t 30)⟩])
  (.cond (t 31) .skip
  (.exit 2)))
  (.seq (.block 3 (.seq (.ops [⟨(some 34), none, .mov (t 3)⟩,
    ⟨(some 35), none, .mov (t 7)⟩,
    ⟨(some 36), none, .idxL 2 (t 34) (t 35)⟩,
    ⟨(some 37), none, .fldA 0 (t 36)⟩,
    ⟨(some 38), none, .load1 (t 37)⟩,
    ⟨(some 39), none, .not (t 38)⟩,
    ⟨(some 40), none, .mov (t 39)⟩,
    ⟨(some 41), (some (40, true)), .mov (t 6)⟩,
    ⟨(some 42), (some (40, true)), .bin .gtr (t 41) (ci 0)⟩,
    ⟨(some 43), none, .pick (t 40) (t 42) (.const (.bool false))⟩])
  (.cond (t 43) (.seq (.ops [⟨(some 44), none, .mov (t 5)⟩,
    ⟨(some 45), none, .bin .add (t 44) (.const (.string ⟨#[47]⟩))⟩,
    ⟨(some 2), none, .mov (t 45)⟩])
  .ret)
  .skip)))
  (.ops [⟨(some 32), none, .mov (t 7)⟩,
    ⟨(some 33), none, .bin .add (t 32) (ci 1)⟩,
    ⟨(some 7), none, .mov (t 33)⟩]))))))
  (.seq (.ops [⟨(some 46), none, .mov (t 5)⟩,
    ⟨(some 2), none, .mov (t 46)⟩])
  .ret))
  .skip))
  (.seq (.seq (.ops [⟨(some 47), none, .mov (t 6)⟩,
    ⟨(some 48), none, .bin .gtr (t 47) (ci 0)⟩])
  (.jn (.cond (t 48) (.ops [⟨(some 49), none, .mov (t 5)⟩,
    ⟨(some 50), none, .bin .add (t 49) (.const (.string ⟨#[47]⟩))⟩,
    ⟨(some 5), none, .mov (t 50)⟩])
  .skip)))
  (.seq (.ops [⟨(some 8), none, .mov (ci 0)⟩])
  (.block 4 (.loop (.seq (.seq (.ops [⟨(some 51), none, .mov (t 8)⟩,
    ⟨(some 52), none, .mov (t 3)⟩,
    ⟨(some 53), none, .mov (t 6)⟩,
    ⟨(some 54), none, .idxL 2 (t 52) (t 53)⟩,
    ⟨(some 55), none, .fldA 1 (t 54)⟩,
    ⟨(some 56), none, .load1 (t 55)⟩,
    ⟨(some 57), none, .lenL (t 56)⟩,
    ⟨(some 58), none, .bin .lss (t 51) (t 57)⟩])
  (.cond (t 58) .skip
  (.exit 4)))
  (.seq (.block 5 (.seq (.seq (.ops [⟨(some 61), none, .mov (t 3)⟩,
    ⟨(some 62), none, .mov (t 6)⟩,
    ⟨(some 63), none, .idxL 2 (t 61) (t 62)⟩,
    ⟨(some 64), none, .fldA 1 (t 63)⟩,
    ⟨(some 65), none, .load1 (t 64)⟩,
    ⟨(some 66), none, .mov (t 8)⟩,
    ⟨(some 67), none, .idxL 258 (t 65) (t 66)⟩,
    ⟨(some 68), none, .fldA 1 (t 67)⟩,
    ⟨(some 69), none, .load1 (t 68)⟩,
    ⟨(some 70), none, .not (t 69)⟩])
  (.cond (t 70) (.seq (.ops [⟨(some 71), none, .mov (t 5)⟩,
    ⟨(some 2), none, .mov (t 71)⟩])
  .ret)
  .skip))
  (.ops [⟨(some 72), none, .mov (t 5)⟩,
    ⟨(some 73), none, .mov (t 3)⟩,
    ⟨(some 74), none, .mov (t 6)⟩,
    ⟨(some 75), none, .idxL 2 (t 73) (t 74)⟩,
    ⟨(some 76), none, .fldA 1 (t 75)⟩,
    ⟨(some 77), none, .load1 (t 76)⟩,
    ⟨(some 78), none, .mov (t 8)⟩,
    ⟨(some 79), none, .idxL 258 (t 77) (t 78)⟩,
    ⟨(some 80), none, .loadN 258 (t 79)⟩,
    ⟨(some 81), none, .pcall C_quiltref32_certain [(t 80)]⟩,
    ⟨(some 82), none, .bin .add (t 72) (t 81)⟩,
    ⟨(some 5), none, .mov (t 82)⟩])))
  (.ops [⟨(some 59), none, .mov (t 8)⟩,
    ⟨(some 60), none, .bin .add (t 59) (ci 1)⟩,
    ⟨(some 8), none, .mov (t 60)⟩])))))))))
  (.ops [⟨(some 20), none, .mov (t 6)⟩,
    ⟨(some 21), none, .bin .add (t 20) (ci 1)⟩,
    ⟨(some 6), none, .mov (t 21)⟩]))))))
  (.seq (.ops [⟨(some 83), none, .mov (t 5)⟩,
    ⟨(some 2), none, .mov (t 83)⟩])
  .ret)))))), [.tmp 2]⟩

end Qk

/-
  Chapter 32: the reference: certain, Fixed.
-/
namespace Qk
open Go Go.RowKit

theorem litB_at {c : UInt8} {k : Nat} (h : k < 256) : (refA (.lit c))[0 + 2 + (k : Int).toNat * 1]? = some (.bool (decide (k = c.toNat))) := by
  have e1 : 0 + 2 + (k : Int).toNat * 1 = k + 1 + 1 := by omega
  rw [e1]
  show (boos (El.lit c).setB)[k]? = _
  have hl : k < (noTab.set c.toNat true).length := by unfold noTab; rw [List.length_set, List.length_replicate]; exact h
  rw [setB_lit, boos_get hl, show (noTab.set c.toNat true).getD k false = (noTab.set c.toNat true)[k]'hl from by simp only [List.getD, List.getElem?_eq_getElem hl, Option.getD_some], List.getElem_set]
  unfold noTab
  rw [List.getElem_replicate]
  by_cases h2 : c.toNat = k
  · rw [if_pos h2, decide_eq_true h2.symm]
  · rw [if_neg h2, decide_eq_false (fun e => h2 e.symm)]

set_option maxRecDepth 4000 in
theorem d_ref_certain : Does ir_quiltref32_certain C_quiltref32_certain := by
  intro (c : UInt8) _
  have hc := c.toNat_lt
  show awp _ _ _ (entry [.agg (refA (.lit c))])
  refine ⟨Nat, fun k => k ≤ c.toNat, fun k => mks [(1, .ref 0 0), (3, .int .i64 k)] [(0, .cl false (refA (.lit c)))] 1, fun k => 256 - k, 0, Nat.zero_le _, ?_, ?_⟩
  · refine sub_ren [0] rfl (by decide) ⟨⟨_, rfl, ⟨0, rfl, rfl⟩⟩, ⟨_, rfl, rfl⟩, trivial⟩ ⟨⟨0, _, rfl, rfl, ?_⟩, trivial⟩
    exact ⟨_, rfl, eN (nnl_refA _) rfl⟩
  · intro k hk
    show awp _ _ _ (mks [(1, .ref 0 0), (3, .int .i64 k)] [(0, .cl false (refA (.lit c)))] 1)
    refine cond_t (show decide ((k : Int) < 256) = true from decide_eq_true (by omega)) ?_
    refine And.intro ⟨by omega, by omega⟩ ?_
    refine ⟨_, litB_at (by omega), ?_⟩
    refine cond_split (fun h => ?_) (fun h => ?_)
    · have hk2 : k = c.toNat := of_decide_eq_true h
      refine And.intro (by omega) ?_
      refine ⟨[c], ⟨?_, rfl⟩, ?_⟩
      · show [AV.int .u8 ((k : Int) % 256)] = [AV.int .u8 (c.toNat : Int)]
        have : (k : Int) % 256 = c.toNat := by omega
        rw [this]
      refine ⟨_, (by first | exact SubSt.refl _ | exact SubTop.refl _), ?_⟩
      rfl
    · have hk2 : ¬ k = c.toNat := of_decide_eq_false h
      refine And.intro (by omega) ?_
      refine ⟨k + 1, by show k + 1 ≤ _; omega, by show 256 - (k + 1) < 256 - k; omega, ?_⟩
      refine sub_ren [0] rfl (by decide) ⟨⟨_, rfl, ⟨0, rfl, rfl⟩⟩, ⟨_, rfl, rfl⟩, trivial⟩ ⟨⟨0, _, rfl, rfl, ?_⟩, trivial⟩
      exact ⟨_, rfl, eN (nnl_refA _) rfl⟩

theorem flatR_lit {l : List El} {k : Nat} (h : k < l.length) : (flatR l)[(k : Int).toNat * 258 + 1]? = some (.bool ((l.getD k default).isLit)) := by
  have ek : (k : Int).toNat = k := by omega
  rw [ek, flatR, flat_cell (n := 258) refA_len l k 1 _ (List.getElem?_eq_getElem h) (by decide), getD_at h]
  rfl

def FX (l : List Comp) (out : List UInt8) (i : Nat) : St := mks [(3, rCpsA l), (5, .str out), (6, .int .i64 i)] [] 0
def FY (l : List Comp) (out : List UInt8) (i j : Nat) : St := mks [(3, rCpsA l), (5, .str out), (6, .int .i64 i), (7, .int .i64 j)] [] 0
def FZ (l : List Comp) (out : List UInt8) (i k : Nat) : St := mks [(3, rCpsA l), (5, .str out), (6, .int .i64 i), (8, .int .i64 k)] [] 0

set_option maxRecDepth 4000 in
set_option maxHeartbeats 4000000 in
theorem d_ref_Fixed : Does irq_Fixed C_quiltref32_Fixed := by
  intro (g : List UInt8) hg
  replace hg : g.length ≤ 1000000000 := hg
  refine ⟨g, rfl, hg, ?_⟩
  rcases globP_cases g with ⟨l, hgl, hpr⟩ | ⟨hgl, hpr⟩
  · have hres : C_quiltref32_glob.res g = .tup [rCpsA l, .bool true] := by show AV.tup [rCpsA (globP g).1, .bool (globP g).2] = _; rw [hpr]
    rw [hres]
    refine ⟨_, rfl, ?_⟩
    refine ⟨_, rfl, ?_⟩
    have hfx : fixG g = fixL true l := by unfold fixG; rw [hgl]
    have okS := glob_okS hgl
    have hl : l.length ≤ 201 := by
      have h1 : compsL (splitS g) = some l := by
        unfold globL at hgl
        split at hgl
        · cases hgl
        · exact hgl
      have := (splitS_le g).2
      have := (glob_good hgl).2.2
      rw [comps_len h1]; omega
    clear hpr hgl hres
    refine ⟨Nat × List UInt8, fun x => x.1 ≤ l.length ∧ fixG g = x.2 ++ fixL (decide (x.1 = 0)) (l.drop x.1) ∧ x.2.length ≤ x.1 * 1001,
      fun x => FX l x.2 x.1, fun x => l.length - x.1, (0, []), ⟨Nat.zero_le _, hfx, Nat.le_refl _⟩, ?_, ?_⟩
    · exact sub_to ⟨rfl, rfl, rfl, trivial⟩ rfl (Nat.le_refl 0)
    · rintro ⟨i, out⟩ ⟨hi, hf, hlen⟩
      dsimp only at hi hf hlen
      have hob : out.length ≤ 201 * 1001 := Nat.le_trans hlen (Nat.mul_le_mul_right _ (by omega))
      show awp _ _ _ (mks [(3, rCpsA l), (5, .str out), (6, .int .i64 i)] [] 0)
      refine cond_split (fun h => ?_) (fun h => ?_)
      · have hT : (i : Int) < l.length := of_decide_eq_true h
        have hlt : i < l.length := by omega
        obtain ⟨c, hc⟩ : ∃ c, c = l.getD i default := ⟨_, rfl⟩
        have hdr : l.drop i = c :: l.drop (i + 1) := by rw [List.drop_eq_getElem_cons hlt, hc, getD_at hlt]
        have hck := okS c (by rw [hc, getD_at hlt]; exact List.getElem_mem _)
        refine And.intro ⟨by omega, by omega⟩ ?_
        refine ⟨_, flatRC_any hlt, ?_⟩
        rw [← hc]
        refine cond_split (fun h => ?_) (fun h => ?_)
        · have ha : c.any = true := h
          have fx : fixL (decide (i = 0)) (l.drop i) = if !(decide (i = 0)) && (l.drop i).any (fun d => !d.any) then [47] else [] := by
            rw [hdr, fixL, if_pos ha, List.any_cons, ha]; rfl
          refine ⟨Nat, fun k => k ≤ (l.drop i).length ∧ (0 < i → ((l.drop i).take k).any (fun d => !d.any) = false), fun k => FY l out i (i + k), fun k => (l.drop i).length - k, 0, ⟨Nat.zero_le _, fun _ => rfl⟩, ?_, ?_⟩
          · exact sub_to ⟨rfl, rfl, rfl, rfl, trivial⟩ rfl (Nat.le_refl 0)
          · rintro k ⟨hk, hno⟩
            have hdl : (l.drop i).length = l.length - i := List.length_drop
            show awp _ _ _ (mks [(3, rCpsA l), (5, .str out), (6, .int .i64 i), (7, .int .i64 ((i + k : Nat) : Int))] [] 0)
            refine cond_split (fun h => ?_) (fun h => ?_)
            · have hTk : ((i + k : Nat) : Int) < l.length := of_decide_eq_true h
              have hkt : k < (l.drop i).length := by omega
              have hik : i + k < l.length := by omega
              obtain ⟨d, hd⟩ : ∃ d, d = (l.drop i)[k]'hkt := ⟨_, rfl⟩
              have hdi : (l.drop i)[k]? = some d := by rw [List.getElem?_eq_getElem hkt, hd]
              have hdd : l.getD (i + k) default = d := by rw [getD_at hik, hd, List.getElem_drop]
              refine And.intro ⟨by omega, by omega⟩ ?_
              refine ⟨_, flatRC_any hik, ?_⟩
              rw [hdd]
              by_cases hda : d.any = true
              · have hb : (!d.any) = false := by rw [hda]; rfl
                iterate 3 (refine cond_f hb ?_)
                refine And.intro (by omega) ?_
                refine ⟨k + 1, ⟨by omega, fun h0 => ?_⟩, by dsimp only; omega, ?_⟩
                · rw [any_take_succ hkt, hno h0, ← hd, hb]; rfl
                · exact sub_to ⟨rfl, rfl, rfl, congrArg some (eI (by omega)), trivial⟩ rfl (Nat.le_refl 0)
              · have hb : (!d.any) = true := by simpa using hda
                iterate 2 (refine cond_t hb ?_)
                by_cases h0 : 0 < i
                · have hg0 : cond (!d.any) (decide ((0 : Int) < i)) false = true := by rw [hb]; simp; omega
                  refine cond_t hg0 ?_
                  refine And.intro (by dsimp only; simp; omega) ?_
                  refine ⟨_, (by first | exact SubSt.refl _ | exact SubTop.refl _), ?_⟩
                  show AV.str (out ++ [47]) = AV.str (fixG g)
                  have hany : (l.drop i).any (fun d => !d.any) = true := List.any_eq_true.2 ⟨d, List.mem_of_getElem? hdi, hb⟩
                  rw [hf, fx, hany]
                  have : (!decide (i = 0)) = true := by simp; omega
                  rw [this]; rfl
                · have hg0 : cond (!d.any) (decide ((0 : Int) < i)) false = false := by rw [hb]; simp; omega
                  refine cond_f hg0 ?_
                  refine And.intro (by omega) ?_
                  refine ⟨k + 1, ⟨by omega, fun h1 => absurd h1 h0⟩, by dsimp only; omega, ?_⟩
                  exact sub_to ⟨rfl, rfl, rfl, congrArg some (eI (by omega)), trivial⟩ rfl (Nat.le_refl 0)
            · have hF : ¬ ((i + k : Nat) : Int) < l.length := of_decide_eq_false h
              refine ⟨_, (by first | exact SubSt.refl _ | exact SubTop.refl _), ?_⟩
              show AV.str out = AV.str (fixG g)
              rw [hf, fx]
              by_cases h0 : 0 < i
              · have := hno h0
                rw [List.take_of_length_le (by omega)] at this
                rw [this]; simp
              · have : i = 0 := by omega
                rw [this]; simp
        · have ha : c.any = false := h
          have fx : fixL (decide (i = 0)) (l.drop i) = (if decide (i = 0) then [] else [47]) ++ (if (lits c.els).2 then (lits c.els).1 ++ fixL false (l.drop (i + 1)) else (lits c.els).1) := by
            rw [hdr, fixL, if_neg (by rw [ha]; decide)]
          obtain ⟨pre, hpre⟩ : ∃ pre : List UInt8, pre = out ++ (if decide (i = 0) then [] else [47]) := ⟨_, rfl⟩
          have hpl : pre.length ≤ out.length + 1 := by rw [hpre]; split <;> simp
          refine jn_at (fun _ : Unit => FX l pre i) (fun _ => True) ?_ ?_
          · refine cond_split (fun h => ?_) (fun h => ?_)
            · have h0 : (0 : Int) < i := of_decide_eq_true h
              refine And.intro (by dsimp only; simp; omega) ?_
              have e1 : out ++ [47] = pre := by rw [hpre, if_neg (by simp; omega)]
              exact ⟨(), trivial, sub_to ⟨rfl, congrArg (fun x => some (AV.str x)) e1, rfl, trivial⟩ rfl (Nat.le_refl 0)⟩
            · have h0 : ¬ (0 : Int) < i := of_decide_eq_false h
              have e1 : out = pre := by rw [hpre, if_pos (by simp; omega)]; simp
              exact ⟨(), trivial, sub_to ⟨rfl, congrArg (fun x => some (AV.str x)) e1, rfl, trivial⟩ rfl (Nat.le_refl 0)⟩
          · rintro _ _
            refine ⟨Nat × List UInt8, fun x => x.1 ≤ c.els.length ∧ x.2.length = x.1 ∧ (lits c.els).1 = x.2 ++ (lits (c.els.drop x.1)).1 ∧ (lits c.els).2 = (lits (c.els.drop x.1)).2,
              fun x => FZ l (pre ++ x.2) i x.1, fun x => c.els.length - x.1, (0, []), ⟨Nat.zero_le _, rfl, rfl, rfl⟩, ?_, ?_⟩
            · exact sub_to ⟨rfl, congrArg (fun x => some (AV.str x)) (List.append_nil pre).symm, rfl, rfl, trivial⟩ rfl (Nat.le_refl 0)
            · rintro ⟨k, w⟩ ⟨hk, hwl, h1, h2⟩
              dsimp only at hk hwl h1 h2
              have hel := hck.2.1
              have hpw : (pre ++ w).length ≤ 300000 := by rw [List.length_append]; omega
              show awp _ _ _ (mks [(3, rCpsA l), (5, .str (pre ++ w)), (6, .int .i64 i), (8, .int .i64 k)] [] 0)
              refine And.intro ⟨by omega, by omega⟩ ?_
              refine ⟨_, flatRC_els hlt, ?_⟩
              rw [← hc]
              refine cond_split (fun h => ?_) (fun h => ?_)
              · have hTk : (k : Int) < c.els.length := of_decide_eq_true h
                have hkt : k < c.els.length := by omega
                have ld := lits_drop hkt
                obtain ⟨e, he⟩ : ∃ e, e = c.els.getD k default := ⟨_, rfl⟩
                rw [← getD_at hkt, ← he] at ld
                refine And.intro ⟨by omega, by omega⟩ ?_
                refine ⟨_, flatRC_els hlt, ?_⟩
                rw [← hc]
                refine And.intro ⟨by omega, by omega⟩ ?_
                refine ⟨_, flatR_lit hkt, ?_⟩
                rw [← he]
                refine cond_split (fun h => ?_) (fun h => ?_)
                · have hlit : e.isLit = false := by simpa using h
                  refine ⟨_, (by first | exact SubSt.refl _ | exact SubTop.refl _), ?_⟩
                  show AV.str (pre ++ w) = AV.str (fixG g)
                  have ld2 : lits (c.els.drop k) = ([], false) := by
                    rw [ld]
                    cases e <;> first | rfl | cases hlit
                  rw [ld2] at h1 h2
                  rw [hf, fx, h1, h2, hpre]
                  simp
                · have hlit : e.isLit = true := by simpa using h
                  obtain ⟨b, hb⟩ : ∃ b, e = .lit b := by
                    cases e with
                    | lit b => exact ⟨b, rfl⟩
                    | star => cases hlit
                    | any => cases hlit
                    | cls _ _ => cases hlit
                  have hei : c.els[k]? = some (.lit b) := by rw [List.getElem?_eq_getElem hkt, ← hb, he, getD_at hkt]
                  have ek : (k : Int).toNat = k := by omega
                  refine And.intro ⟨by omega, by omega⟩ ?_
                  refine ⟨_, flatRC_els hlt, ?_⟩
                  rw [← hc]
                  refine And.intro ⟨by omega, by omega⟩ ?_
                  refine And.intro (nnl_flatR _) ?_
                  refine ⟨refA (.lit b), ⟨by rw [ek]; exact (flat_take (n := 258) refA_len c.els k _ hei).symm, refA_len _⟩, ?_⟩
                  refine And.intro (nn_agg (nnl_refA _)) ?_
                  refine ⟨b, rfl, trivial, ?_⟩
                  refine And.intro (by simp at hpw ⊢; omega) ?_
                  refine And.intro (by omega) ?_
                  rw [hb] at ld
                  dsimp only at ld
                  rw [ld] at h1 h2
                  refine ⟨(k + 1, w ++ [b]), ⟨by dsimp only; omega, by simp [hwl], by rw [h1]; simp, h2⟩, by dsimp only; omega, ?_⟩
                  exact sub_to ⟨rfl, congrArg (fun x => some (AV.str x)) (List.append_assoc pre w [b]), rfl, rfl, trivial⟩ rfl (Nat.le_refl 0)
              · have hFk : ¬ (k : Int) < c.els.length := of_decide_eq_false h
                rw [List.drop_of_length_le (by omega)] at h1 h2
                have e1 : (lits c.els).1 = w := by rw [h1]; simp [lits]
                refine And.intro (by omega) ?_
                refine ⟨(i + 1, pre ++ w), ⟨hlt, ?_, ?_⟩, by dsimp only; omega, ?_⟩
                · dsimp only
                  rw [hf, fx, h2, e1, hpre]
                  simp [lits]
                · rw [List.length_append]; dsimp only; omega
                · exact sub_to ⟨rfl, rfl, rfl, trivial⟩ rfl (Nat.le_refl 0)
      · have hF : ¬ (i : Int) < l.length := of_decide_eq_false h
        refine ⟨_, (by first | exact SubSt.refl _ | exact SubTop.refl _), ?_⟩
        show AV.str out = AV.str (fixG g)
        rw [hf, List.drop_of_length_le (by omega)]
        simp [fixL]
  · have hres : C_quiltref32_glob.res g = .tup [rCpsA (globP g).1, .bool false] := by show AV.tup [rCpsA (globP g).1, .bool (globP g).2] = _; rw [hpr]
    rw [hres]
    refine ⟨_, rfl, ?_⟩
    refine ⟨_, rfl, ?_⟩
    refine ⟨_, (by first | exact SubSt.refl _ | exact SubTop.refl _), ?_⟩
    show AV.str [] = AV.str (fixG g)
    unfold fixG
    rw [hgl]

end Qk
