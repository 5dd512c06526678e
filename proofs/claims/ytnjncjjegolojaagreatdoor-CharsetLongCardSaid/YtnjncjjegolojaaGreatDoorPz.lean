/-
  Chapter 57: the law on long data.
-/
import Derived.Test.YtnjncjjegolojaaGreatDoorPy
import Derived.Test.YtnjncjjegolojaaGreatDoorPc

/-
  Chapter 57: the law on long data.
-/
namespace Qk
open Go Go.RowKit

theorem repB_len (s : List UInt8) : ∀ n : Nat,(repB s n).length = n * s.length
 | 0 => by simp [repB]
 | n + 1 => by
  have e : repB s (n + 1) = s ++ repB s n := by unfold repB; rw [List.replicate_succ,List.flatten_cons]
  rw [e,List.length_append,repB_len s n,Nat.succ_mul]; omega
theorem plain_tupS (r : List UInt8 × Int) : PlainV (tupS r) := plain_tup (by
 intro c hc
 simp only [List.mem_cons,List.not_mem_nil,or_false] at hc
 rcases hc with rfl | rfl
 ·exact plain_str _
 ·exact plain_int _ _)

set_option maxRecDepth 4000 in
set_option maxHeartbeats 2000000 in
theorem d_CharsetLong : Does ir_quiltlaw57_CharsetLong C_quiltlaw57_CharsetLong := by
 rintro ⟨a,part,n⟩ hn
 replace hn : n < 4294967296 := hn
 show awp _ _ _ (entry [.agg (attA a),.str part,.int .u32 (n : Int)])
 by_cases h1 : part.length = 0
 ·have E1 : decide ((part.length : Int) = 0) = true := dec_t (by omega)
  repeat ((conv => whnf); first | refine cond_t (by first | (simp only [E1,eq_self]; done) | fail) ?_ | refine cond_f (by first | (simp only [E1,cond_true,cond_false,Bool.not_true,Bool.not_false,eq_self,decide_true,decide_false]; done) | fail) ?_ | refine And.intro (by omega) ?_ | refine And.intro ⟨rfl,by omega,by omega⟩ ?_ | refine And.intro ⟨rfl,by decide,by omega,by omega⟩ ?_)
  refine ⟨(),rfl,trivial,?_⟩
  refine ⟨_,(by first | exact SubSt.refl _ | exact SubTop.refl _),?_⟩
  rfl
 have E1 : decide ((part.length : Int) = 0) = false := dec_f (by omega)
 by_cases h2 : 8 < part.length
 ·have E2 : decide ((8 : Int) < part.length) = true := dec_t (by omega)
  repeat ((conv => whnf); first | refine cond_t (by first | (simp only [E1, E2,cond_false,eq_self]; done) | fail) ?_ | refine cond_f (by first | (simp only [E1, eq_self]; done) | fail) ?_ | refine And.intro (by omega) ?_ | refine And.intro ⟨rfl,by omega,by omega⟩ ?_ | refine And.intro ⟨rfl,by decide,by omega,by omega⟩ ?_)
  refine ⟨(),rfl,trivial,?_⟩
  refine ⟨_,(by first | exact SubSt.refl _ | exact SubTop.refl _),?_⟩
  rfl
 have E2 : decide ((8 : Int) < part.length) = false := dec_f (by omega)
 by_cases h3 : 40 < a.g.length
 ·have E3 : decide ((40 : Int) < a.g.length) = true := dec_t (by omega)
  repeat ((conv => whnf); first | refine ⟨(),rfl,trivial,?_⟩ | refine ⟨_,rfl,?_⟩ | refine cond_t (by first | (simp only [E1, E2, E3,cond_false,eq_self]; done) | fail) ?_ | refine cond_f (by first | (simp only [E1, E2, cond_false,eq_self]; done) | fail) ?_ | refine And.intro (by omega) ?_ | refine And.intro ⟨rfl,by omega,by omega⟩ ?_ | refine And.intro ⟨rfl,by decide,by omega,by omega⟩ ?_)
  refine ⟨_,(by first | exact SubSt.refl _ | exact SubTop.refl _),?_⟩
  rfl
 have E3 : decide ((40 : Int) < a.g.length) = false := dec_f (by omega)
 obtain ⟨m,hm⟩ : ∃ m,m = n % 70001 := ⟨_,rfl⟩
 obtain ⟨q,hq⟩ : ∃ q,q = m / part.length := ⟨_,rfl⟩
 have hm2 : m ≤ 70000 := by omega
 have t1 : (n : Int).tmod 70001 = (m : Int) := by rw [hm]; exact tmN n 70001
 have t2 : ((n : Int).tmod 70001).tdiv (part.length : Int) = (q : Int) := by rw [t1,hq]; exact tdN m part.length
 have hqm : q ≤ m := by rw [hq]; exact Nat.div_le_self _ _
 have hql : q * part.length ≤ 70000 := by
  have : m / part.length * part.length ≤ m := Nat.div_mul_le_self m part.length
  rw [← hq] at this
  omega
 obtain ⟨data,hdata⟩ : ∃ data,data = repB part q := ⟨_,rfl⟩
 have hdl : data.length ≤ 1000000000 := by rw [hdata,repB_len]; omega
 have hok : okA [a] ∧ ([97] : List UInt8).length ≤ 1000000000 ∧ data.length ≤ 1000000000 := by
  refine ⟨⟨(show 1 ≤ 1000000000 by decide),fun x hx => ?_⟩,(show 1 ≤ 1000000000 by decide),hdl⟩
  rw [List.mem_singleton.1 hx]; omega
 repeat ((conv => whnf); first | refine And.intro ⟨by omega,by omega⟩ ?_ | refine ⟨_,rfl,?_⟩ | refine cond_t (by first | (simp only [E1, E2, E3,cond_false]; done) | fail) ?_ | refine cond_f (by first | (simp only [E1, E2, E3,cond_false,eq_self]; done) | fail) ?_ | refine And.intro (by omega) ?_ | refine And.intro ⟨rfl,by omega,by omega⟩ ?_ | refine And.intro ⟨rfl,by decide,by omega,by omega⟩ ?_)
 have r0 : C_strings_Repeat.res (part,(q : Int)) = .str data := by rw [hdata]; rfl
 obtain ⟨s1,e1,hs1⟩ : ∃ s e,decodeS a.set data = (s,e) := ⟨_,_,rfl⟩
 obtain ⟨s2,e2,hs2⟩ : ∃ s e,encodeS a.set data = (s,e) := ⟨_,_,rfl⟩
 obtain ⟨s3,e3,hs3⟩ : ∃ s e,toRepoS [a] [97] data = (s,e) := ⟨_,_,rfl⟩
 obtain ⟨s4,e4,hs4⟩ : ∃ s e,fromRepoS [a] [97] data = (s,e) := ⟨_,_,rfl⟩
 have r1 : C_charset_Decode.res (a.set,data) = .tup [.str s1,.int .i64 e1] := by show tupS (decodeS a.set data) = _; rw [hs1]; rfl
 have r2 : C_quiltref57_Decode.res (a.set,data) = .tup [.str s1,.int .i64 e1] := by show tupS (decodeS a.set data) = _; rw [hs1]; rfl
 have r3 : C_charset_Encode.res (a.set,data) = .tup [.str s2,.int .i64 e2] := by show tupS (encodeS a.set data) = _; rw [hs2]; rfl
 have r4 : C_quiltref57_Encode.res (a.set,data) = .tup [.str s2,.int .i64 e2] := by show tupS (encodeS a.set data) = _; rw [hs2]; rfl
 have r5 : C_charset_ToRepo.res ([a],[97],data) = .tup [.str s3,.int .i64 e3] := by show tupS (toRepoS [a] [97] data) = _; rw [hs3]; rfl
 have r6 : C_quiltref57_ToRepo.res ([a],[97],data) = .tup [.str s3,.int .i64 e3] := by show tupS (toRepoS [a] [97] data) = _; rw [hs3]; rfl
 have r7 : C_charset_FromRepo.res ([a],[97],data) = .tup [.str s4,.int .i64 e4] := by show tupS (fromRepoS [a] [97] data) = _; rw [hs4]; rfl
 have r8 : C_quiltref57_FromRepo.res ([a],[97],data) = .tup [.str s4,.int .i64 e4] := by show tupS (fromRepoS [a] [97] data) = _; rw [hs4]; rfl
 have D1 : decide (s1 = s1) = true := dec_t rfl
 have D2 : decide (e1 = e1) = true := dec_t rfl
 have D3 : decide (s2 = s2) = true := dec_t rfl
 have D4 : decide (e2 = e2) = true := dec_t rfl
 have D5 : decide (s3 = s3) = true := dec_t rfl
 have D6 : decide (e3 = e3) = true := dec_t rfl
 have D7 : decide (s4 = s4) = true := dec_t rfl
 have D8 : decide (e4 = e4) = true := dec_t rfl
 refine ⟨(part,(q : Int)),(show [AV.str part,AV.int .i64 _] = [AV.str part,AV.int .i64 (q : Int)] by rw [t2]),⟨(show (0 : Int) ≤ (q : Int) by omega),(show (q : Int) ≤ 1000000000 by omega),(show part.length ≤ 1000 by omega)⟩,?_⟩
 rewrite [r0]
 refine ⟨_,rfl,?_⟩
 refine ⟨(a.set,data),rfl,hdl,?_⟩
 rewrite [r1]
 refine ⟨_,rfl,?_⟩
 refine ⟨_,rfl,?_⟩
 refine ⟨_,rfl,?_⟩
 refine ⟨(a.set,data),rfl,hdl,?_⟩
 rewrite [r2]
 refine ⟨_,rfl,?_⟩
 refine ⟨_,rfl,?_⟩
 refine ⟨_,rfl,?_⟩
 refine ⟨(a.set,data),rfl,hdl,?_⟩
 rewrite [r3]
 refine ⟨_,rfl,?_⟩
 refine ⟨_,rfl,?_⟩
 refine ⟨_,rfl,?_⟩
 refine ⟨(a.set,data),rfl,hdl,?_⟩
 rewrite [r4]
 refine ⟨_,rfl,?_⟩
 refine ⟨_,rfl,?_⟩
 refine ⟨attA a,⟨rfl,rfl⟩,?_⟩
 have hle : (0 + 1) * 3 ≤ (attA a).length := Nat.le_refl 3
 refine ⟨hle,nnl_attA a,([a],[97],data),rfl,hok,plain_tupS _,?_⟩
 rewrite [r5]
 refine ⟨_,rfl,?_⟩
 refine ⟨_,rfl,?_⟩
 refine ⟨hle,nnl_attA a,([a],[97],data),rfl,hok,plain_tupS _,?_⟩
 rewrite [r6]
 refine ⟨_,rfl,?_⟩
 refine ⟨_,rfl,?_⟩
 refine ⟨hle,nnl_attA a,([a],[97],data),rfl,hok,plain_tupS _,?_⟩
 rewrite [r7]
 refine ⟨_,rfl,?_⟩
 refine ⟨_,rfl,?_⟩
 refine ⟨hle,nnl_attA a,([a],[97],data),rfl,hok,plain_tupS _,?_⟩
 rewrite [r8]
 refine ⟨_,rfl,?_⟩
 refine ⟨_,rfl,?_⟩
 repeat ((conv => whnf); first | refine ⟨(),rfl,trivial,?_⟩ | refine cond_t (by first | (simp only [cond_true,eq_self,decide_true]; done) | fail) ?_ | refine cond_f (by first | (simp only [D1, D2, D3, D4, D5, D6, D7, D8,cond_true,cond_false,Bool.not_true,Bool.not_false,eq_self,decide_true,decide_false]; done) | fail) ?_ | refine And.intro (by omega) ?_ | refine And.intro ⟨rfl,by omega,by omega⟩ ?_ | refine And.intro ⟨rfl,by decide,by omega,by omega⟩ ?_)
 refine ⟨_,(by first | exact SubSt.refl _ | exact SubTop.refl _),?_⟩
 show AV.bool _ = AV.bool true
 simp only []
 rfl

end Qk

/-
  Chapter 57: repeating a string keeps its contract.
-/
namespace Qk
open Go Go.RowKit

theorem keeps_repeat57 {G : Gl} {f : FuncId} {fn : Func} (hf : G.P.funcs[f]? = some fn) (hb : fn.body.isNone = false) (hname : (fn.name == "runtime.NumGoroutine") = false)
  (h : ∀ (s : ByteArray) (c : Nat) (w : World),c ≤ 9223372036854775807 → s.size * c ≤ 140737488355328 → Calls G.P f #[.string s,.int .i64 c] w fun e w' => e = .returned (.string ⟨(Lib.repeatL s.data.toList c).toArray⟩) ∧ Below w.heap.size w w') :
  KeepsC G C_strings_Repeat (fun _ => none) f #[] := by
 refine keeps_calls hf hb hname ?_
 rintro w Φ vs ⟨l,n⟩ hphi hs hr ⟨h0,h1,h2⟩
 dsimp only at h0 h1 h2
 obtain ⟨x,y,rfl,r1,r2⟩ := two_args hs hr
 simp only [Rep] at r1 r2
 subst r1
 subst r2
 have e : ((n.toNat : Nat) : Int) = n := by omega
 have hsz : (ByteArray.mk l.toArray).size = l.length := by simp [ByteArray.size]
 refine ⟨_,?_,by
  have := h ⟨l.toArray⟩ n.toNat w (by omega) (by
   rw [hsz]
   exact Nat.le_trans (Nat.mul_le_mul h2 (show n.toNat ≤ 1000000000 by omega)) (by decide))
  rw [e] at this
  exact this⟩
 simp only [Rep,C_strings_Repeat,repB,repeatL_eq]

theorem u32_of {n : Int} (h : (Lit.int .u32 n).wf = true) : ∃ m : Nat,n = (m : Int) ∧ m < 4294967296 := by
 have h1 : (decide (IntKind.u32.min ≤ n) && decide (n ≤ IntKind.u32.max)) = true := h
 rw [Bool.and_eq_true_iff] at h1
 have h2 : (0 : Int) ≤ n := of_decide_eq_true h1.1
 have h3 : n ≤ 4294967295 := of_decide_eq_true h1.2
 exact ⟨n.toNat,by omega,by omega⟩

end Qk
