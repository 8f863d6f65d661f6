/- The reference's tag. -/
import Derived.Test.YthlnjgdoodjgoaaGreatDoorXTxt4
import Derived.Test.YthlnjgdoodjgoaaGreatDoorXTxt2
import Derived.Test.YthlnjgdoodjgoaaGreatDoorXTxt1
import Derived.Test.YthlnjgdoodjgoaaGreatDoorXTxt3
set_option linter.unusedSimpArgs false
set_option linter.unusedVariables false
open Nat renaming reduceEqDiff → qn0, reduceAdd → qn1, reduceSub → qn2, reduceMul → qn3, reduceDiv → qn4, reduceMod → qn5, reduceBEq → qn6, reduceLeDiff → qn7, reduceLT → qn8
open Int renaming reduceEq → qi0, reduceNe → qi1, reduceLT → qi2, reduceLE → qi3, reduceBEq → qi4, reduceBNe → qi5, reduceToNat → qi6, reduceAdd → qi7, reduceSub → qi8, reduceMul → qi9, reduceNeg → qi10
namespace Cod
open Go
def idE (i : Idt) : Int := if identOK i = true then 0 else 3
theorem go_rleast3 {a b c : Int} : S E F.ref07_Least [.lst [.int .i64 a, .int .i64 b, .int .i64 c] 3] [] = some (.int .i64 (minE [a, b, c]), []) := go_rleast (l := [a, b, c]) (by simp)
def putA (b : List UInt8) (e : Int) : AV × Store := (.tup [.buf (.r 0) 0 0 b.length 1, .int .i64 e], [(.r 0, ⟨0, true, true, false, ofBytes b⟩)])
theorem putA_nil (e : Int) : putA [] e = (.tup [.buf (.r 0) 0 0 0 1, .int .i64 e], [(.r 0, ⟨0, true, true, false, []⟩)]) := rfl
end Cod
namespace Cod
open Go
structure EnvP (EE : Env) : Prop where
  ext : Ext E EE
  hex : ∀ {id : List UInt8}, id.length = 32 → S EE F.sha_Hex [.agg (ofBytes id)] [] = some (.str (hexT id), [])
theorem EnvP.S_of {EE : Env} (h : EnvP EE) {f : Nat} {l : LFn} (hf : fnOf f = some l) (hk : knownOf f = none) {args : List AV} {σ : Store} (hn : args.length = l.np) : S EE f args σ = X EE l.results [.c l.code] ⟨params 0 args, σ⟩ := by
  have hfn : EE.fn f = some l := by rw [h.ext.fn]; exact hf
  have hkn : EE.known f = none := (h.ext.none f hk).resolve_right (by rw [show E.fn f = some l from hf]; simp)
  exact S_fn hkn hfn hn
end Cod
namespace Cod
open Go
theorem go_who {i : Idt} : S E F.object_who [.agg i.cells] [] = some (putV i, []) := by
  have h1 := go_putIdent (i := i)
  rw [S_of fn_object_who rfl rfl]
  unfold putV at h1 ⊢
  cases h : identOK i <;> rw [h] at h1 <;> simp (dsimp := false) (disch := first | omega | (simp only [LENs] <;> omega) | fail) only [L.object_who, go_sem, reduceIte, reduceCtorEq, qn0, qn1, qn2, qn3, qn4, qn5, qn6, qn7, qn8, qi0, qi1, qi2, qi3, qi4, qi5, qi6, qi7, qi8, qi9, qi10, h1]
theorem go_least4 {a b c d : Int} : S E F.object_least [.lst [.int .i64 a, .int .i64 b, .int .i64 c, .int .i64 d] 4] [] = some (.int .i64 (minE [a, b, c, d]), []) := go_least (l := [a, b, c, d]) (by simp)
section
variable {EE : Env} (hE : EnvP EE)
include hE
end
end Cod
namespace Cod
open Go
def zeroL : Lbl := ⟨List.replicate 32 0, 0, [], ⟨[], [], 0, 0⟩, [], by simp⟩
theorem lbl0z : lcat (zer (.int .u8 0) 32) [.int .i64 0, .str [], .str [], .str [], .int .i64 0, .int .i64 0, .str []] = zeroL.cells := rfl
theorem lbl0b : lcat (ofBytes (List.replicate 32 0)) [.int .i64 0, .str [], .str [], .str [], .int .i64 0, .int .i64 0, .str []] = zeroL.cells := rfl
theorem lbl0c : ofBytes (List.replicate 32 0) ++ [.int .i64 0, .str [], .str [], .str [], .int .i64 0, .int .i64 0, .str []] = zeroL.cells := rfl
theorem over_lbl (a b : Lbl) : over a.cells 0 b.cells = b.cells := by
  unfold over; exact overall (by rw [lbl_len, lbl_len])
theorem over_l32 (t : List UInt8) (k : Int) (n : List UInt8) (w : Idt) (m : List UInt8) (h : t.length = 32) (x : Int) : over (Lbl.mk t k n w m h).cells 32 [.int .i64 x] = (Lbl.mk t x n w m h).cells := by
  unfold Lbl.cells; rw [over_front (j := 0) (by rw [ofBytes_length, h])]; rfl
theorem over_l33 (t : List UInt8) (k : Int) (n : List UInt8) (w : Idt) (m : List UInt8) (h : t.length = 32) (x : List UInt8) : over (Lbl.mk t k n w m h).cells 33 [.str x] = (Lbl.mk t k x w m h).cells := by
  unfold Lbl.cells; rw [over_front (j := 1) (by rw [ofBytes_length, h])]; rfl
theorem over_l34 (t : List UInt8) (k : Int) (n : List UInt8) (w : Idt) (m : List UInt8) (h : t.length = 32) (x : Idt) : over (Lbl.mk t k n w m h).cells 34 x.cells = (Lbl.mk t k n x m h).cells := by
  unfold Lbl.cells; rw [over_front (j := 2) (by rw [ofBytes_length, h])]; rfl
theorem over_l38 (t : List UInt8) (k : Int) (n : List UInt8) (w : Idt) (m : List UInt8) (h : t.length = 32) (x : List UInt8) : over (Lbl.mk t k n w m h).cells 38 [.str x] = (Lbl.mk t k n w x h).cells := by
  unfold Lbl.cells; rw [over_front (j := 6) (by rw [ofBytes_length, h])]; rfl
attribute [go_sem] lbl0z lbl0b lbl0c over_lbl over_l32 over_l33 over_l34 over_l38
section
variable {EE : Env} (hE : EnvP EE)
include hE
end
end Cod
namespace Cod
open Go
theorem ge_equal {a b : List UInt8} {n m : Nat} (hn : n = a.length) (hm : m = b.length) : S E F.bytes_Equal [.lst (ofBytes a) n, .lst (ofBytes b) m] [] = some (.bool (a == b), []) := by
  rw [S_of fn_bytes_Equal rfl rfl]
  simp (dsimp := false) (disch := first | omega | (simp only [LENs] <;> omega) | fail) only [L.bytes_Equal, go_sem, reduceIte, reduceCtorEq, qn0, qn1, qn2, qn3, qn4, qn5, qn6, qn7, qn8, qi0, qi1, qi2, qi3, qi4, qi5, qi6, qi7, qi8, qi9, qi10, BYs]
section
variable {EE : Env} (hE : EnvP EE)
include hE
end
end Cod
namespace Cod
open Go
theorem rwho_ex {v : List UInt8} (hv : v.length ≤ 1000000000) : ∃ (i : Idt) (e : Int), i.name.length ≤ 100 ∧ i.email.length ≤ 100 ∧ S E F.ref06_DocParseIdent [.str v] [] = some (.tup [.agg i.cells, .int .i64 e], []) ∧ ∀ j, identOK j = true → v = putI j → i = j := by
  rcases parse_cases v with ⟨i, i1, i2⟩ | hno
  · have k3 := go_docParse_put i1
    rw [i2] at k3
    refine ⟨i, 0, plain_len ((identOK_iff i).1 i1).1, plain_len ((identOK_iff i).1 i1).2.1, k3, fun j g1 g2 => ?_⟩
    have a1 := (doc_put i1).1
    have a2 := (doc_put g1).1
    rw [i2, g2] at a1
    exact a1.symm.trans a2
  · have k3 := go_docParse_no (s := v) (by omega) hno
    exact ⟨⟨[], [], 0, 0⟩, 4, by simp, by simp, k3, fun j g1 g2 => absurd g2.symm (hno j g1)⟩
theorem ge_same {a b : List UInt8} {n m : Nat} (hn : n = a.length) (hm : m = b.length) : S E F.ref01_Same [.lst (ofBytes a) n, .lst (ofBytes b) m] [] = some (.bool (a == b), []) := by
  rw [S_of fn_ref01_Same rfl rfl]
  simp (dsimp := false) (disch := first | omega | (simp only [LENs] <;> omega) | fail) only [L.ref01_Same, go_sem, reduceIte, reduceCtorEq, qn0, qn1, qn2, qn3, qn4, qn5, qn6, qn7, qn8, qi0, qi1, qi2, qi3, qi4, qi5, qi6, qi7, qi8, qi9, qi10, BYs]
end Cod
namespace Cod
open Go
def resB (s : Snap) : List UInt8 := autW ++ [32] ++ putI s.aut ++ [10] ++ comW ++ [32] ++ putI s.com ++ [10, 10] ++ s.msg
theorem cmtB_eq (s : Snap) : cmtB s = (treW ++ [32] ++ hexT s.tree ++ [10]) ++ parB s.par ++ resB s := rfl
theorem ids_drop {ps : List Id32} {i : Nat} (h : i < ps.length) : ps.drop i = iat ps i :: ps.drop (i + 1) := by
  rw [List.drop_eq_getElem_cons h]; simp [iat, List.getD, h]
def PV (v : AV) (ps : List Id32) : Prop := v = .lst (ids ps) ps.length ∨ (ps = [] ∧ v = .nils)
theorem rc_l0 {s : Snap} {v : AV} (hv : PV v s.par) (hp : s.par.length ≤ 100000) (hm : s.msg.length ≤ 1000000000) (ha : identOK s.aut = true) (hc : identOK s.com = true) : ∀ (m i : Nat) (t : List UInt8), i + m = s.par.length → t.length ≤ 200 + i * 72 →
    X E [.tmp 2] (.c L.ref07_Commit.x0 :: .lp [1, 3, 12, 13, 14] L.ref07_Commit.x0 :: .blk 0 :: [.c L.ref07_Commit.r0]) ⟨[(1, .ref (.s 1000000 0) 0 0), (3, .str t), (12, v), (13, .int .i64 s.par.length), (14, .int .i64 i)], [(.s 1000000 0, ⟨0, true, true, true, snR s.tree v s.aut s.com s.msg⟩)]⟩ =
    some (.buf (.r 0) 0 0 (t ++ parB (s.par.drop i) ++ resB s).length 1, [(.r 0, ⟨0, true, true, false, ofBytes (t ++ parB (s.par.drop i) ++ resB s)⟩)]) := by
  have ht := s.ht
  have q1 := go_rput ha
  have q2 := go_rput hc
  have l1 := putI_len ha
  have l2 := putI_len hc
  intro m
  induction m with
  | zero =>
    intro i t hi hl
    obtain rfl : i = s.par.length := by omega
    have e : t ++ parB (s.par.drop s.par.length) ++ resB s = t ++ ([97, 117, 116, 104, 111, 114, 32] ++ putI s.aut ++ [10, 99, 111, 109, 109, 105, 116, 116, 101, 114, 32] ++ putI s.com ++ [10, 10] ++ s.msg) := by
      rw [List.drop_length, parB_nil, List.append_nil]
      unfold resB autW comW
      simp only [List.append_assoc, List.cons_append, List.nil_append]
    rw [X_in L.ref07_Commit.x0.eq_1, e]
    generalize putI s.aut = A at *
    generalize putI s.com = C at *
    rcases hv with rfl | ⟨h0, rfl⟩
    · simp (dsimp := false) (disch := first | omega | (simp only [LENs] <;> omega) | fail) only [go_sem, reduceIte, reduceCtorEq, qn0, qn1, qn2, qn3, qn4, qn5, qn6, qn7, qn8, qi0, qi1, qi2, qi3, qi4, qi5, qi6, qi7, qi8, qi9, qi10, BYs, L.ref07_Commit.r0, q1, q2]
    · simp (dsimp := false) (disch := first | omega | (simp only [LENs] <;> omega) | fail) only [go_sem, reduceIte, reduceCtorEq, qn0, qn1, qn2, qn3, qn4, qn5, qn6, qn7, qn8, qi0, qi1, qi2, qi3, qi4, qi5, qi6, qi7, qi8, qi9, qi10, BYs, L.ref07_Commit.r0, q1, q2]
  | succ m ih =>
    intro i t hi hl
    have hlt : i < s.par.length := by omega
    obtain rfl : v = .lst (ids s.par) s.par.length := by
      rcases hv with h | ⟨h0, _⟩
      · exact h
      · rw [h0] at hlt; simp at hlt
    have hx := (iat s.par i).h
    have h1 := go_rhex hx
    have hl1 : (hexT (iat s.par i).b).length = 64 := by rw [hexT_len, hx]
    have e : t ++ parB (s.par.drop i) ++ resB s = (t ++ ([112, 97, 114, 101, 110, 116, 32] ++ hexT (iat s.par i).b ++ [10])) ++ parB (s.par.drop (i + 1)) ++ resB s := by
      rw [ids_drop hlt, parB_cons]
      unfold parW
      simp only [List.append_assoc, List.cons_append, List.nil_append]
    have h2 := ih (i + 1) (t ++ ([112, 97, 114, 101, 110, 116, 32] ++ hexT (iat s.par i).b ++ [10])) (by omega) (by simp only [List.length_append, List.length_cons, List.length_nil]; omega)
    simp only [Int.natCast_add, Int.cast_ofNat_Int] at h2
    rw [X_in L.ref07_Commit.x0.eq_1, e, ← h2]
    have ho : over (ofBytes (List.replicate 32 0)) 0 (ofBytes (iat s.par i).b) = ofBytes (iat s.par i).b := over_ofBytes_all (by rw [hx]; simp)
    generalize hexT (iat s.par i).b = H at *
    simp (dsimp := false) (disch := first | omega | (simp only [LENs] <;> omega) | fail) only [go_sem, reduceIte, reduceCtorEq, qn0, qn1, qn2, qn3, qn4, qn5, qn6, qn7, qn8, qi0, qi1, qi2, qi3, qi4, qi5, qi6, qi7, qi8, qi9, qi10, BYs, h1, ho, List.length_replicate]
theorem go_rCommit {s : Snap} {v : AV} (hv : PV v s.par) (hp : s.par.length ≤ 100000) (hm : s.msg.length ≤ 1000000000) (ha : identOK s.aut = true) (hc : identOK s.com = true) : S E F.ref07_Commit [.agg (snR s.tree v s.aut s.com s.msg)] [] = some (.buf (.r 0) 0 0 (cmtB s).length 1, [(.r 0, ⟨0, true, true, false, ofBytes (cmtB s)⟩)]) := by
  have ht := s.ht
  have h1 := go_rhex s.ht
  have hl1 : (hexT s.tree).length = 64 := by rw [hexT_len, s.ht]
  have h2 := rc_l0 hv hp hm ha hc s.par.length 0 ([116, 114, 101, 101, 32] ++ hexT s.tree ++ [10]) (by omega) (by simp only [List.length_append, List.length_cons, List.length_nil]; omega)
  simp only [Int.cast_ofNat_Int, List.drop_zero] at h2
  have e : cmtB s = [116, 114, 101, 101, 32] ++ hexT s.tree ++ [10] ++ parB s.par ++ resB s := by
    rw [cmtB_eq]
    unfold treW
    simp only [List.append_assoc, List.cons_append, List.nil_append]
  rw [S_of fn_ref07_Commit rfl rfl, e]
  generalize hexT s.tree = H at *
  simp only [List.cons_append, List.nil_append, List.length_cons] at h2
  rcases hv with rfl | ⟨h0, rfl⟩
  · simp (dsimp := false) (disch := first | omega | (simp only [LENs] <;> omega) | fail) only [L.ref07_Commit, go_sem, reduceIte, reduceCtorEq, qn0, qn1, qn2, qn3, qn4, qn5, qn6, qn7, qn8, qi0, qi1, qi2, qi3, qi4, qi5, qi6, qi7, qi8, qi9, qi10, BYs, h1, h2]
  · rw [h0] at h2 ⊢
    simp only [List.length_nil, Int.cast_ofNat_Int] at h2
    simp (dsimp := false) (disch := first | omega | (simp only [LENs] <;> omega) | fail) only [L.ref07_Commit, go_sem, reduceIte, reduceCtorEq, qn0, qn1, qn2, qn3, qn4, qn5, qn6, qn7, qn8, qi0, qi1, qi2, qi3, qi4, qi5, qi6, qi7, qi8, qi9, qi10, BYs, h1, h2]
theorem cmt_three (a b : Int) (n i : Bool) : minE [a, b, if n = true then 0 else 3, if i = true then 0 else 3] = minE [a, b, if (!n || !i) = true then 3 else 0] := by
  cases n <;> cases i <;> simp only [minE, List.foldl_cons, List.foldl_nil, Bool.or_true, Bool.or_false, Bool.not_true, Bool.not_false, Bool.true_or, Bool.false_or] <;> generalize lst2 (lst2 0 a) b = w <;> unfold lst2 <;> simp <;> split <;> simp_all <;> omega
theorem go_rcommit {s : Snap} {v : AV} (hv : PV v s.par) (hp : s.par.length ≤ 1000000000) (hm : s.msg.length ≤ 1000000000) (ha : s.aut.name.length ≤ 1000000000) (hb : s.aut.email.length ≤ 1000000000) (hc : s.com.name.length ≤ 1000000000) (hd : s.com.email.length ≤ 1000000000) : S E F.ref07_commit [.agg (snR s.tree v s.aut s.com s.msg)] [] = some (.int .i64 (cmtE s), []) := by
  have ht := s.ht
  have h3 := go_rident (i := s.aut) (by omega) (by omega)
  have h3' := go_rident (i := s.com) (by omega) (by omega)
  have h4 := go_rmessage hm
  have w1 : S E F.ref07_If [.bool (decide (16 < (s.par.length : Int))), .int .i64 2] [] = some (.int .i64 (if decide (16 < (s.par.length : Int)) = true then 2 else 0), []) := go_if
  have w3 : S E F.ref07_If [.bool (!identOK s.aut || !identOK s.com), .int .i64 3] [] = some (.int .i64 (if (!identOK s.aut || !identOK s.com) = true then 3 else 0), []) := go_if
  have hT : cmtE s = minE [if decide (16 < (s.par.length : Int)) = true then 2 else 0, msgE s.msg, if (!identOK s.aut || !identOK s.com) = true then 3 else 0] := cmt_three _ _ _ _
  rw [hT]
  generalize hE : (if (!identOK s.aut || !identOK s.com) = true then (3 : Int) else 0) = ee at *
  generalize hL : (if decide (16 < (s.par.length : Int)) = true then (2 : Int) else 0) = el at *
  have hd := go_rleast3 (a := el) (b := msgE s.msg) (c := ee)
  generalize minE [el, msgE s.msg, ee] = res at *
  generalize msgE s.msg = em at *
  clear hE hT hL
  rw [S_of fn_ref07_commit rfl rfl]
  have hlen : (s.par = [] → w1 = w1) := fun _ => rfl
  have hv' : v = .lst (ids s.par) s.par.length ∨ (s.par.length = 0 ∧ v = .nils) := by
    rcases hv with h | ⟨h, h'⟩
    · exact .inl h
    · exact .inr ⟨by rw [h]; rfl, h'⟩
  clear hlen hv
  rcases hv' with rfl | ⟨h0, rfl⟩ <;> (try (rw [h0] at w1; simp only [Int.cast_ofNat_Int, Int.reduceLT, decide_false] at w1))
  all_goals
    cases c0 : identOK s.aut
    · rw [c0] at w3 h3
      simp only [Bool.not_false, Bool.true_or] at w3
      simp (dsimp := false) (disch := first | omega | (simp only [LENs] <;> omega) | fail) only [L.ref07_commit, go_sem, reduceIte, reduceCtorEq, qn0, qn1, qn2, qn3, qn4, qn5, qn6, qn7, qn8, qi0, qi1, qi2, qi3, qi4, qi5, qi6, qi7, qi8, qi9, qi10, h3, h4, w1, w3, hd, Bool.not_false]
    · rw [c0] at w3 h3
      simp only [Bool.not_true, Bool.false_or] at w3
      cases c1 : identOK s.com
      · rw [c1] at w3 h3'
        simp only [Bool.not_false] at w3
        simp (dsimp := false) (disch := first | omega | (simp only [LENs] <;> omega) | fail) only [L.ref07_commit, go_sem, reduceIte, reduceCtorEq, qn0, qn1, qn2, qn3, qn4, qn5, qn6, qn7, qn8, qi0, qi1, qi2, qi3, qi4, qi5, qi6, qi7, qi8, qi9, qi10, h3, h3', h4, w1, w3, hd, Bool.not_false, Bool.not_true]
      · rw [c1] at w3 h3'
        simp only [Bool.not_true] at w3
        simp (dsimp := false) (disch := first | omega | (simp only [LENs] <;> omega) | fail) only [L.ref07_commit, go_sem, reduceIte, reduceCtorEq, qn0, qn1, qn2, qn3, qn4, qn5, qn6, qn7, qn8, qi0, qi1, qi2, qi3, qi4, qi5, qi6, qi7, qi8, qi9, qi10, h3, h3', h4, w1, w3, hd, Bool.not_false, Bool.not_true]
theorem go_docPutCommit {s : Snap} (hp : s.par.length ≤ 1000000000) (hm : s.msg.length ≤ 1000000000) (ha : s.aut.name.length ≤ 1000000000) (hb : s.aut.email.length ≤ 1000000000) (hc : s.com.name.length ≤ 1000000000) (hd : s.com.email.length ≤ 1000000000) : S E F.ref07_DocPutCommit [.agg s.cells] [] = some (if cmtE s = 0 then putA (cmtB s) 0 else putA [] (cmtE s)) := by
  have ht := s.ht
  have h1 := go_rcommit (v := .lst (ids s.par) s.par.length) (.inl rfl) hp hm ha hb hc hd
  rw [S_of fn_ref07_DocPutCommit rfl rfl]
  rw [sn_cells]
  by_cases he : cmtE s = 0
  · obtain ⟨g1, g2, g3, g4⟩ := cmtE_ok he
    have h2 := go_rCommit (s := s) (v := .lst (ids s.par) s.par.length) (.inl rfl) (by omega) hm g3 g4
    rw [if_pos he]
    rw [he] at h1
    simp (dsimp := false) (disch := first | omega | (simp only [LENs] <;> omega) | fail) only [L.ref07_DocPutCommit, go_sem, reduceIte, reduceCtorEq, qn0, qn1, qn2, qn3, qn4, qn5, qn6, qn7, qn8, qi0, qi1, qi2, qi3, qi4, qi5, qi6, qi7, qi8, qi9, qi10, BYs, h1, h2, putA]
  · rw [if_neg he, putA_nil]
    simp (dsimp := false) (disch := first | omega | (simp only [LENs] <;> omega) | fail) only [L.ref07_DocPutCommit, go_sem, reduceIte, reduceCtorEq, qn0, qn1, qn2, qn3, qn4, qn5, qn6, qn7, qn8, qi0, qi1, qi2, qi3, qi4, qi5, qi6, qi7, qi8, qi9, qi10, BYs, h1, he]
end Cod
namespace Cod
open Go
def cmtV (s : Snap) : AV × Store := if cmtE s = 0 then putA (cmtB s) 0 else (.tup [.nils, .int .i64 (cmtE s)], [])
def SnapOK (s : Snap) : Prop := s.par.length ≤ 1048576 ∧ s.msg.length ≤ 1000000000
structure EnvC (EE : Env) : Prop extends EnvP EE where
  put : ∀ {s : Snap} {v : AV}, PV v s.par → SnapOK s → S EE F.object_PutCommit [.agg (snR s.tree v s.aut s.com s.msg)] [] = some (cmtV s)
def isC (g : Snap) (p : List UInt8) : Bool := decide (cmtE g = 0) && (cmtB g == p)
theorem isC_iff {g : Snap} {p : List UInt8} : isC g p = true ↔ IsCmt p g := by
  unfold isC IsCmt
  rw [Bool.and_eq_true, decide_eq_true_eq, beq_iff_eq]
def noC (e : Int) : AV × Store := (.tup [.agg (snR zeroT .nils zeroI' zeroI' []), .int .i64 e], [])
def yesC (g : Snap) : AV × Store := if g.par = [] then (.tup [.agg (snR g.tree .nils g.aut g.com g.msg), .int .i64 0], []) else (.tup [.agg (snR g.tree (.buf (.r 0) 0 0 g.par.length 32) g.aut g.com g.msg), .int .i64 0], [(.r 0, ⟨0, true, true, false, ids g.par⟩)])
def cmV (g : Snap) (ok : Bool) : AV × Store := if ok = true then yesC g else noC 4
def mkS (d : List UInt8) (ps : List Id32) (a c : Idt) (m : List UInt8) (hd : d.length = 32) : Snap := ⟨d, ps, a, c, m, hd⟩
section
variable {EE : Env} (hE : EnvC EE)
include hE
theorem pc_r0 {p d r : List UInt8} {ps : List Id32} {b : Nat} {v : AV} {σ : Store} (hd : d.length = 32) (hp : p.length ≤ 1048576) (hr : r.length ≤ 1048576) (hb : b ≤ 3) (hps : ps.length ≤ 1048576) (hv : (ps = [] ∧ v = .nils ∧ σ = []) ∨ (ps ≠ [] ∧ v = .buf (.s 1000000 3) 0 0 ps.length 32 ∧ σ = [(.s 1000000 3, ⟨0, true, true, false, ids ps⟩)])) :
    ∃ (g : Snap) (bad : Nat), X EE [.cell 2 (some 42), .tmp 3] [.c L.object_ParseCommit.r0] ⟨[(0, .lst (ofBytes p) p.length), (2, .ref (.s 1000000 0) 0 0), (4, .ref (.s 1000000 1) 0 0), (5, .ref (.s 1000000 2) 0 0), (30, .bool false)], [(.s 1000000 0, ⟨0, true, true, true, snR zeroT .nils zeroI' zeroI' []⟩), (.s 1000000 1, ⟨0, true, true, true, [.str r, .int .i64 (b : Int)]⟩), (.s 1000000 2, ⟨0, true, true, true, snR d v zeroI' zeroI' []⟩)] ++ σ⟩ = some (cmV g (decide (bad = 0) && isC g p)) ∧ b ≤ bad ∧
    ∀ a c m, identOK a = true → identOK c = true → r = autW ++ 32 :: (putI a ++ 10 :: (comW ++ 32 :: (putI c ++ 10 :: (10 :: m)))) → g = mkS d ps a c m hd ∧ bad = b := by
  obtain ⟨i1, r1, b1, n1, e1, q1, u1, v1, s1, y1⟩ := who_ex (rest := r) (w := autW) (bad := b) (by omega) (by decide) (by decide) (by omega)
  obtain ⟨i2, r2, b2, n2, e2, q2, u2, v2, s2, y2⟩ := who_ex (rest := r1) (w := comW) (bad := b1) (by omega) (by decide) (by decide) (by omega)
  obtain ⟨m3, b3, q3, u3, v3, s3, y3⟩ := end_ex (rest := r2) (bad := b2) (by omega) (by omega)
  have hz0 := zeroT_len
  have s1 := fun x => S_ext hE.ext (s1 x)
  have s2 := fun x => S_ext hE.ext (s2 x)
  have s3 := fun x => S_ext hE.ext (s3 x)
  have yes : ∀ a c m, identOK a = true → identOK c = true → r = autW ++ 32 :: (putI a ++ 10 :: (comW ++ 32 :: (putI c ++ 10 :: (10 :: m)))) → i1 = a ∧ i2 = c ∧ m3 = m ∧ b3 = b := by
    intro a c m ha hc e
    obtain ⟨g1, g2, g3⟩ := y1 _ _ ha e
    subst g2
    obtain ⟨f1, f2, f3⟩ := y2 _ _ hc rfl
    subst f2
    obtain ⟨k1, k2⟩ := y3 _ rfl
    exact ⟨g1, f1, k1, by omega⟩
  have hput : ∀ v, PV v ps → S EE F.object_PutCommit [.agg (snR d v i1 i2 m3)] [] = some (cmtV (mkS d ps i1 i2 m3 hd)) := fun v h => hE.put (s := mkS d ps i1 i2 m3 hd) h ⟨hps, by show m3.length ≤ _; omega⟩
  have t1 : cmtE (mkS d ps i1 i2 m3 hd) = 0 → cmtV (mkS d ps i1 i2 m3 hd) = putA (cmtB (mkS d ps i1 i2 m3 hd)) 0 ∧ (cmtB (mkS d ps i1 i2 m3 hd)).length ≤ 80000 := fun h => ⟨if_pos h, cmtB_len h⟩
  have t2 : cmtE (mkS d ps i1 i2 m3 hd) ≠ 0 → cmtV (mkS d ps i1 i2 m3 hd) = (.tup [.nils, .int .i64 (cmtE (mkS d ps i1 i2 m3 hd))], []) := fun h => if_neg h
  refine ⟨mkS d ps i1 i2 m3 hd, b3, ?_, by omega, fun a c m ha hc e => ?_⟩
  · have hy : yesC (mkS d ps i1 i2 m3 hd) = if ps = [] then (.tup [.agg (snR d .nils i1 i2 m3), .int .i64 0], []) else (.tup [.agg (snR d (.buf (.r 0) 0 0 ps.length 32) i1 i2 m3), .int .i64 0], [(.r 0, ⟨0, true, true, false, ids ps⟩)]) := rfl
    unfold putA at t1
    unfold isC cmV noC
    rw [hy]
    clear hy
    generalize cmtB (mkS d ps i1 i2 m3 hd) = tb at *
    generalize cmtE (mkS d ps i1 i2 m3 hd) = te at *
    generalize cmtV (mkS d ps i1 i2 m3 hd) = tv at *
    have c1 : (0 : Int) < (b3 : Int) ∨ b3 = 0 := by omega
    unfold autW at s1
    unfold comW at s2
    have hbt := S_ext hE.ext (ge_equal (a := tb) (b := p) (n := tb.length) (m := p.length) rfl rfl)
    clear yes y1 y2 y3
    rcases hv with ⟨rfl, rfl, rfl⟩ | ⟨hne, rfl, rfl⟩
    · rw [if_pos rfl]
      have hput := hput _ (.inr ⟨rfl, rfl⟩)
      simp only [List.append_nil]
      by_cases hte : te = 0
      · obtain ⟨tg1, t1l⟩ := t1 hte
        subst hte
        rw [tg1] at hput
        rcases c1 with c1 | rfl
        · have hd5 : decide (b3 = 0) = false := by simp; omega
          rw [hd5, Bool.false_and, if_neg (by simp)]
          simp (dsimp := false) (disch := first | omega | (simp only [LENs] <;> omega) | fail) only [L.object_ParseCommit.r0, go_sem, reduceIte, reduceCtorEq, qn0, qn1, qn2, qn3, qn4, qn5, qn6, qn7, qn8, qi0, qi1, qi2, qi3, qi4, qi5, qi6, qi7, qi8, qi9, qi10, BYs, s1, s2, s3, hput, c1, Int.cast_ofNat_Int]
        · simp only [decide_true, Bool.true_and]
          cases hq : (tb == p) with
          | false =>
            rw [hq] at hbt
            rw [if_neg (by simp)]
            simp (dsimp := false) (disch := first | omega | (simp only [LENs] <;> omega) | fail) only [L.object_ParseCommit.r0, go_sem, reduceIte, reduceCtorEq, qn0, qn1, qn2, qn3, qn4, qn5, qn6, qn7, qn8, qi0, qi1, qi2, qi3, qi4, qi5, qi6, qi7, qi8, qi9, qi10, BYs, s1, s2, s3, hput, hbt, Int.cast_ofNat_Int]
          | true =>
            rw [hq] at hbt
            rw [if_pos rfl]
            simp (dsimp := false) (disch := first | omega | (simp only [LENs] <;> omega) | fail) only [L.object_ParseCommit.r0, go_sem, reduceIte, reduceCtorEq, qn0, qn1, qn2, qn3, qn4, qn5, qn6, qn7, qn8, qi0, qi1, qi2, qi3, qi4, qi5, qi6, qi7, qi8, qi9, qi10, BYs, s1, s2, s3, hput, hbt, Int.cast_ofNat_Int]
      · rw [t2 hte] at hput
        have hd5 : decide (te = 0) = false := decide_eq_false hte
        rw [hd5, Bool.false_and, Bool.and_false, if_neg (by simp)]
        rcases c1 with c1 | rfl
        · simp (dsimp := false) (disch := first | omega | (simp only [LENs] <;> omega) | fail) only [L.object_ParseCommit.r0, go_sem, reduceIte, reduceCtorEq, qn0, qn1, qn2, qn3, qn4, qn5, qn6, qn7, qn8, qi0, qi1, qi2, qi3, qi4, qi5, qi6, qi7, qi8, qi9, qi10, BYs, s1, s2, s3, hput, c1, Int.cast_ofNat_Int]
        · simp (dsimp := false) (disch := first | omega | (simp only [LENs] <;> omega) | fail) only [L.object_ParseCommit.r0, go_sem, reduceIte, reduceCtorEq, qn0, qn1, qn2, qn3, qn4, qn5, qn6, qn7, qn8, qi0, qi1, qi2, qi3, qi4, qi5, qi6, qi7, qi8, qi9, qi10, BYs, s1, s2, s3, hput, hte, Int.cast_ofNat_Int]
    · rw [if_neg hne]
      have hput := hput _ (.inl rfl)
      simp only [List.cons_append, List.nil_append]
      by_cases hte : te = 0
      · obtain ⟨tg1, t1l⟩ := t1 hte
        subst hte
        rw [tg1] at hput
        rcases c1 with c1 | rfl
        · have hd5 : decide (b3 = 0) = false := by simp; omega
          rw [hd5, Bool.false_and, if_neg (by simp)]
          simp (dsimp := false) (disch := first | omega | (simp only [LENs] <;> omega) | fail) only [L.object_ParseCommit.r0, go_sem, reduceIte, reduceCtorEq, qn0, qn1, qn2, qn3, qn4, qn5, qn6, qn7, qn8, qi0, qi1, qi2, qi3, qi4, qi5, qi6, qi7, qi8, qi9, qi10, BYs, s1, s2, s3, hput, c1, Int.cast_ofNat_Int]
        · simp only [decide_true, Bool.true_and]
          cases hq : (tb == p) with
          | false =>
            rw [hq] at hbt
            rw [if_neg (by simp)]
            simp (dsimp := false) (disch := first | omega | (simp only [LENs] <;> omega) | fail) only [L.object_ParseCommit.r0, go_sem, reduceIte, reduceCtorEq, qn0, qn1, qn2, qn3, qn4, qn5, qn6, qn7, qn8, qi0, qi1, qi2, qi3, qi4, qi5, qi6, qi7, qi8, qi9, qi10, BYs, s1, s2, s3, hput, hbt, Int.cast_ofNat_Int]
          | true =>
            rw [hq] at hbt
            rw [if_pos rfl]
            simp (dsimp := false) (disch := first | omega | (simp only [LENs] <;> omega) | fail) only [L.object_ParseCommit.r0, go_sem, reduceIte, reduceCtorEq, qn0, qn1, qn2, qn3, qn4, qn5, qn6, qn7, qn8, qi0, qi1, qi2, qi3, qi4, qi5, qi6, qi7, qi8, qi9, qi10, BYs, s1, s2, s3, hput, hbt, Int.cast_ofNat_Int]
      · rw [t2 hte] at hput
        have hd5 : decide (te = 0) = false := decide_eq_false hte
        rw [hd5, Bool.false_and, Bool.and_false, if_neg (by simp)]
        rcases c1 with c1 | rfl
        · simp (dsimp := false) (disch := first | omega | (simp only [LENs] <;> omega) | fail) only [L.object_ParseCommit.r0, go_sem, reduceIte, reduceCtorEq, qn0, qn1, qn2, qn3, qn4, qn5, qn6, qn7, qn8, qi0, qi1, qi2, qi3, qi4, qi5, qi6, qi7, qi8, qi9, qi10, BYs, s1, s2, s3, hput, c1, Int.cast_ofNat_Int]
        · simp (dsimp := false) (disch := first | omega | (simp only [LENs] <;> omega) | fail) only [L.object_ParseCommit.r0, go_sem, reduceIte, reduceCtorEq, qn0, qn1, qn2, qn3, qn4, qn5, qn6, qn7, qn8, qi0, qi1, qi2, qi3, qi4, qi5, qi6, qi7, qi8, qi9, qi10, BYs, s1, s2, s3, hput, hte, Int.cast_ofNat_Int]
  · obtain ⟨rfl, rfl, rfl, e4⟩ := yes a c m ha hc e
    exact ⟨rfl, e4⟩
end
end Cod
namespace Cod
open Go
theorem no_parent {r : List UInt8} : preB (autW ++ 32 :: r) [112, 97, 114, 101, 110, 116, 32] = false := by
  unfold preB autW
  simp
theorem is_parent {r : List UInt8} {d : Id32} {l : List Id32} : preB (parB (d :: l) ++ r) [112, 97, 114, 101, 110, 116, 32] = true := by
  rw [parB_cons, List.append_assoc, List.cons_append]
  have := preB_app [112, 97, 114, 101, 110, 116, 32] ((hexT d.b ++ 10 :: parB l) ++ r)
  exact this
section
variable {EE : Env} (hE : EnvC EE)
include hE
theorem pc_out {p d r : List UInt8} {ps : List Id32} {b : Nat} {v : AV} {σ : Store} (hr : r.length ≤ 1048576) (hv : (ps = [] ∧ v = .nils ∧ σ = []) ∨ (ps ≠ [] ∧ v = .buf (.s 1000000 3) 0 0 (ps).length 32 ∧ σ = [(.s 1000000 3, ⟨0, true, true, false, ids (ps)⟩)])) (h : preB r [112, 97, 114, 101, 110, 116, 32] = false ∨ b ≠ 0) (hd : d.length = 32) :
    X EE [.cell 2 (some 42), .tmp 3] (.c L.object_ParseCommit.x0 :: .lp [0, 2, 4, 5] L.object_ParseCommit.x0 :: .blk 0 :: [.c L.object_ParseCommit.r0]) ⟨[(0, .lst (ofBytes p) p.length), (2, .ref (.s 1000000 0) 0 0), (4, .ref (.s 1000000 1) 0 0), (5, .ref (.s 1000000 2) 0 0)], [(.s 1000000 0, ⟨0, true, true, true, snR zeroT .nils zeroI' zeroI' []⟩), (.s 1000000 1, ⟨0, true, true, true, [.str r, .int .i64 (b : Int)]⟩), (.s 1000000 2, ⟨0, true, true, true, snR d (v) zeroI' zeroI' []⟩)] ++ σ⟩ = X EE [.cell 2 (some 42), .tmp 3] [.c L.object_ParseCommit.r0] ⟨[(0, .lst (ofBytes p) p.length), (2, .ref (.s 1000000 0) 0 0), (4, .ref (.s 1000000 1) 0 0), (5, .ref (.s 1000000 2) 0 0), (30, .bool false)], [(.s 1000000 0, ⟨0, true, true, true, snR zeroT .nils zeroI' zeroI' []⟩), (.s 1000000 1, ⟨0, true, true, true, [.str r, .int .i64 (b : Int)]⟩), (.s 1000000 2, ⟨0, true, true, true, snR d (v) zeroI' zeroI' []⟩)] ++ σ⟩ := by
  have h1 := S_ext hE.ext (go_prefix (s := r) (t := [112, 97, 114, 101, 110, 116, 32]) (by omega) (by decide))
  have h1 : S EE F.strings_HasPrefix [.str r, .str [112, 97, 114, 101, 110, 116, 32]] [] = some (.bool (preB r [112, 97, 114, 101, 110, 116, 32]), []) := h1
  have hz0 := zeroT_len
  rw [X_in L.object_ParseCommit.x0.eq_1]
  cases hp : preB r [112, 97, 114, 101, 110, 116, 32] with
  | false =>
    rw [hp] at h1
    rcases hv with ⟨rfl, rfl, rfl⟩ | ⟨hne, rfl, rfl⟩
    · simp only [List.append_nil]
      simp (dsimp := false) (disch := first | omega | (simp only [LENs] <;> omega) | fail) only [go_sem, reduceIte, reduceCtorEq, qn0, qn1, qn2, qn3, qn4, qn5, qn6, qn7, qn8, qi0, qi1, qi2, qi3, qi4, qi5, qi6, qi7, qi8, qi9, qi10, BYs, h1]
    · simp only [List.cons_append, List.nil_append]
      simp (dsimp := false) (disch := first | omega | (simp only [LENs] <;> omega) | fail) only [go_sem, reduceIte, reduceCtorEq, qn0, qn1, qn2, qn3, qn4, qn5, qn6, qn7, qn8, qi0, qi1, qi2, qi3, qi4, qi5, qi6, qi7, qi8, qi9, qi10, BYs, h1]
  | true =>
    rw [hp] at h1 h
    have hb : b ≠ 0 := h.resolve_left (by simp)
    have hb' : ((b : Int) == 0) = false := by rw [beq_eq_false_iff_ne]; omega
    rcases hv with ⟨rfl, rfl, rfl⟩ | ⟨hne, rfl, rfl⟩
    · simp only [List.append_nil]
      simp (dsimp := false) (disch := first | omega | (simp only [LENs] <;> omega) | fail) only [go_sem, reduceIte, reduceCtorEq, qn0, qn1, qn2, qn3, qn4, qn5, qn6, qn7, qn8, qi0, qi1, qi2, qi3, qi4, qi5, qi6, qi7, qi8, qi9, qi10, BYs, h1, hb']
    · simp only [List.cons_append, List.nil_append]
      simp (dsimp := false) (disch := first | omega | (simp only [LENs] <;> omega) | fail) only [go_sem, reduceIte, reduceCtorEq, qn0, qn1, qn2, qn3, qn4, qn5, qn6, qn7, qn8, qi0, qi1, qi2, qi3, qi4, qi5, qi6, qi7, qi8, qi9, qi10, BYs, h1, hb']
theorem pc_in {p d r r' e : List UInt8} {ps : List Id32} {b' : Nat} {v : AV} {σ : Store} (hr : r.length ≤ 1048576) (hps : ps.length ≤ 1048576) (hv : (ps = [] ∧ v = .nils ∧ σ = []) ∨ (ps ≠ [] ∧ v = .buf (.s 1000000 3) 0 0 (ps).length 32 ∧ σ = [(.s 1000000 3, ⟨0, true, true, false, ids (ps)⟩)])) (h : preB r [112, 97, 114, 101, 110, 116, 32] = true) (hd : d.length = 32) (he : e.length = 32)
    (hid : ∀ x : Site, S E F.object_lines_id [.ref (.up x) 0 0, .str [112, 97, 114, 101, 110, 116]] [(.up x, ⟨0, true, true, true, [.str r, .int .i64 0]⟩)] = some (.agg (ofBytes e), [(.up x, ⟨0, true, true, true, [.str r', .int .i64 (b' : Int)]⟩)])) :
    X EE [.cell 2 (some 42), .tmp 3] (.c L.object_ParseCommit.x0 :: .lp [0, 2, 4, 5] L.object_ParseCommit.x0 :: .blk 0 :: [.c L.object_ParseCommit.r0]) ⟨[(0, .lst (ofBytes p) p.length), (2, .ref (.s 1000000 0) 0 0), (4, .ref (.s 1000000 1) 0 0), (5, .ref (.s 1000000 2) 0 0)], [(.s 1000000 0, ⟨0, true, true, true, snR zeroT .nils zeroI' zeroI' []⟩), (.s 1000000 1, ⟨0, true, true, true, [.str r, .int .i64 0]⟩), (.s 1000000 2, ⟨0, true, true, true, snR d (v) zeroI' zeroI' []⟩)] ++ σ⟩ = X EE [.cell 2 (some 42), .tmp 3] (.c L.object_ParseCommit.x0 :: .lp [0, 2, 4, 5] L.object_ParseCommit.x0 :: .blk 0 :: [.c L.object_ParseCommit.r0]) ⟨[(0, .lst (ofBytes p) p.length), (2, .ref (.s 1000000 0) 0 0), (4, .ref (.s 1000000 1) 0 0), (5, .ref (.s 1000000 2) 0 0)], [(.s 1000000 0, ⟨0, true, true, true, snR zeroT .nils zeroI' zeroI' []⟩), (.s 1000000 1, ⟨0, true, true, true, [.str r', .int .i64 (b' : Int)]⟩), (.s 1000000 2, ⟨0, true, true, true, snR d (.buf (.s 1000000 3) 0 0 (ps ++ [mkI e]).length 32) zeroI' zeroI' []⟩)] ++ [(.s 1000000 3, ⟨0, true, true, false, ids (ps ++ [mkI e])⟩)]⟩ := by
  have h1 := S_ext hE.ext (go_prefix (s := r) (t := [112, 97, 114, 101, 110, 116, 32]) (by omega) (by decide))
  have h1 : S EE F.strings_HasPrefix [.str r, .str [112, 97, 114, 101, 110, 116, 32]] [] = some (.bool (preB r [112, 97, 114, 101, 110, 116, 32]), []) := h1
  have hz0 := zeroT_len
  rw [h] at h1
  have h2 := fun x => S_ext hE.ext (hid x)
  have ho : over (ofBytes (List.replicate 32 0)) 0 (ofBytes e) = ofBytes e := over_ofBytes_all (by rw [he]; simp)
  have hsn : ids ps ++ ofBytes e = ids (ps ++ [mkI e]) := by
    have := ids_snoc ps (mkI e)
    rw [mkI_b he] at this
    exact this
  have hln : (ps ++ [mkI e]).length = ps.length + 1 := by simp
  conv => lhs; rw [X_in L.object_ParseCommit.x0.eq_1]
  rcases hv with ⟨rfl, rfl, rfl⟩ | ⟨hne, rfl, rfl⟩
  · rw [ids_nil, List.nil_append, List.nil_append] at hsn
    simp only [List.append_nil, List.cons_append, List.nil_append, ← hsn]
    simp (dsimp := false) (disch := first | omega | (simp only [LENs] <;> omega) | fail) only [go_sem, reduceIte, reduceCtorEq, qn0, qn1, qn2, qn3, qn4, qn5, qn6, qn7, qn8, qi0, qi1, qi2, qi3, qi4, qi5, qi6, qi7, qi8, qi9, qi10, BYs, h1, h2, ho, he, List.length_replicate]
  · simp only [List.cons_append, List.nil_append, hln]
    simp (dsimp := false) (disch := first | omega | (simp only [LENs] <;> omega) | fail) only [go_sem, reduceIte, reduceCtorEq, qn0, qn1, qn2, qn3, qn4, qn5, qn6, qn7, qn8, qi0, qi1, qi2, qi3, qi4, qi5, qi6, qi7, qi8, qi9, qi10, BYs, h1, h2, ho, he, hsn, List.length_replicate]
end
end Cod
namespace Cod
open Go
section
variable {EE : Env} (hE : EnvC EE)
include hE
theorem pc_loop {p d : List UInt8} (hd : d.length = 32) (hp : p.length ≤ 1048576) : ∀ (m : Nat) (r : List UInt8) (ps : List Id32) (b : Nat) (v : AV) (σ : Store), r.length ≤ m → r.length ≤ 1048576 → ps.length + r.length ≤ 1048576 → b ≤ 2 → ((ps = [] ∧ v = .nils ∧ σ = []) ∨ (ps ≠ [] ∧ v = .buf (.s 1000000 3) 0 0 (ps).length 32 ∧ σ = [(.s 1000000 3, ⟨0, true, true, false, ids (ps)⟩)])) →
    ∃ (g : Snap) (bad : Nat), X EE [.cell 2 (some 42), .tmp 3] (.c L.object_ParseCommit.x0 :: .lp [0, 2, 4, 5] L.object_ParseCommit.x0 :: .blk 0 :: [.c L.object_ParseCommit.r0]) ⟨[(0, .lst (ofBytes p) p.length), (2, .ref (.s 1000000 0) 0 0), (4, .ref (.s 1000000 1) 0 0), (5, .ref (.s 1000000 2) 0 0)], [(.s 1000000 0, ⟨0, true, true, true, snR zeroT .nils zeroI' zeroI' []⟩), (.s 1000000 1, ⟨0, true, true, true, [.str r, .int .i64 (b : Int)]⟩), (.s 1000000 2, ⟨0, true, true, true, snR d (v) zeroI' zeroI' []⟩)] ++ σ⟩ = some (cmV g (decide (bad = 0) && isC g p)) ∧ ∀ qs a c m, identOK a = true → identOK c = true → b = 0 → r = parB qs ++ (autW ++ 32 :: (putI a ++ 10 :: (comW ++ 32 :: (putI c ++ 10 :: (10 :: m))))) → g = mkS d (ps ++ qs) a c m hd ∧ bad = 0 := by
  intro m
  induction m with
  | zero =>
    intro r ps b v σ hm hr hpr hb hv
    obtain rfl : r = [] := List.eq_nil_of_length_eq_zero (by omega)
    obtain ⟨g, bad, h1, h2, h3⟩ := pc_r0 hE (p := p) (d := d) (r := []) (ps := ps) (b := b) hd hp hr (by omega) (by omega) hv
    refine ⟨g, bad, ?_, fun qs a c m ha hc hb0 e => ?_⟩
    · rw [pc_out hE hr hv (.inl rfl) hd]; exact h1
    · have := congrArg List.length e
      simp only [List.length_append, List.length_cons, List.length_nil] at this
      omega
  | succ m ih =>
    intro r ps b v σ hm hr hpr hb hv
    by_cases hex : preB r [112, 97, 114, 101, 110, 116, 32] = false ∨ b ≠ 0
    · obtain ⟨g, bad, h1, h2, h3⟩ := pc_r0 hE (p := p) (d := d) (r := r) (ps := ps) (b := b) hd hp hr (by omega) (by omega) hv
      refine ⟨g, bad, ?_, fun qs a c m ha hc hb0 e => ?_⟩
      · rw [pc_out hE hr hv hex hd]; exact h1
      · have hpf := hex.resolve_right (fun h => h hb0)
        cases qs with
        | nil =>
          rw [parB_nil, List.nil_append] at e
          obtain ⟨k1, k2⟩ := h3 a c m ha hc e
          rw [List.append_nil]
          exact ⟨k1, by omega⟩
        | cons q qs =>
          rw [e, is_parent] at hpf
          cases hpf
    · have hpt : preB r [112, 97, 114, 101, 110, 116, 32] = true := by
        cases hq : preB r [112, 97, 114, 101, 110, 116, 32] with
        | false => exact absurd (.inl hq) hex
        | true => rfl
      obtain rfl : b = 0 := by
        apply Classical.byContradiction
        intro hn
        exact hex (.inr hn)
      have hlen : 7 ≤ r.length := by
        unfold preB at hpt
        simp only [Bool.and_eq_true, decide_eq_true_eq] at hpt
        exact hpt.1
      obtain ⟨e, r', b', he, q1, u1, v1, s1, pr, y1⟩ := idl_ex (rest := r) (w := parW) (bad := 0) (by omega) (by decide) (by decide) (by omega)
      have hin := pc_in hE (p := p) (d := d) (r := r) (r' := r') (e := e) (ps := ps) (b' := b') hr (by omega) hv hpt hd he s1
      have hv' : ((ps ++ [mkI e]) = [] ∧ (AV.buf (.s 1000000 3) 0 0 (ps ++ [mkI e]).length 32) = .nils ∧ ([(.s 1000000 3, ⟨0, true, true, false, ids (ps ++ [mkI e])⟩)] : Store) = []) ∨ ((ps ++ [mkI e]) ≠ [] ∧ (AV.buf (.s 1000000 3) 0 0 (ps ++ [mkI e]).length 32) = .buf (.s 1000000 3) 0 0 ((ps ++ [mkI e])).length 32 ∧ ([(.s 1000000 3, ⟨0, true, true, false, ids (ps ++ [mkI e])⟩)] : Store) = [(.s 1000000 3, ⟨0, true, true, false, ids ((ps ++ [mkI e]))⟩)]) := .inr ⟨by simp, rfl, rfl⟩
      have hl1 : (ps ++ [mkI e]).length = ps.length + 1 := by simp
      by_cases hb' : b' = 0
      · obtain ⟨g, bad, h1, h2⟩ := ih r' (ps ++ [mkI e]) b' _ _ (by have := pr hb'; omega) (by omega) (by have := pr hb'; omega) (by omega) hv'
        refine ⟨g, bad, hin.trans h1, fun qs a c m ha hc hb0 e0 => ?_⟩
        cases qs with
        | nil =>
          rw [e0, parB_nil, List.nil_append, no_parent] at hpt
          cases hpt
        | cons q qs =>
          rw [parB_cons, List.append_assoc, List.cons_append, List.append_assoc, List.cons_append] at e0
          obtain ⟨k1, k2, k3⟩ := y1 _ _ q.h e0
          obtain ⟨j1, j2⟩ := h2 qs a c m ha hc k3 k2
          refine ⟨?_, j2⟩
          rw [j1, k1, mkI_self, List.append_assoc]
          rfl
      · obtain ⟨g, bad, h1, h2, h3⟩ := pc_r0 hE (p := p) (d := d) (r := r') (ps := ps ++ [mkI e]) (b := b') hd hp (by omega) (by omega) (by omega) hv'
        refine ⟨g, bad, ?_, fun qs a c m ha hc hb0 e0 => ?_⟩
        · exact hin.trans ((pc_out hE (by omega) hv' (.inr hb') hd).trans h1)
        · cases qs with
          | nil =>
            rw [e0, parB_nil, List.nil_append, no_parent] at hpt
            cases hpt
          | cons q qs =>
            rw [parB_cons, List.append_assoc, List.cons_append, List.append_assoc, List.cons_append] at e0
            exact absurd (y1 _ _ q.h e0).2.2 hb'
theorem go_parseCommit {p : List UInt8} {n : Nat} (hn : n = p.length) (hp : p.length ≤ 1048576) : ∃ (g : Snap) (bad : Nat), S EE F.object_ParseCommit [.lst (ofBytes p) n] [] = some (cmV g (decide (bad = 0) && isC g p)) ∧ ∀ s, IsCmt p s → g = s ∧ bad = 0 := by
  subst hn
  obtain ⟨d, r, b, hd, q1, u1, v1, s1, _, y1⟩ := idl_ex (rest := p) (w := treW) (bad := 0) (by omega) (by decide) (by decide) (by omega)
  obtain ⟨g, bad, h1, h2⟩ := pc_loop hE (p := p) (d := d) hd hp r.length r [] b _ _ (Nat.le_refl _) (by omega) (by simp only [List.length_nil]; omega) (by omega) (.inl ⟨rfl, rfl, rfl⟩)
  refine ⟨g, bad, ?_, fun s hs => ?_⟩
  · rw [← h1]
    have s1 := fun x => S_ext hE.ext (s1 x)
    unfold treW at s1
    have hz0 := zeroT_len
    rw [hE.S_of fn_object_ParseCommit rfl rfl]
    simp only [List.append_nil, Int.cast_ofNat_Int] at s1 ⊢
    simp (dsimp := false) (disch := first | omega | (simp only [LENs] <;> omega) | fail) only [L.object_ParseCommit, go_sem, reduceIte, reduceCtorEq, qn0, qn1, qn2, qn3, qn4, qn5, qn6, qn7, qn8, qi0, qi1, qi2, qi3, qi4, qi5, qi6, qi7, qi8, qi9, qi10, BYs, s1]
  · obtain ⟨e1, e2⟩ := hs
    obtain ⟨w1, w2, w3, w4⟩ := cmtE_ok e1
    rw [cmt_form] at e2
    obtain ⟨k1, k2, k3⟩ := y1 _ _ s.ht e2.symm
    obtain ⟨j1, j2⟩ := h2 s.par s.aut s.com s.msg w3 w4 k3 k2
    refine ⟨?_, j2⟩
    rw [j1]
    subst k1
    rfl
theorem go_parseCommit_long {p : List UInt8} {n : Nat} (hn : n = p.length) (hp : 1048576 < p.length) (hb : p.length ≤ 1000000000000) : S EE F.object_ParseCommit [.lst (ofBytes p) n] [] = some (noC 2) := by
  subst hn
  have hz0 := zeroT_len
  rw [hE.S_of fn_object_ParseCommit rfl rfl]
  unfold noC
  simp (dsimp := false) (disch := first | omega | (simp only [LENs] <;> omega) | fail) only [L.object_ParseCommit, go_sem, reduceIte, reduceCtorEq, qn0, qn1, qn2, qn3, qn4, qn5, qn6, qn7, qn8, qi0, qi1, qi2, qi3, qi4, qi5, qi6, qi7, qi8, qi9, qi10, BYs]
end
end Cod
namespace Cod
open Go
theorem rq_r0 {p d t : List UInt8} {ps : List Id32} {i : Nat} {v : AV} {σ : Store} {ex : List (Nat × AV)} (hex : (ex = [(37, .bool false)] ∨ ∃ v r, ex = [(37, .bool true), (9, .str v), (10, .str r), (11, .bool false), (47, .bool true)])) (hd : d.length = 32) (hp : p.length ≤ 1048576) (ht : t.length ≤ 1048576) (hps : ps.length ≤ 17) (hv : (ps = [] ∧ v = .nils ∧ σ = []) ∨ (ps ≠ [] ∧ v = .buf (.s 1000000 2) 0 0 (ps).length 32 ∧ σ = [(.s 1000000 2, ⟨0, true, true, false, ids (ps)⟩)])) :
    ∃ (g : Snap) (ok : Bool), X E [.cell 2 (some 42), .tmp 3] [.c L.ref07_DocParseCommit.r0] ⟨[(0, .lst (ofBytes p) p.length), (2, .ref (.s 1000000 0) 0 0), (4, .ref (.s 1000000 1) 0 0), (6, .str t), (8, .int .i64 (i : Int))] ++ ex, [(.s 1000000 0, ⟨0, true, true, true, snR zeroT .nils zeroI' zeroI' []⟩), (.s 1000000 1, ⟨0, true, true, true, snR d (v) zeroI' zeroI' []⟩)] ++ σ⟩ = some (cmV g (ok && isC g p)) ∧
    ∀ a c m, identOK a = true → identOK c = true → t = autW ++ 32 :: (putI a ++ 10 :: (comW ++ 32 :: (putI c ++ 10 :: (10 :: m)))) → ok = true ∧ g = mkS d ps a c m hd := by
  obtain ⟨v1, r1, o1, a1, c1, s1, _, y1⟩ := rline_ex (t := t) (w := autW) (by omega) (by decide)
  obtain ⟨v2, r2, o2, a2, c2, s2, _, y2⟩ := rline_ex (t := r1) (w := comW) (by omega) (by decide)
  have hz0 := zeroT_len
  have yes : ∀ a c m, identOK a = true → identOK c = true → t = autW ++ 32 :: (putI a ++ 10 :: (comW ++ 32 :: (putI c ++ 10 :: (10 :: m)))) → v1 = putI a ∧ v2 = putI c ∧ r2 = 10 :: m ∧ o1 = true ∧ o2 = true := by
    intro a c m ha hc e
    obtain ⟨g1, g2, g3⟩ := y1 _ _ e (put_no10 ha)
    subst g2
    obtain ⟨f1, f2, f3⟩ := y2 _ _ rfl (put_no10 hc)
    exact ⟨g1, f1, f2, g3, f3⟩
  unfold autW at s1
  unfold comW at s2
  clear y1 y2
  by_cases hbad : o1 = true ∧ o2 = true ∧ r2 ≠ []
  · obtain ⟨rfl, rfl, hne⟩ := hbad
    obtain ⟨i1, e1, n1, n1', s5, y5⟩ := rwho_ex (v := v1) (by omega)
    obtain ⟨i2, e2, n2, n2', s6, y6⟩ := rwho_ex (v := v2) (by omega)
    have hpos : 1 ≤ r2.length := by cases r2 with | nil => exact absurd rfl hne | cons => simp
    have hm : (r2.drop 1).length ≤ t.length := by rw [List.length_drop]; omega
    refine ⟨mkS d ps i1 i2 (r2.drop 1) hd, true, ?_, fun a c m ha hc e => ?_⟩
    · have hne' : (r2 == []) = false := by cases r2 with | nil => exact absurd rfl hne | cons => rfl
      have hsb : sub r2 1 (r2.length - 1) = r2.drop 1 := sub_drop (by omega)
      have b1 : ∀ v, PV v ps → S E F.ref07_commit [.agg (snR d v i1 i2 (r2.drop 1))] [] = some (.int .i64 (cmtE (mkS d ps i1 i2 (r2.drop 1) hd)), []) := fun v h => go_rcommit (s := mkS d ps i1 i2 (r2.drop 1) hd) h (by show ps.length ≤ _; omega) (by show (r2.drop 1).length ≤ _; omega) (by show i1.name.length ≤ _; omega) (by show i1.email.length ≤ _; omega) (by show i2.name.length ≤ _; omega) (by show i2.email.length ≤ _; omega)
      have b2 : cmtE (mkS d ps i1 i2 (r2.drop 1) hd) = 0 → (∀ v, PV v ps → S E F.ref07_Commit [.agg (snR d v i1 i2 (r2.drop 1))] [] = some (.buf (.r 0) 0 0 (cmtB (mkS d ps i1 i2 (r2.drop 1) hd)).length 1, [(.r 0, ⟨0, true, true, false, ofBytes (cmtB (mkS d ps i1 i2 (r2.drop 1) hd))⟩)])) ∧ (cmtB (mkS d ps i1 i2 (r2.drop 1) hd)).length ≤ 80000 := fun h => ⟨fun v hv => go_rCommit (s := mkS d ps i1 i2 (r2.drop 1) hd) hv (by show ps.length ≤ _; omega) (by show (r2.drop 1).length ≤ _; omega) (cmtE_ok h).2.2.1 (cmtE_ok h).2.2.2, cmtB_len h⟩
      have hy : yesC (mkS d ps i1 i2 (r2.drop 1) hd) = if ps = [] then (.tup [.agg (snR d .nils i1 i2 (r2.drop 1)), .int .i64 0], []) else (.tup [.agg (snR d (.buf (.r 0) 0 0 ps.length 32) i1 i2 (r2.drop 1)), .int .i64 0], [(.r 0, ⟨0, true, true, false, ids ps⟩)]) := rfl
      unfold isC cmV noC
      rw [hy]
      clear hy yes y5 y6
      generalize cmtB (mkS d ps i1 i2 (r2.drop 1) hd) = tb at *
      generalize cmtE (mkS d ps i1 i2 (r2.drop 1) hd) = te at *
      simp only [Bool.true_and]
      have hbe := ge_same (a := tb) (b := p) (n := tb.length) (m := p.length) rfl rfl
      rcases hv with ⟨rfl, rfl, rfl⟩ | ⟨hne2, rfl, rfl⟩
      · rw [if_pos rfl]
        have b1 := b1 _ (.inr ⟨rfl, rfl⟩)
        simp only [List.append_nil]
        by_cases hte : te = 0
        · obtain ⟨b3, b4⟩ := b2 hte
          have b3 := b3 _ (.inr ⟨rfl, rfl⟩)
          subst hte
          simp only [decide_true, Bool.true_and]
          cases hq : (tb == p)
          · rw [hq] at hbe
            rw [if_neg (by simp)]
            rcases hex with rfl | ⟨_, _, rfl⟩
            · simp only [List.cons_append, List.nil_append]
              simp (dsimp := false) (disch := first | omega | (simp only [LENs] <;> omega) | fail) only [L.ref07_DocParseCommit.r0, go_sem, reduceIte, reduceCtorEq, qn0, qn1, qn2, qn3, qn4, qn5, qn6, qn7, qn8, qi0, qi1, qi2, qi3, qi4, qi5, qi6, qi7, qi8, qi9, qi10, BYs, s1, s2, s5, s6, hne', hsb, b1, b3, hbe]
            · simp only [List.cons_append, List.nil_append]
              simp (dsimp := false) (disch := first | omega | (simp only [LENs] <;> omega) | fail) only [L.ref07_DocParseCommit.r0, go_sem, reduceIte, reduceCtorEq, qn0, qn1, qn2, qn3, qn4, qn5, qn6, qn7, qn8, qi0, qi1, qi2, qi3, qi4, qi5, qi6, qi7, qi8, qi9, qi10, BYs, s1, s2, s5, s6, hne', hsb, b1, b3, hbe]
          · rw [hq] at hbe
            rw [if_pos rfl]
            rcases hex with rfl | ⟨_, _, rfl⟩
            · simp only [List.cons_append, List.nil_append]
              simp (dsimp := false) (disch := first | omega | (simp only [LENs] <;> omega) | fail) only [L.ref07_DocParseCommit.r0, go_sem, reduceIte, reduceCtorEq, qn0, qn1, qn2, qn3, qn4, qn5, qn6, qn7, qn8, qi0, qi1, qi2, qi3, qi4, qi5, qi6, qi7, qi8, qi9, qi10, BYs, s1, s2, s5, s6, hne', hsb, b1, b3, hbe]
            · simp only [List.cons_append, List.nil_append]
              simp (dsimp := false) (disch := first | omega | (simp only [LENs] <;> omega) | fail) only [L.ref07_DocParseCommit.r0, go_sem, reduceIte, reduceCtorEq, qn0, qn1, qn2, qn3, qn4, qn5, qn6, qn7, qn8, qi0, qi1, qi2, qi3, qi4, qi5, qi6, qi7, qi8, qi9, qi10, BYs, s1, s2, s5, s6, hne', hsb, b1, b3, hbe]
        · have hd5 : decide (te = 0) = false := decide_eq_false hte
          rw [hd5, Bool.false_and, if_neg (by simp)]
          rcases hex with rfl | ⟨_, _, rfl⟩
          · simp only [List.cons_append, List.nil_append]
            simp (dsimp := false) (disch := first | omega | (simp only [LENs] <;> omega) | fail) only [L.ref07_DocParseCommit.r0, go_sem, reduceIte, reduceCtorEq, qn0, qn1, qn2, qn3, qn4, qn5, qn6, qn7, qn8, qi0, qi1, qi2, qi3, qi4, qi5, qi6, qi7, qi8, qi9, qi10, BYs, s1, s2, s5, s6, hne', hsb, b1, hte]
          · simp only [List.cons_append, List.nil_append]
            simp (dsimp := false) (disch := first | omega | (simp only [LENs] <;> omega) | fail) only [L.ref07_DocParseCommit.r0, go_sem, reduceIte, reduceCtorEq, qn0, qn1, qn2, qn3, qn4, qn5, qn6, qn7, qn8, qi0, qi1, qi2, qi3, qi4, qi5, qi6, qi7, qi8, qi9, qi10, BYs, s1, s2, s5, s6, hne', hsb, b1, hte]
      · rw [if_neg hne2]
        have b1 := b1 _ (.inl rfl)
        by_cases hte : te = 0
        · obtain ⟨b3, b4⟩ := b2 hte
          have b3 := b3 _ (.inl rfl)
          subst hte
          simp only [decide_true, Bool.true_and]
          cases hq : (tb == p)
          · rw [hq] at hbe
            rw [if_neg (by simp)]
            rcases hex with rfl | ⟨_, _, rfl⟩
            · simp only [List.cons_append, List.nil_append]
              simp (dsimp := false) (disch := first | omega | (simp only [LENs] <;> omega) | fail) only [L.ref07_DocParseCommit.r0, go_sem, reduceIte, reduceCtorEq, qn0, qn1, qn2, qn3, qn4, qn5, qn6, qn7, qn8, qi0, qi1, qi2, qi3, qi4, qi5, qi6, qi7, qi8, qi9, qi10, BYs, s1, s2, s5, s6, hne', hsb, b1, b3, hbe]
            · simp only [List.cons_append, List.nil_append]
              simp (dsimp := false) (disch := first | omega | (simp only [LENs] <;> omega) | fail) only [L.ref07_DocParseCommit.r0, go_sem, reduceIte, reduceCtorEq, qn0, qn1, qn2, qn3, qn4, qn5, qn6, qn7, qn8, qi0, qi1, qi2, qi3, qi4, qi5, qi6, qi7, qi8, qi9, qi10, BYs, s1, s2, s5, s6, hne', hsb, b1, b3, hbe]
          · rw [hq] at hbe
            rw [if_pos rfl]
            rcases hex with rfl | ⟨_, _, rfl⟩
            · simp only [List.cons_append, List.nil_append]
              simp (dsimp := false) (disch := first | omega | (simp only [LENs] <;> omega) | fail) only [L.ref07_DocParseCommit.r0, go_sem, reduceIte, reduceCtorEq, qn0, qn1, qn2, qn3, qn4, qn5, qn6, qn7, qn8, qi0, qi1, qi2, qi3, qi4, qi5, qi6, qi7, qi8, qi9, qi10, BYs, s1, s2, s5, s6, hne', hsb, b1, b3, hbe]
            · simp only [List.cons_append, List.nil_append]
              simp (dsimp := false) (disch := first | omega | (simp only [LENs] <;> omega) | fail) only [L.ref07_DocParseCommit.r0, go_sem, reduceIte, reduceCtorEq, qn0, qn1, qn2, qn3, qn4, qn5, qn6, qn7, qn8, qi0, qi1, qi2, qi3, qi4, qi5, qi6, qi7, qi8, qi9, qi10, BYs, s1, s2, s5, s6, hne', hsb, b1, b3, hbe]
        · have hd5 : decide (te = 0) = false := decide_eq_false hte
          rw [hd5, Bool.false_and, if_neg (by simp)]
          rcases hex with rfl | ⟨_, _, rfl⟩
          · simp only [List.cons_append, List.nil_append]
            simp (dsimp := false) (disch := first | omega | (simp only [LENs] <;> omega) | fail) only [L.ref07_DocParseCommit.r0, go_sem, reduceIte, reduceCtorEq, qn0, qn1, qn2, qn3, qn4, qn5, qn6, qn7, qn8, qi0, qi1, qi2, qi3, qi4, qi5, qi6, qi7, qi8, qi9, qi10, BYs, s1, s2, s5, s6, hne', hsb, b1, hte]
          · simp only [List.cons_append, List.nil_append]
            simp (dsimp := false) (disch := first | omega | (simp only [LENs] <;> omega) | fail) only [L.ref07_DocParseCommit.r0, go_sem, reduceIte, reduceCtorEq, qn0, qn1, qn2, qn3, qn4, qn5, qn6, qn7, qn8, qi0, qi1, qi2, qi3, qi4, qi5, qi6, qi7, qi8, qi9, qi10, BYs, s1, s2, s5, s6, hne', hsb, b1, hte]
    · obtain ⟨g1, g2, g3, _⟩ := yes a c m ha hc e
      have z1 := y5 _ ha g1
      have z2 := y6 _ hc g2
      subst z1 z2
      rw [g3]
      exact ⟨rfl, rfl⟩
  · refine ⟨mkS d ps zeroI' zeroI' [] hd, false, ?_, fun a c m ha hc e => ?_⟩
    · unfold cmV noC
      rw [Bool.false_and, if_neg (by simp)]
      have hr : o1 = true → o2 = true → (r2 == []) = true := by
        intro h1 h2
        cases r2 with
        | nil => rfl
        | cons a t => exact absurd ⟨h1, h2, by simp⟩ hbad
      rcases hv with ⟨rfl, rfl, rfl⟩ | ⟨hne2, rfl, rfl⟩ <;> rcases hex with rfl | ⟨_, _, rfl⟩ <;> simp only [List.cons_append, List.nil_append, List.append_nil] <;> cases o1
      all_goals first | (simp (dsimp := false) (disch := first | omega | (simp only [LENs] <;> omega) | fail) only [L.ref07_DocParseCommit.r0, go_sem, reduceIte, reduceCtorEq, qn0, qn1, qn2, qn3, qn4, qn5, qn6, qn7, qn8, qi0, qi1, qi2, qi3, qi4, qi5, qi6, qi7, qi8, qi9, qi10, BYs, s1, s2, Bool.not_false, Bool.not_true]; done) | skip
      all_goals cases o2
      all_goals first | (simp (dsimp := false) (disch := first | omega | (simp only [LENs] <;> omega) | fail) only [L.ref07_DocParseCommit.r0, go_sem, reduceIte, reduceCtorEq, qn0, qn1, qn2, qn3, qn4, qn5, qn6, qn7, qn8, qi0, qi1, qi2, qi3, qi4, qi5, qi6, qi7, qi8, qi9, qi10, BYs, s1, s2, Bool.not_false, Bool.not_true]; done) | skip
      all_goals
        have hr := hr rfl rfl
        simp (dsimp := false) (disch := first | omega | (simp only [LENs] <;> omega) | fail) only [L.ref07_DocParseCommit.r0, go_sem, reduceIte, reduceCtorEq, qn0, qn1, qn2, qn3, qn4, qn5, qn6, qn7, qn8, qi0, qi1, qi2, qi3, qi4, qi5, qi6, qi7, qi8, qi9, qi10, BYs, s1, s2, Bool.not_false, Bool.not_true, hr]
    · obtain ⟨g1, g2, g3, g4, g5⟩ := yes a c m ha hc e
      exact absurd ⟨g4, g5, by rw [g3]; simp⟩ hbad
end Cod
namespace Cod
open Go
theorem rq_end {p d t : List UInt8} {ps : List Id32} {v : AV} {σ : Store} (hv : (ps = [] ∧ v = .nils ∧ σ = []) ∨ (ps ≠ [] ∧ v = .buf (.s 1000000 2) 0 0 (ps).length 32 ∧ σ = [(.s 1000000 2, ⟨0, true, true, false, ids (ps)⟩)])) (hd : d.length = 32) :
    X E [.cell 2 (some 42), .tmp 3] (.c L.ref07_DocParseCommit.x0 :: .lp [0, 2, 4, 6, 8] L.ref07_DocParseCommit.x0 :: .blk 0 :: [.c L.ref07_DocParseCommit.r0]) ⟨[(0, .lst (ofBytes p) p.length), (2, .ref (.s 1000000 0) 0 0), (4, .ref (.s 1000000 1) 0 0), (6, .str t), (8, .int .i64 17)], [(.s 1000000 0, ⟨0, true, true, true, snR zeroT .nils zeroI' zeroI' []⟩), (.s 1000000 1, ⟨0, true, true, true, snR d (v) zeroI' zeroI' []⟩)] ++ σ⟩ = X E [.cell 2 (some 42), .tmp 3] [.c L.ref07_DocParseCommit.r0] ⟨[(0, .lst (ofBytes p) p.length), (2, .ref (.s 1000000 0) 0 0), (4, .ref (.s 1000000 1) 0 0), (6, .str t), (8, .int .i64 17)] ++ [(37, .bool false)], [(.s 1000000 0, ⟨0, true, true, true, snR zeroT .nils zeroI' zeroI' []⟩), (.s 1000000 1, ⟨0, true, true, true, snR d (v) zeroI' zeroI' []⟩)] ++ σ⟩ := by
  have hz0 := zeroT_len
  rw [X_in L.ref07_DocParseCommit.x0.eq_1]
  rcases hv with ⟨rfl, rfl, rfl⟩ | ⟨hne, rfl, rfl⟩
  · simp only [List.append_nil, List.cons_append, List.nil_append]
    simp (dsimp := false) (disch := first | omega | (simp only [LENs] <;> omega) | fail) only [go_sem, reduceIte, reduceCtorEq, qn0, qn1, qn2, qn3, qn4, qn5, qn6, qn7, qn8, qi0, qi1, qi2, qi3, qi4, qi5, qi6, qi7, qi8, qi9, qi10, BYs]
  · simp only [List.cons_append, List.nil_append]
    simp (dsimp := false) (disch := first | omega | (simp only [LENs] <;> omega) | fail) only [go_sem, reduceIte, reduceCtorEq, qn0, qn1, qn2, qn3, qn4, qn5, qn6, qn7, qn8, qi0, qi1, qi2, qi3, qi4, qi5, qi6, qi7, qi8, qi9, qi10, BYs]
theorem rq_out {p d t v1 r1 : List UInt8} {ps : List Id32} {i : Nat} {v : AV} {σ : Store} (hv : (ps = [] ∧ v = .nils ∧ σ = []) ∨ (ps ≠ [] ∧ v = .buf (.s 1000000 2) 0 0 (ps).length 32 ∧ σ = [(.s 1000000 2, ⟨0, true, true, false, ids (ps)⟩)])) (hd : d.length = 32) (hi : i ≤ 16) (h : S E F.ref07_line [.str t, .str [112, 97, 114, 101, 110, 116]] [] = some (.tup [.str v1, .str r1, .bool false], [])) :
    X E [.cell 2 (some 42), .tmp 3] (.c L.ref07_DocParseCommit.x0 :: .lp [0, 2, 4, 6, 8] L.ref07_DocParseCommit.x0 :: .blk 0 :: [.c L.ref07_DocParseCommit.r0]) ⟨[(0, .lst (ofBytes p) p.length), (2, .ref (.s 1000000 0) 0 0), (4, .ref (.s 1000000 1) 0 0), (6, .str t), (8, .int .i64 (i : Int))], [(.s 1000000 0, ⟨0, true, true, true, snR zeroT .nils zeroI' zeroI' []⟩), (.s 1000000 1, ⟨0, true, true, true, snR d (v) zeroI' zeroI' []⟩)] ++ σ⟩ = X E [.cell 2 (some 42), .tmp 3] [.c L.ref07_DocParseCommit.r0] ⟨[(0, .lst (ofBytes p) p.length), (2, .ref (.s 1000000 0) 0 0), (4, .ref (.s 1000000 1) 0 0), (6, .str t), (8, .int .i64 (i : Int))] ++ [(37, .bool true), (9, .str v1), (10, .str r1), (11, .bool false), (47, .bool true)], [(.s 1000000 0, ⟨0, true, true, true, snR zeroT .nils zeroI' zeroI' []⟩), (.s 1000000 1, ⟨0, true, true, true, snR d (v) zeroI' zeroI' []⟩)] ++ σ⟩ := by
  have hz0 := zeroT_len
  rw [X_in L.ref07_DocParseCommit.x0.eq_1]
  rcases hv with ⟨rfl, rfl, rfl⟩ | ⟨hne, rfl, rfl⟩
  · simp only [List.append_nil, List.cons_append, List.nil_append]
    simp (dsimp := false) (disch := first | omega | (simp only [LENs] <;> omega) | fail) only [go_sem, reduceIte, reduceCtorEq, qn0, qn1, qn2, qn3, qn4, qn5, qn6, qn7, qn8, qi0, qi1, qi2, qi3, qi4, qi5, qi6, qi7, qi8, qi9, qi10, BYs, h, Bool.not_false]
  · simp only [List.cons_append, List.nil_append]
    simp (dsimp := false) (disch := first | omega | (simp only [LENs] <;> omega) | fail) only [go_sem, reduceIte, reduceCtorEq, qn0, qn1, qn2, qn3, qn4, qn5, qn6, qn7, qn8, qi0, qi1, qi2, qi3, qi4, qi5, qi6, qi7, qi8, qi9, qi10, BYs, h, Bool.not_false]
theorem rq_in {p d t v1 r1 e : List UInt8} {ps : List Id32} {i : Nat} {x : Int} {v : AV} {σ : Store} (hps : ps.length ≤ 17) (hv : (ps = [] ∧ v = .nils ∧ σ = []) ∨ (ps ≠ [] ∧ v = .buf (.s 1000000 2) 0 0 (ps).length 32 ∧ σ = [(.s 1000000 2, ⟨0, true, true, false, ids (ps)⟩)])) (hd : d.length = 32) (he : e.length = 32) (hi : i ≤ 16) (h : S E F.ref07_line [.str t, .str [112, 97, 114, 101, 110, 116]] [] = some (.tup [.str v1, .str r1, .bool true], [])) (h2 : S E F.ref01_DocParse [.str v1] [] = some (.tup [.agg (ofBytes e), .int .i64 x], [])) :
    X E [.cell 2 (some 42), .tmp 3] (.c L.ref07_DocParseCommit.x0 :: .lp [0, 2, 4, 6, 8] L.ref07_DocParseCommit.x0 :: .blk 0 :: [.c L.ref07_DocParseCommit.r0]) ⟨[(0, .lst (ofBytes p) p.length), (2, .ref (.s 1000000 0) 0 0), (4, .ref (.s 1000000 1) 0 0), (6, .str t), (8, .int .i64 (i : Int))], [(.s 1000000 0, ⟨0, true, true, true, snR zeroT .nils zeroI' zeroI' []⟩), (.s 1000000 1, ⟨0, true, true, true, snR d (v) zeroI' zeroI' []⟩)] ++ σ⟩ = X E [.cell 2 (some 42), .tmp 3] (.c L.ref07_DocParseCommit.x0 :: .lp [0, 2, 4, 6, 8] L.ref07_DocParseCommit.x0 :: .blk 0 :: [.c L.ref07_DocParseCommit.r0]) ⟨[(0, .lst (ofBytes p) p.length), (2, .ref (.s 1000000 0) 0 0), (4, .ref (.s 1000000 1) 0 0), (6, .str r1), (8, .int .i64 ((i + 1 : Nat) : Int))], [(.s 1000000 0, ⟨0, true, true, true, snR zeroT .nils zeroI' zeroI' []⟩), (.s 1000000 1, ⟨0, true, true, true, snR d (.buf (.s 1000000 2) 0 0 (ps ++ [mkI e]).length 32) zeroI' zeroI' []⟩)] ++ [(.s 1000000 2, ⟨0, true, true, false, ids (ps ++ [mkI e])⟩)]⟩ := by
  have hz0 := zeroT_len
  have ho : over (ofBytes (List.replicate 32 0)) 0 (ofBytes e) = ofBytes e := over_ofBytes_all (by rw [he]; simp)
  have hsn : ids ps ++ ofBytes e = ids (ps ++ [mkI e]) := by
    have := ids_snoc ps (mkI e)
    rw [mkI_b he] at this
    exact this
  have hln : (ps ++ [mkI e]).length = ps.length + 1 := by simp
  conv => lhs; rw [X_in L.ref07_DocParseCommit.x0.eq_1]
  rcases hv with ⟨rfl, rfl, rfl⟩ | ⟨hne, rfl, rfl⟩
  · rw [ids_nil, List.nil_append, List.nil_append] at hsn
    simp only [List.append_nil, List.cons_append, List.nil_append, ← hsn, Int.natCast_add, Int.cast_ofNat_Int]
    simp (dsimp := false) (disch := first | omega | (simp only [LENs] <;> omega) | fail) only [go_sem, reduceIte, reduceCtorEq, qn0, qn1, qn2, qn3, qn4, qn5, qn6, qn7, qn8, qi0, qi1, qi2, qi3, qi4, qi5, qi6, qi7, qi8, qi9, qi10, BYs, h, h2, ho, he, List.length_replicate, Bool.not_true]
  · simp only [List.cons_append, List.nil_append, hln, Int.natCast_add, Int.cast_ofNat_Int]
    simp (dsimp := false) (disch := first | omega | (simp only [LENs] <;> omega) | fail) only [go_sem, reduceIte, reduceCtorEq, qn0, qn1, qn2, qn3, qn4, qn5, qn6, qn7, qn8, qi0, qi1, qi2, qi3, qi4, qi5, qi6, qi7, qi8, qi9, qi10, BYs, h, h2, ho, he, hsn, List.length_replicate, Bool.not_true]
theorem rq_loop {p d : List UInt8} (hd : d.length = 32) (hp : p.length ≤ 1048576) : ∀ (m i : Nat) (t : List UInt8) (ps : List Id32) (v : AV) (σ : Store), i + m = 17 → ps.length = i → t.length ≤ 1048576 → ((ps = [] ∧ v = .nils ∧ σ = []) ∨ (ps ≠ [] ∧ v = .buf (.s 1000000 2) 0 0 (ps).length 32 ∧ σ = [(.s 1000000 2, ⟨0, true, true, false, ids (ps)⟩)])) →
    ∃ (g : Snap) (ok : Bool), X E [.cell 2 (some 42), .tmp 3] (.c L.ref07_DocParseCommit.x0 :: .lp [0, 2, 4, 6, 8] L.ref07_DocParseCommit.x0 :: .blk 0 :: [.c L.ref07_DocParseCommit.r0]) ⟨[(0, .lst (ofBytes p) p.length), (2, .ref (.s 1000000 0) 0 0), (4, .ref (.s 1000000 1) 0 0), (6, .str t), (8, .int .i64 (i : Int))], [(.s 1000000 0, ⟨0, true, true, true, snR zeroT .nils zeroI' zeroI' []⟩), (.s 1000000 1, ⟨0, true, true, true, snR d (v) zeroI' zeroI' []⟩)] ++ σ⟩ = some (cmV g (ok && isC g p)) ∧
    ∀ qs a c m', identOK a = true → identOK c = true → ps.length + qs.length ≤ 16 → t = parB qs ++ (autW ++ 32 :: (putI a ++ 10 :: (comW ++ 32 :: (putI c ++ 10 :: (10 :: m'))))) → ok = true ∧ g = mkS d (ps ++ qs) a c m' hd := by
  intro m
  induction m with
  | zero =>
    intro i t ps v σ hi hl ht hv
    obtain rfl : i = 17 := by omega
    obtain ⟨g, ok, h1, _⟩ := rq_r0 (p := p) (d := d) (t := t) (ps := ps) (i := 17) (v := v) (σ := σ) (ex := [(37, .bool false)]) (.inl rfl) hd hp ht (by omega) hv
    exact ⟨g, ok, (rq_end hv hd).trans h1, fun qs a c m' _ _ hq _ => by omega⟩
  | succ m ih =>
    intro i t ps v σ hi hl ht hv
    obtain ⟨v1, r1, o1, a1, c1, s1, k1, y1⟩ := rline_ex (t := t) (w := parW) (by omega) (by decide)
    cases o1 with
    | false =>
      obtain ⟨g, ok, h1, h2⟩ := rq_r0 (p := p) (d := d) (t := t) (ps := ps) (i := i) (v := v) (σ := σ) (ex := [(37, .bool true), (9, .str v1), (10, .str r1), (11, .bool false), (47, .bool true)]) (.inr ⟨v1, r1, rfl⟩) hd hp ht (by omega) hv
      refine ⟨g, ok, (rq_out hv hd (by omega) s1).trans h1, fun qs a c m' ha hc hq e => ?_⟩
      cases qs with
      | nil =>
        rw [parB_nil, List.nil_append] at e
        rw [List.append_nil]
        exact h2 a c m' ha hc e
      | cons q qs =>
        rw [parB_cons, List.append_assoc, List.cons_append, List.append_assoc, List.cons_append] at e
        have := (y1 _ _ e (hexT_no10 _)).2.2
        cases this
    | true =>
      obtain ⟨e0, x, he, _, s5, y5⟩ := go_rdparse (s := v1) (by omega)
      have hv' : ((ps ++ [mkI e0]) = [] ∧ (AV.buf (.s 1000000 2) 0 0 (ps ++ [mkI e0]).length 32) = .nils ∧ ([(.s 1000000 2, ⟨0, true, true, false, ids (ps ++ [mkI e0])⟩)] : Store) = []) ∨ ((ps ++ [mkI e0]) ≠ [] ∧ (AV.buf (.s 1000000 2) 0 0 (ps ++ [mkI e0]).length 32) = .buf (.s 1000000 2) 0 0 ((ps ++ [mkI e0])).length 32 ∧ ([(.s 1000000 2, ⟨0, true, true, false, ids (ps ++ [mkI e0])⟩)] : Store) = [(.s 1000000 2, ⟨0, true, true, false, ids ((ps ++ [mkI e0]))⟩)]) := .inr ⟨by simp, rfl, rfl⟩
      obtain ⟨g, ok, h1, h2⟩ := ih (i + 1) r1 (ps ++ [mkI e0]) _ _ (by omega) (by simp; omega) (by omega) hv'
      refine ⟨g, ok, (rq_in (by omega) hv hd he (by omega) s1 s5).trans h1, fun qs a c m' ha hc hq e => ?_⟩
      cases qs with
      | nil =>
        have hpt := (k1 rfl).1
        rw [e, parB_nil, List.nil_append] at hpt
        have hno := no_parent (r := putI a ++ 10 :: (comW ++ 32 :: (putI c ++ 10 :: (10 :: m'))))
        rw [show parW ++ [32] = [112, 97, 114, 101, 110, 116, 32] from rfl, hno] at hpt
        cases hpt
      | cons q qs =>
        rw [parB_cons, List.append_assoc, List.cons_append, List.append_assoc, List.cons_append] at e
        obtain ⟨z1, z2, _⟩ := y1 _ _ e (hexT_no10 _)
        have z3 := (y5 _ q.h z1).1
        obtain ⟨j1, j2⟩ := h2 qs a c m' ha hc (by simp only [List.length_append, List.length_cons, List.length_nil] at hq ⊢; omega) z2
        refine ⟨j1, ?_⟩
        rw [j2, z3, mkI_self, List.append_assoc]
        rfl
theorem go_docParseCommit {p : List UInt8} {n : Nat} (hn : n = p.length) (hp : p.length ≤ 1048576) : ∃ (g : Snap) (ok : Bool), S E F.ref07_DocParseCommit [.lst (ofBytes p) n] [] = some (cmV g (ok && isC g p)) ∧ ∀ s, IsCmt p s → g = s ∧ ok = true := by
  subst hn
  obtain ⟨v1, r1, o1, a1, c1, s1, _, y1⟩ := rline_ex (t := p) (w := treW) (by omega) (by decide)
  have hz0 := zeroT_len
  have yes : ∀ s, IsCmt p s → v1 = hexT s.tree ∧ r1 = parB s.par ++ (autW ++ 32 :: (putI s.aut ++ 10 :: (comW ++ 32 :: (putI s.com ++ 10 :: (10 :: s.msg))))) ∧ o1 = true := by
    rintro s ⟨e1, e2⟩
    rw [cmt_form] at e2
    exact y1 _ _ e2.symm (hexT_no10 _)
  unfold treW at s1
  cases o1 with
  | false =>
    refine ⟨mkS zeroT [] zeroI' zeroI' [] zeroT_len, false, ?_, fun s hs => by have := (yes s hs).2.2; cases this⟩
    rw [S_of fn_ref07_DocParseCommit rfl rfl]
    unfold cmV noC
    rw [Bool.false_and, if_neg (by simp)]
    simp (dsimp := false) (disch := first | omega | (simp only [LENs] <;> omega) | fail) only [L.ref07_DocParseCommit, go_sem, reduceIte, reduceCtorEq, qn0, qn1, qn2, qn3, qn4, qn5, qn6, qn7, qn8, qi0, qi1, qi2, qi3, qi4, qi5, qi6, qi7, qi8, qi9, qi10, BYs, s1, Bool.not_false]
  | true =>
    obtain ⟨d, x, hd, _, s5, y5⟩ := go_rdparse (s := v1) (by omega)
    obtain ⟨g, ok, h1, h2⟩ := rq_loop (p := p) (d := d) hd hp 17 0 r1 [] _ _ (by omega) rfl (by omega) (.inl ⟨rfl, rfl, rfl⟩)
    refine ⟨g, ok, ?_, fun s hs => ?_⟩
    · rw [← h1]
      rw [S_of fn_ref07_DocParseCommit rfl rfl]
      simp only [List.append_nil, Int.cast_ofNat_Int]
      simp (dsimp := false) (disch := first | omega | (simp only [LENs] <;> omega) | fail) only [L.ref07_DocParseCommit, go_sem, reduceIte, reduceCtorEq, qn0, qn1, qn2, qn3, qn4, qn5, qn6, qn7, qn8, qi0, qi1, qi2, qi3, qi4, qi5, qi6, qi7, qi8, qi9, qi10, BYs, s1, s5, Bool.not_true]
    · obtain ⟨z1, z2, _⟩ := yes s hs
      obtain ⟨w1, w2, w3, w4⟩ := cmtE_ok hs.1
      have z3 := (y5 _ s.ht z1).1
      obtain ⟨j1, j2⟩ := h2 s.par s.aut s.com s.msg w3 w4 (by simpa using w1) z2
      refine ⟨?_, j1⟩
      rw [j2]
      subst z3
      rfl
theorem go_docParseCommit_long {p : List UInt8} {n : Nat} (hn : n = p.length) (hp : 1048576 < p.length) (hb : p.length ≤ 1000000000000) : S E F.ref07_DocParseCommit [.lst (ofBytes p) n] [] = some (noC 2) := by
  subst hn
  have hz0 := zeroT_len
  rw [S_of fn_ref07_DocParseCommit rfl rfl]
  unfold noC
  simp (dsimp := false) (disch := first | omega | (simp only [LENs] <;> omega) | fail) only [L.ref07_DocParseCommit, go_sem, reduceIte, reduceCtorEq, qn0, qn1, qn2, qn3, qn4, qn5, qn6, qn7, qn8, qi0, qi1, qi2, qi3, qi4, qi5, qi6, qi7, qi8, qi9, qi10, BYs]
end Cod
namespace Cod
open Go
theorem eqCells_bytes : ∀ (n : Nat) (x y : List UInt8) (ks : List Nat) (xs ys : List AV), x.length = n → y.length = n → eqCells (List.replicate n 0 ++ ks) (ofBytes x ++ xs) (ofBytes y ++ ys) = (eqCells ks xs ys).map (x == y && ·) := by
  intro n
  induction n with
  | zero =>
    intro x y ks xs ys hx hy
    obtain rfl := List.eq_nil_of_length_eq_zero hx
    obtain rfl := List.eq_nil_of_length_eq_zero hy
    simp [ofBytes]
  | succ n ih =>
    intro x y ks xs ys hx hy
    cases x with
    | nil => simp at hx
    | cons a x =>
      cases y with
      | nil => simp at hy
      | cons b y =>
        have h1 := ih x y ks xs ys (by simpa using hx) (by simpa using hy)
        have e1 : ofBytes (a :: x) = .int .u8 a.toNat :: ofBytes x := rfl
        have e2 : ofBytes (b :: y) = .int .u8 b.toNat :: ofBytes y := rfl
        rw [e1, e2, List.replicate_succ, List.cons_append, List.cons_append, List.cons_append]
        simp only [eqCells, if_true, h1, Option.map_map]
        congr 1
        funext z
        have : ((a.toNat : Int) == b.toNat) = (a == b) := by
          by_cases h : a = b
          · subst h; simp
          · have h2 : ¬ ((a.toNat : Int) = b.toNat) := fun e => h (UInt8.toNat_inj.1 (by omega))
            rw [beq_eq_false_iff_ne.2 h, beq_eq_false_iff_ne.2 h2]
        simp only [Function.comp, this, List.cons_beq_cons, Bool.and_assoc]
theorem eqCells_32 {x y : List UInt8} (hx : x.length = 32) (hy : y.length = 32) : eqCells [0, 0, 0, 0, 0, 0, 0, 0, 0, 0, 0, 0, 0, 0, 0, 0, 0, 0, 0, 0, 0, 0, 0, 0, 0, 0, 0, 0, 0, 0, 0, 0] (ofBytes x) (ofBytes y) = some (x == y) := by
  have h := eqCells_bytes 32 x y [] [] [] hx hy
  rw [List.append_nil, List.append_nil, List.append_nil] at h
  rw [show [0, 0, 0, 0, 0, 0, 0, 0, 0, 0, 0, 0, 0, 0, 0, 0, 0, 0, 0, 0, 0, 0, 0, 0, 0, 0, 0, 0, 0, 0, 0, 0] = List.replicate 32 0 from rfl, h]
  simp [eqCells]
end Cod
namespace Cod
open Go
theorem eqCells_id {d : List UInt8} (h : d.length = 32) : eqCells [0, 0, 0, 0, 0, 0, 0, 0, 0, 0, 0, 0, 0, 0, 0, 0, 0, 0, 0, 0, 0, 0, 0, 0, 0, 0, 0, 0, 0, 0, 0, 0] (ofBytes d) (ofBytes d) = some true := by
  rw [eqCells_32 h h]; simp
theorem eqCells_idt (i : Idt) : eqCells [2, 2, 0, 0] i.cells i.cells = some true := by simp [Idt.cells, eqCells]
theorem si_l0 {l : List Id32} (hl : l.length ≤ 1048576) : ∀ (m i : Nat), i + m = l.length →
    X E [.tmp 4] (.c L.ref01_SameIds.x0 :: .lp [0, 1, 12, 13] L.ref01_SameIds.x0 :: .blk 0 :: [.c L.ref01_SameIds.r0]) ⟨[(0, .lst (ids l) l.length), (1, .lst (ids l) l.length), (12, .int .i64 l.length), (13, .int .i64 i)], []⟩ = some (.bool true, []) := by
  intro m
  induction m with
  | zero =>
    intro i h
    obtain rfl : i = l.length := by omega
    rw [X_in L.ref01_SameIds.x0.eq_1]
    simp (dsimp := false) (disch := first | omega | (simp only [LENs] <;> omega) | fail) only [go_sem, reduceIte, reduceCtorEq, qn0, qn1, qn2, qn3, qn4, qn5, qn6, qn7, qn8, qi0, qi1, qi2, qi3, qi4, qi5, qi6, qi7, qi8, qi9, qi10, L.ref01_SameIds.r0]
  | succ m ih =>
    intro i h
    have h1 := ih (i + 1) (by omega)
    simp only [Int.natCast_add, Int.cast_ofNat_Int] at h1
    have hq := eqCells_id (iat l i).h
    rw [X_in L.ref01_SameIds.x0.eq_1]
    simp (dsimp := false) (disch := first | omega | (simp only [LENs] <;> omega) | fail) only [go_sem, reduceIte, reduceCtorEq, qn0, qn1, qn2, qn3, qn4, qn5, qn6, qn7, qn8, qi0, qi1, qi2, qi3, qi4, qi5, qi6, qi7, qi8, qi9, qi10, BYs, hq, h1, Option.map_some, Bool.not_true]
theorem go_sameIds {l : List Id32} (hl : l.length ≤ 1048576) : S E F.ref01_SameIds [.lst (ids l) l.length, .lst (ids l) l.length] [] = some (.bool true, []) := by
  have h := si_l0 hl l.length 0 (by omega)
  simp only [Int.cast_ofNat_Int] at h
  rw [S_of fn_ref01_SameIds rfl rfl]
  simp (dsimp := false) (disch := first | omega | (simp only [LENs] <;> omega) | fail) only [L.ref01_SameIds, go_sem, reduceIte, reduceCtorEq, qn0, qn1, qn2, qn3, qn4, qn5, qn6, qn7, qn8, qi0, qi1, qi2, qi3, qi4, qi5, qi6, qi7, qi8, qi9, qi10, h]
theorem go_sameNil : S E F.ref01_SameIds [.lst [] 0, .lst [] 0] [] = some (.bool true, []) := go_sameIds (l := []) (by simp)
theorem go_sameCommit {t m : List UInt8} {v : AV} {a c : Idt} {ps : List Id32} (ht : t.length = 32) (hl : ps.length ≤ 1048576) (hv : PV v ps) : S E F.ref07_SameCommit [.agg (snR t v a c m), .agg (snR t v a c m)] [] = some (.bool true, []) := by
  have q1 := eqCells_id ht
  have q2 := eqCells_idt a
  have q3 := eqCells_idt c
  have q4 : (m == m) = true := by simp
  have s1 := go_sameIds hl
  have s2 := go_sameNil
  rw [S_of fn_ref07_SameCommit rfl rfl]
  rcases hv with rfl | ⟨_, rfl⟩
  · simp (dsimp := false) (disch := first | omega | (simp only [LENs] <;> omega) | fail) only [L.ref07_SameCommit, go_sem, reduceIte, reduceCtorEq, qn0, qn1, qn2, qn3, qn4, qn5, qn6, qn7, qn8, qi0, qi1, qi2, qi3, qi4, qi5, qi6, qi7, qi8, qi9, qi10, BYs, q1, q2, q3, q4, s1]
  · simp (dsimp := false) (disch := first | omega | (simp only [LENs] <;> omega) | fail) only [L.ref07_SameCommit, go_sem, reduceIte, reduceCtorEq, qn0, qn1, qn2, qn3, qn4, qn5, qn6, qn7, qn8, qi0, qi1, qi2, qi3, qi4, qi5, qi6, qi7, qi8, qi9, qi10, BYs, q1, q2, q3, q4, s2]
theorem commits_same {EE : Env} (hE : EnvC EE) (p : List UInt8) (hb : p.length ≤ 1000000000000) : (∃ e, S EE F.object_ParseCommit [.lst (ofBytes p) p.length] [] = some (noC e) ∧ S E F.ref07_DocParseCommit [.lst (ofBytes p) p.length] [] = some (noC e)) ∨ (∃ g : Snap, g.par.length ≤ 16 ∧ S EE F.object_ParseCommit [.lst (ofBytes p) p.length] [] = some (yesC g) ∧ S E F.ref07_DocParseCommit [.lst (ofBytes p) p.length] [] = some (yesC g)) := by
  by_cases hp : 1048576 < p.length
  · exact .inl ⟨2, go_parseCommit_long hE rfl hp hb, go_docParseCommit_long rfl hp hb⟩
  · obtain ⟨g1, b1, s1, y1⟩ := go_parseCommit hE (p := p) rfl (by omega)
    obtain ⟨g2, o2, s2, y2⟩ := go_docParseCommit (p := p) rfl (by omega)
    rw [s1, s2]
    by_cases h : ∃ l, IsCmt p l
    · obtain ⟨l, hl⟩ := h
      obtain ⟨rfl, rfl⟩ := y1 l hl
      obtain ⟨rfl, rfl⟩ := y2 _ hl
      have hi := isC_iff.2 hl
      unfold cmV
      rw [hi]
      exact .inr ⟨g2, (cmtE_ok hl.1).1, rfl, rfl⟩
    · have no : ∀ g, isC g p = false := fun g => by
        cases hi : isC g p with
        | false => rfl
        | true => exact absurd ⟨g, isC_iff.1 hi⟩ h
      unfold cmV
      rw [no, no, Bool.and_false, Bool.and_false]
      exact .inl ⟨4, rfl, rfl⟩
theorem go_objectCommits {EE : Env} (hE : EnvC EE) (haw : S EE F.law07_awake [] [] = some (.bool true, [])) {s : Snap} {p : List UInt8} (hs : SnapOK s) (ha : s.aut.name.length ≤ 1000000000) (hb : s.aut.email.length ≤ 1000000000) (hc : s.com.name.length ≤ 1000000000) (hd : s.com.email.length ≤ 1000000000) (hp : p.length ≤ 1000000000000) :
    S EE F.law07_ObjectCommits [.agg s.cells, .lst (ofBytes p) p.length] [] = some (.bool true, []) := by
  have hz0 := zeroT_len
  have ht := s.ht
  have hsp := hs.1
  have a1 := hE.put (s := s) (v := .lst (ids s.par) s.par.length) (.inl rfl) hs
  have a2 := S_ext hE.ext (go_docPutCommit (s := s) (by have := hs.1; omega) hs.2 ha hb hc hd)
  have a3 := S_ext hE.ext (go_twin (a := p) rfl hp)
  rw [sn_cells] at a2
  unfold cmtV at a1
  have c5 := commits_same hE p hp
  have a7 := S_ext hE.ext (ge_same (a := cmtB s) (b := cmtB s) (n := (cmtB s).length) (m := (cmtB s).length) rfl rfl)
  have b7 : (cmtB s == cmtB s) = true := by simp
  rw [b7] at a7
  have a8 : S EE F.ref01_Same [.lst [] 0, .lst [] 0] [] = some (.bool true, []) := S_ext hE.ext (ge_same (a := []) (b := []) rfl rfl)
  have hsz : cmtE s = 0 → (cmtB s).length ≤ 80000 := cmtB_len
  rw [hE.S_of fn_law07_ObjectCommits rfl rfl, sn_cells]
  have hput : ∃ x e σ y, S EE F.object_PutCommit [.agg (snR s.tree (.lst (ids s.par) s.par.length) s.aut s.com s.msg)] [] = some (.tup [x, .int .i64 e], σ) ∧ ((e = 0 ∧ x = .buf (.r 0) 0 0 (cmtB s).length 1 ∧ σ = [(.r 0, ⟨0, true, true, false, ofBytes (cmtB s)⟩)] ∧ y = cmtB s) ∨ (e ≠ 0 ∧ x = .nils ∧ σ = [] ∧ y = [])) ∧ S EE F.ref07_DocPutCommit [.agg (snR s.tree (.lst (ids s.par) s.par.length) s.aut s.com s.msg)] [] = some (.tup [.buf (.r 0) 0 0 y.length 1, .int .i64 e], [(.r 0, ⟨0, true, true, false, ofBytes y⟩)]) := by
    by_cases he : cmtE s = 0
    · rw [if_pos he] at a1 a2
      exact ⟨_, _, _, _, a1, .inl ⟨rfl, rfl, rfl, rfl⟩, a2⟩
    · rw [if_neg he] at a1 a2
      exact ⟨_, _, _, _, a1, .inr ⟨he, rfl, rfl, rfl⟩, a2⟩
  clear a1 a2
  obtain ⟨x, e, σ, y, a1, hx, a2⟩ := hput
  generalize cmtB s = B at *
  rcases c5 with ⟨e2, a4, a5⟩ | ⟨g, hg, a4, a5⟩
  · have a5 := S_ext hE.ext a5
    unfold noC at a4 a5
    have a6 := S_ext hE.ext (go_sameCommit (t := zeroT) (m := []) (a := zeroI') (c := zeroI') (ps := []) zeroT_len (by simp) (.inr ⟨rfl, rfl⟩))
    rcases hx with ⟨rfl, rfl, rfl, rfl⟩ | ⟨he, rfl, rfl, rfl⟩
    · simp (dsimp := false) (disch := first | omega | (simp only [LENs] <;> omega) | fail) only [L.law07_ObjectCommits, go_sem, reduceIte, reduceCtorEq, qn0, qn1, qn2, qn3, qn4, qn5, qn6, qn7, qn8, qi0, qi1, qi2, qi3, qi4, qi5, qi6, qi7, qi8, qi9, qi10, BYs, haw, a1, a2, a3, a4, a5, a6, a7]
    · simp only [show ofBytes [] = [] from rfl, List.length_nil] at a2
      simp (dsimp := false) (disch := first | omega | (simp only [LENs] <;> omega) | fail) only [L.law07_ObjectCommits, go_sem, reduceIte, reduceCtorEq, qn0, qn1, qn2, qn3, qn4, qn5, qn6, qn7, qn8, qi0, qi1, qi2, qi3, qi4, qi5, qi6, qi7, qi8, qi9, qi10, BYs, haw, a1, a2, a3, a4, a5, a6, a8]
  · have a5 := S_ext hE.ext a5
    have hgt := g.ht
    unfold yesC at a4 a5
    by_cases hpar : g.par = []
    · rw [if_pos hpar] at a4 a5
      have a6 := S_ext hE.ext (go_sameCommit (t := g.tree) (m := g.msg) (a := g.aut) (c := g.com) (ps := []) g.ht (by simp) (.inr ⟨rfl, rfl⟩))
      rcases hx with ⟨rfl, rfl, rfl, rfl⟩ | ⟨he, rfl, rfl, rfl⟩
      · simp (dsimp := false) (disch := first | omega | (simp only [LENs] <;> omega) | fail) only [L.law07_ObjectCommits, go_sem, reduceIte, reduceCtorEq, qn0, qn1, qn2, qn3, qn4, qn5, qn6, qn7, qn8, qi0, qi1, qi2, qi3, qi4, qi5, qi6, qi7, qi8, qi9, qi10, BYs, haw, a1, a2, a3, a4, a5, a6, a7]
      · simp only [show ofBytes [] = [] from rfl, List.length_nil] at a2
        simp (dsimp := false) (disch := first | omega | (simp only [LENs] <;> omega) | fail) only [L.law07_ObjectCommits, go_sem, reduceIte, reduceCtorEq, qn0, qn1, qn2, qn3, qn4, qn5, qn6, qn7, qn8, qi0, qi1, qi2, qi3, qi4, qi5, qi6, qi7, qi8, qi9, qi10, BYs, haw, a1, a2, a3, a4, a5, a6, a8]
    · rw [if_neg hpar] at a4 a5
      have a6 := S_ext hE.ext (go_sameCommit (t := g.tree) (m := g.msg) (a := g.aut) (c := g.com) (ps := g.par) g.ht (by omega) (.inl rfl))
      rcases hx with ⟨rfl, rfl, rfl, rfl⟩ | ⟨he, rfl, rfl, rfl⟩
      · simp (dsimp := false) (disch := first | omega | (simp only [LENs] <;> omega) | fail) only [L.law07_ObjectCommits, go_sem, reduceIte, reduceCtorEq, qn0, qn1, qn2, qn3, qn4, qn5, qn6, qn7, qn8, qi0, qi1, qi2, qi3, qi4, qi5, qi6, qi7, qi8, qi9, qi10, BYs, haw, a1, a2, a3, a4, a5, a6, a7]
      · simp only [show ofBytes [] = [] from rfl, List.length_nil] at a2
        simp (dsimp := false) (disch := first | omega | (simp only [LENs] <;> omega) | fail) only [L.law07_ObjectCommits, go_sem, reduceIte, reduceCtorEq, qn0, qn1, qn2, qn3, qn4, qn5, qn6, qn7, qn8, qi0, qi1, qi2, qi3, qi4, qi5, qi6, qi7, qi8, qi9, qi10, BYs, haw, a1, a2, a3, a4, a5, a6, a8]
end Cod
