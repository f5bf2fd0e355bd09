/- law21: what a set says: the nodes that letters lead to, the count of nodes (functions 13, 36, 51), walked. -/
import Derived.Test.YtenhfmlkdcfbbaaDoorComp
namespace Go.Proofs.YtenhfmlkdcfbbaaDoor.PHyphenPoints
open Go.RowKit Go.Proofs.YtenhfmlkdcfbbaaDoorW.PrintWords Go.Proofs.YtenhfmlkdcfbbaaDoorW.PrintLast Go.Proofs.YtenhfmlkdcfbbaaDoorW.PrintMore Go.Proofs.YtenhfmlkdcfbbaaDoorG
attribute [local go_sem] max2_int min2_int max_two min_two max_three min_three max_four min_four
attribute [local go_sem] Oper.semAt_some
set_option linter.unusedVariables false
set_option linter.unusedSimpArgs false
def hyphen_Set_Nodes.f (s : Option Cp.HS) : Int := match s with | none => 0 | some s => (s.1.length : Int)
theorem hyphen_Set_Nodes.calls (base : Nat) (v : Value) (s : Option Cp.HS) (w : World) (h : Cp.SetV base w v s) : Calls Tryd.prog 13 #[v] w fun e w' => e = .returned (.int .i64 (hyphen_Set_Nodes.f s)) ∧ w' = w := by
 cases s with
 | none =>
  have hv : v = .pointer none := h
  subst hv
  clear h
  go_enter Tryd.func13, Tryd.ntmps13
  go_wp2
  go_ret
  exact ⟨rfl, rfl⟩
 | some s =>
  obtain ⟨Sb, K, nb, mb, qb, es, rfl, hAt⟩ := h
  have h1 : w.cell? ⟨Sb, 1, none⟩ = some (.int .i64 (s.1.length : Int)) := (blk_cell hAt.set 1).trans rfl
  clear hAt
  go_enter Tryd.func13, Tryd.ntmps13
  go_wp2
  go_ret
  exact ⟨rfl, rfl⟩
namespace Wy
def path (ar : List Trie.PN) : Nat → List Int → List Nat
 | _, [] => []
 | i, c :: r => match Trie.kget (((ar.getD i Trie.PN.z).kids).getD []) c with
  | none => []
  | some q => q :: path ar q r
def encs (nb : Nat → Nat) (i : Nat) : Array Value := #[.pointer (some ⟨nb i, 0, none⟩)]
def Kp (P : Nat → Prop) (_ : Unit) (W W' : World) : Prop := ∀ (b : Nat) (o : Obj), P b → W.heap[b]? = some o → Trie.Pl o → W'.heap[b]? = some o
theorem Kp.trans {P : Nat → Prop} {c : Unit} {X Y Z : World} (h : Kp P c X Y) (k : Kp P c Y Z) : Kp P c X Z := fun b o hb ho hp => k b o hb (h b o hb ho hp) hp
theorem Kp.book {P : Nat → Prop} {c : Unit} (W : World) (l : Nat) (L L' : Loop) (hl : W.heap[l]? = some (.loop L)) : Kp P c W (W.putObj l (.loop L')) := fun b o _ ho hp => by
 have hne : b ≠ l := fun e => by rw [e, hl] at ho; injection ho with ho; subst ho; exact hp
 exact (World.putObj_heap_other hne).trans ho
def E (xs : List Nat) (_ : Unit) (pre : List Nat) (x : Nat) : Prop := xs[pre.length]? = some x ∧ pre = xs.take pre.length
theorem E.next {xs : List Nat} {c : Unit} {pre : List Nat} {x : Nat} (h : E xs c pre x) : pre ++ [x] = xs.take (pre.length + 1) := by
 rw [List.take_add_one, ← h.2, h.1]
 rfl
def S (xs : List Nat) (_ : Unit) (ys : List Nat) : Prop := ys = xs
structure Nd (W : World) (Sb : Nat) (ar : List Trie.PN) (nb mb : Nat → Nat) : Prop where
 root : W.cell? ⟨Sb, 0, none⟩ = some (.pointer (some ⟨nb 0, 0, none⟩))
 kid : ∀ i nd, ar[i]? = some nd → W.cell? ⟨nb i, 0, none⟩ = some (Trie.kv nd.kids (mb i))
 map : ∀ i nd l, ar[i]? = some nd → nd.kids = some l → YtenhfmlkdcfbbaaDoorV.MapV Tryd.prog 3 W (mb i) (Trie.kl nb l) ∧ ∀ p ∈ l, p.2 < ar.length
end Wy
theorem Trie.At.nd {base : Nat} {W : World} {Sb K : Nat} {ar : List Trie.PN} {nb mb qb : Nat → Nat} {es : List (ByteArray × Value)} {kn : List (ByteArray × List Int)} (h : Trie.At base W Sb K ar nb mb qb es kn) : Wy.Nd W Sb ar nb mb :=
 ⟨(blk_cell h.set 0).trans rfl, fun i nd hi => (blk_cell (h.tr.node i nd hi) 0).trans rfl, fun i nd l hi hl => ⟨(h.tr.kids i nd l hi hl).2.1, (h.tr.kids i nd l hi hl).2.2.1⟩⟩
theorem hyphen_Set_way.calls (Sb n c : Nat) (A : Option Addr) (w : World) : Calls Tryd.prog 36 #[.pointer (some ⟨Sb, 0, none⟩), .slice A n c] w fun e w' => e = .returned (.func (.func 51) #[] #[.pointer (some ⟨w.heap.size, 0, none⟩), .pointer (some ⟨w.heap.size + 1, 0, none⟩)]) ∧ w' = (w.alloc (.cells #[.pointer (some ⟨Sb, 0, none⟩)] 27)).alloc (.cells #[.slice A n c] 22) := by
 have hmf : ∀ (fn : Fn) (first cap : Array Value) (w : World), (Instr.makeFunc fn first cap).run Tryd.prog w = .ok (.func fn first cap) w := fun _ _ _ _ => rfl
 go_enter Tryd.func36, Tryd.ntmps36
 go_wp2
 go_ret
 exact ⟨rfl, rfl⟩
def Wy.P (Sb : Nat) (ar : List Trie.PN) (nb mb qb : Nat → Nat) (bs : List Nat) (b : Nat) : Prop := Trie.Own Sb ar nb mb qb b ∨ b ∈ bs
theorem Wy.path_step {ar : List Trie.PN} {i q : Nat} {nd : Trie.PN} {l : List (Int × Nat)} {c : Int} {r : List Int} (h : ar[i]? = some nd) (hl : nd.kids = some l) (hk : Trie.kget l c = some q) : Wy.path ar i (c :: r) = q :: Wy.path ar q r := by
 rw [Wy.path, Trie.getD_of h, hl, show Trie.kget ((some l).getD []) c = some q from hk]
theorem Wy.path_end {ar : List Trie.PN} {i : Nat} {nd : Trie.PN} {l : List (Int × Nat)} {c : Int} {r : List Int} (h : ar[i]? = some nd) (hl : nd.kids = some l) (hk : Trie.kget l c = none) : Wy.path ar i (c :: r) = [] := by
 rw [Wy.path, Trie.getD_of h, hl, show Trie.kget ((some l).getD []) c = none from hk]
theorem Wy.path_nil {ar : List Trie.PN} {i : Nat} {nd : Trie.PN} {c : Int} {r : List Int} (h : ar[i]? = some nd) (hl : nd.kids = none) : Wy.path ar i (c :: r) = [] := by
 rw [Wy.path, Trie.getD_of h, hl]
 rfl
set_option maxHeartbeats 8000000 in
set_option maxRecDepth 100000 in
theorem hyphen_Set_way.seq (n base : Nat) (w0 : World) (Sb K : Nat) (ar : List Trie.PN) (nb mb qb : Nat → Nat) (es : List (ByteArray × Value)) (kn : List (ByteArray × List Int)) (hAt : Trie.At base w0 Sb K ar nb mb qb es kn) (har : 0 < ar.length) (x : Wd.El) (bs : List Nat) (hin : Wd.In bs w0 x)
  (hwf : ∀ c ∈ x.xs, (Lit.int .i64 c).wf = true) (hlen : x.xs.length ≤ 1000) (c1 c2 : Nat) (h1 : w0.heap[c1]? = some (.cells #[.pointer (some ⟨Sb, 0, none⟩)] 27 (0, 0))) (h2 : w0.heap[c2]? = some (.cells #[.slice x.A x.xs.length x.c] 22 (0, 0))) :
  SeqG Fence.wide n Tryd.prog 51 #[.pointer (some ⟨c1, 0, none⟩), .pointer (some ⟨c2, 0, none⟩)] (Wy.encs nb) (Wy.Kp (Wy.P Sb ar nb mb qb bs)) (fun _ _ _ => True) (Wy.E (Wy.path ar 0 x.xs)) (Wy.S (Wy.path ar 0 x.xs)) (fun _ _ => True) x.xs.length w0 := by
 intro lr J Jx W hW hJ hJx hY h0
 have HJ := Aside0.mk hJ
 have HY := Aside0.mk hY
 have HJ0 := Aside0.mk (h0 () W (Below.refl _ _) trivial)
 have HAt := Aside0.mk (hAt.below hW)
 have HIn := Aside0.mk (show Wd.In bs W x from Cp.In_stands hin (fun b o ho _ => (hW.block b (blk_lt ho)).trans ho))
 have HWF := Aside0.mk hwf
 have e1 : W.cell? ⟨c1, 0, none⟩ = some (.pointer (some ⟨Sb, 0, none⟩)) := (blk_cell ((hW.block _ (blk_lt h1)).trans h1) 0).trans rfl
 have e2 : W.cell? ⟨c2, 0, none⟩ = some (.slice x.A x.xs.length x.c) := (blk_cell ((hW.block _ (blk_lt h2)).trans h2) 0).trans rfl
 have e3 : W.cell? ⟨Sb, 0, none⟩ = some (.pointer (some ⟨nb 0, 0, none⟩)) := (blk_cell HAt.out.set 0).trans rfl
 clear hAt hin hwf h1 h2 hJ hJx hY h0 hW
 simp only [List.append_toArray, List.cons_append, List.nil_append]
 refine callsIn_of_wp Tryd.func51 rfl trivial ?_ rfl
 simp only [Tryd.ntmps51, List.size_toArray, List.length_cons, List.length_nil, Nat.reduceAdd, Nat.reduceSub, Array.replicate_succ, Array.replicate_zero, List.push_toArray, List.append_toArray, List.nil_append, List.cons_append]
 gi_wp2
 gi_loopw [4, 13] (fun v4 v13 wr => ∃ (j i : Nat), v13 = .int .i64 (j : Int) ∧ v4 = .pointer (some ⟨nb i, 0, none⟩) ∧ j ≤ x.xs.length ∧ i < ar.length ∧ Aside0 (j ≤ (Wy.path ar 0 x.xs).length) ∧ Aside0 (Wy.path ar i (x.xs.drop j) = (Wy.path ar 0 x.xs).drop j) ∧ Aside0 (J () ((Wy.path ar 0 x.xs).take j) wr) ∧ Aside0 (Wy.Kp (Wy.P Sb ar nb mb qb bs) () W wr))
  (fun _ v13 _ => x.xs.length - (intOf v13).toNat)
 case atStart => exact ⟨0, 0, rfl, rfl, Nat.zero_le _, har, ⟨Nat.zero_le _⟩, ⟨rfl⟩, HJ0, ⟨fun _ _ _ ho _ => ho⟩⟩
 case round =>
  clear e1 e2 e3
  obtain ⟨j, i, rfl, rfl, hj, hi, HJL, HPA, HJJ, HKP⟩ := hrel
  by_cases hlt : j < x.xs.length
  ·have kc1 : ((j : Int) < (x.xs.length : Int)) = True := eq_true (by omega)
   have kc2 : (j < x.xs.length) = True := eq_true hlt
   have kc3 : ((0 : Int) ≤ (j : Int)) = True := eq_true (by omega)
   have kc6 : IntKind.i64.wrap ((j : Int) + 1) = (j : Int) + 1 := by rw [IntKind.wrap_i64]; omega
   obtain ⟨h1, h1', g, off, cells, hA, hg, hcs, hrd⟩ := HIn.out
   have hcell : wr.cell? ⟨g, off + j, none⟩ = some (.int .i64 (rd x.xs (j : Int))) := (blk_cell (HKP.out g _ (.inr hg) hcs trivial) (off + j)).trans (hrd j hlt)
   obtain ⟨nd, hnd⟩ : ∃ nd, ar[i]? = some nd := ⟨_, List.getElem?_eq_getElem hi⟩
   have hN := HKP.out _ _ (.inl (Trie.own_nb Sb nb mb qb hnd)) (HAt.out.tr.node i nd hnd) trivial
   have hk0 : wr.cell? ⟨nb i, 0, none⟩ = some (Trie.kv nd.kids (mb i)) := (blk_cell hN 0).trans rfl
   have e9 : x.xs[j] = rd x.xs (j : Int) := by show _ = x.xs.getD (j : Int).toNat 0; simp [List.getD_eq_getElem?_getD, hlt]
   have hw9 : (Lit.int .i64 (rd x.xs (j : Int))).wf = true := by rw [← e9]; exact HWF.out _ (List.getElem_mem hlt)
   have hkey := Maps.keyOf_int_mk (P := Tryd.prog) (k := 3) Tryd.underlying3 hw9
   have hpa := HPA.out
   rw [List.drop_eq_getElem_cons hlt, e9] at hpa
   rw [hA]
   have HRD := Aside0.mk hrd
   have HCS := Aside0.mk hcs
   clear h1 h1' hrd hcs hN e9 hw9
   cases hkd : nd.kids with
   | none =>
    rw [hkd] at hk0
    have hk1 : wr.cell? ⟨nb i, 0, none⟩ = some (.map none) := hk0
    have hln : (Instr.lookup 47 (.map none) (.int .i64 (rd x.xs (j : Int))) false).run Tryd.prog wr = .ok (.pointer none) wr := by
     have := Maps.look_nil (w := wr) (P := Tryd.prog) false (Maps.int_keyed Tryd.underlying3) Tryd.underlying47 (z := .pointer none) (by kernel_rfl) hkey
     simpa using this
    rw [Wy.path_nil hnd hkd] at hpa
    have HP9 := Aside0.mk hpa
    clear hk0 hpa
    gi_wp2
    refine ⟨fun _ _ => trivial, ?_⟩
    gi_wp2
    refine bodyPost_ret (results_none rfl _ _ _) rfl ?_
    have hle : (Wy.path ar 0 x.xs).length ≤ j := List.drop_eq_nil_iff.1 HP9.out.symm
    exact ⟨⟨_, rfl⟩, (), .inl ⟨_, by unfold Wy.S; rw [List.take_of_length_le hle], HJJ.out⟩⟩
   | some l =>
    obtain ⟨m1, m2, m3⟩ := HAt.out.tr.kids i nd l hnd hkd
    rw [hkd] at hk0
    have hk1 : wr.cell? ⟨nb i, 0, none⟩ = some (.map (some (mb i))) := hk0
    obtain ⟨es', clock, hmo⟩ := m2.obj
    have m4 : YtenhfmlkdcfbbaaDoorV.MapV Tryd.prog 3 wr (mb i) (Trie.kl nb l) := m2.of_eq ((HKP.out _ _ (.inl (Trie.own_mb Sb nb mb qb hnd (by rw [hkd]; simp))) hmo trivial).trans hmo.symm)
    have hlk := YtenhfmlkdcfbbaaDoorV.MapV.look m4 (t := 47) (e := 46) (Maps.int_keyed Tryd.underlying3) Tryd.underlying47 (z := .pointer none) (by kernel_rfl) (rd x.xs (j : Int)) hkey
    rw [Trie.vget_kl] at hlk
    clear hk0 m1 m2 m4 hmo
    cases hkg : Trie.kget l (rd x.xs (j : Int)) with
    | none =>
     rw [hkg] at hlk
     have hlk' : (Instr.lookup 47 (.map (some (mb i))) (.int .i64 (rd x.xs (j : Int))) false).run Tryd.prog wr = .ok (.pointer none) wr := hlk
     rw [Wy.path_end hnd hkd hkg] at hpa
     have HP9 := Aside0.mk hpa
     clear hlk hpa
     gi_wp2
     refine ⟨fun _ _ => trivial, ?_⟩
     gi_wp2
     refine bodyPost_ret (results_none rfl _ _ _) rfl ?_
     have hle : (Wy.path ar 0 x.xs).length ≤ j := List.drop_eq_nil_iff.1 HP9.out.symm
     exact ⟨⟨_, rfl⟩, (), .inl ⟨_, by unfold Wy.S; rw [List.take_of_length_le hle], HJJ.out⟩⟩
    | some q =>
     rw [hkg] at hlk
     have hlk' : (Instr.lookup 47 (.map (some (mb i))) (.int .i64 (rd x.xs (j : Int))) false).run Tryd.prog wr = .ok (.pointer (some ⟨nb q, 0, none⟩)) wr := hlk
     rw [Wy.path_step hnd hkd hkg] at hpa
     have hjl : j < (Wy.path ar 0 x.xs).length := by
      refine Nat.lt_of_not_le (fun h => ?_)
      rw [List.drop_eq_nil_of_le h] at hpa
      cases hpa
     have hpa2 : Wy.path ar q (x.xs.drop (j + 1)) = (Wy.path ar 0 x.xs).drop (j + 1) := by
      rw [List.drop_eq_getElem_cons hjl] at hpa
      injection hpa
     have hxq : (Wy.path ar 0 x.xs)[j]? = some q := by
      rw [List.drop_eq_getElem_cons hjl] at hpa
      injection hpa with hpa _
      rw [List.getElem?_eq_getElem hjl, hpa]
     have hpl : ((Wy.path ar 0 x.xs).take j).length = j := by rw [List.length_take]; omega
     have hEE : Wy.E (Wy.path ar 0 x.xs) () ((Wy.path ar 0 x.xs).take j) q := ⟨by rw [hpl]; exact hxq, by rw [hpl]⟩
     have hnext := hEE.next
     rw [hpl] at hnext
     obtain ⟨fn, tmps, assign, body, hy, hR⟩ := HY.out () _ q wr HJJ.out hEE (by rw [hpl]; exact hlt)
     rw [hnext] at hR
     have hq : q < ar.length := m3.1 _ (Trie.kget_mem hkg)
     have hy' : (Instr.yield lr #[.pointer (some ⟨nb q, 0, none⟩)]).run Tryd.prog wr = .ok (.round lr fn tmps assign body) wr := hy
     have HR_ := Aside0.mk hR
     have HP9 := Aside0.mk hpa2
     have HX9 := Aside0.mk hjl
     clear hlk hpa hpa2 hxq hpl hEE hnext hR hy hjl m3
     gi_wp2
     refine ⟨fun hd => by simp [Fence.wide] at hd, ?_⟩
     refine HR_.out.mono ?_
     rintro e W3 (⟨rfl, hJ3, hk3⟩ | ⟨rfl, hJx3⟩)
     ·have HJ3 := Aside0.mk hJ3
      have HK3 := Aside0.mk (HKP.out.trans hk3)
      clear hJ3 hk3
      gi_wp2
      go_roundw
      case rel => exact ⟨j + 1, q, by simp, rfl, by omega, hq, HX9, HP9, HJ3, HK3⟩
      case measure => (try simp [intOf]); omega
     ·gi_wp2
      refine bodyPost_ret (results_none rfl _ _ _) rfl ?_
      exact ⟨⟨_, rfl⟩, (), .inr ⟨_, trivial, hJx3⟩⟩
  ·obtain rfl : j = x.xs.length := by omega
   have kc1 : ((x.xs.length : Int) < (x.xs.length : Int)) = False := eq_false (by omega)
   have kc2 : (x.xs.length < x.xs.length) = False := eq_false (by omega)
   have hpa := HPA.out
   rw [List.drop_eq_nil_of_le (Nat.le_refl _)] at hpa
   have hle : (Wy.path ar 0 x.xs).length ≤ x.xs.length := List.drop_eq_nil_iff.1 hpa.symm
   gi_wp2
   go_end0
   exact ⟨⟨_, rfl⟩, (), .inl ⟨_, by unfold Wy.S; rw [List.take_of_length_le hle], HJJ.out⟩⟩
end Go.Proofs.YtenhfmlkdcfbbaaDoor.PHyphenPoints
