/- law21, the plain law: a text's code points, words and places. -/
import Derived.Test.YtenhfmlkdcfbbaaDoorLg
import Derived.Test.YtenhfmlkdcfbbaaDoorLc
import Derived.Test.YtenhfmlkdcfbbaaDoorLm
import Derived.Test.YtenhfmlkdcfbbaaDoorSeq
namespace Go.Proofs.YtenhfmlkdcfbbaaDoor.Law21
open Go.RowKit Go.Proofs.YtenhfmlkdcfbbaaDoorW.PrintWords Go.Proofs.YtenhfmlkdcfbbaaDoorW.PrintLast Go.Proofs.YtenhfmlkdcfbbaaDoorW.PrintMore Go.Proofs.YtenhfmlkdcfbbaaDoor.PHyphenPoints Go.Proofs.YtenhfmlkdcfbbaaDoor.LawW
set_option linter.unusedVariables false
open LawE (valid enc enc_cons)
theorem decode_cases (s : ByteArray) (hs : s.size ≤ 60000) :
    (∃ m, (∀ c ∈ m, valid c) ∧ s.data.toList = enc m ∧ Ev (fun k => utf_Decode.f k s) (m, 0, 0) ∧ Ev (fun k => colophonref04_Decode.f k s) (m, 0, 0)) ∨
    ∃ at_, (∀ m, (∀ c ∈ m, valid c) → s.data.toList ≠ enc m) ∧ Ev (fun k => utf_Decode.f k s) ([], at_, 40) ∧ Ev (fun k => colophonref04_Decode.f k s) ([], at_, 40) := by
  have hb : ∀ v, Ev (fun k => utf_Decode.f k s) v → Ev (fun k => colophonref04_Decode.f k s) v := by
    rintro v ⟨K, hK⟩
    refine ⟨K + 1000000, fun k hk => ?_⟩
    obtain ⟨r, h1, h2, _⟩ := LawD.both s (by omega) s.size k k 0 [] (by omega) (by omega) (Nat.zero_le _) (by omega) (by omega)
    have h3 : utf_Decode.f k s = some r := h1
    have h4 : colophonref04_Decode.f k s = some r := h2
    have h5 : utf_Decode.f k s = some v := hK k (by omega)
    rw [h3] at h5
    injection h5 with h5
    subst h5
    exact h4
  obtain ⟨m, rest, h1, h2, h3⟩ := LawE.split_enc s.data.toList.length s.data.toList (Nat.le_refl _)
  rcases h3 with h3 | h3
  · subst h3
    rw [List.append_nil] at h1
    have h : Ev (fun k => utf_Decode.f k s) (m, 0, 0) := ⟨100000, fun k hk => LawE.decode_all s (by omega) k hk m h2 h1⟩
    exact .inl ⟨m, h2, h1, h, hb _ h⟩
  · have h : Ev (fun k => utf_Decode.f k s) ([], ((enc m).length : Int), 40) := ⟨100000, fun k hk => LawE.decode_part s (by omega) k hk m rest h2 h1 h3⟩
    refine .inr ⟨_, fun m' hv he => ?_, h, hb _ h⟩
    have h' : Ev (fun k => utf_Decode.f k s) (m', 0, 0) := ⟨100000, fun k hk => LawE.decode_all s (by omega) k hk m' hv he⟩
    have := Ev.inj h h'
    injection this with _ q
    injection q with _ q
    cases q
theorem enc_prefix : ∀ (m M : List Int) (r : List UInt8), (∀ c ∈ m, valid c) → (∀ c ∈ M, valid c) → enc M = enc m ++ r → ∃ M', M = m ++ M' ∧ enc M' = r
  | [], M, r, _, _, h => ⟨M, rfl, h⟩
  | c :: m, M, r, hm, hM, h => by
    cases M with
    | nil =>
      have := congrArg List.length h
      rw [enc_cons, List.length_append, List.length_append] at this
      have q := (LawE.rune_len c).1
      simp [enc] at this
      omega
    | cons d M =>
      rw [enc_cons, enc_cons, List.append_assoc] at h
      have hc := hm c List.mem_cons_self
      have hd := hM d List.mem_cons_self
      obtain ⟨a1, _⟩ := LawE.dec_enc c hc (enc m ++ r)
      obtain ⟨b1, _⟩ := LawE.dec_enc d hd (enc M)
      rw [h, a1] at b1
      injection b1 with b1 b2
      have e : c = d := by
        have hc' : 0 ≤ c := by unfold valid at hc; omega
        have hd' : 0 ≤ d := by unfold valid at hd; omega
        omega
      subst e
      have h2 := List.append_cancel_left h
      obtain ⟨M', e1, e2⟩ := enc_prefix m M r (fun x hx => hm x (List.mem_cons_of_mem _ hx)) (fun x hx => hM x (List.mem_cons_of_mem _ hx)) h2
      exact ⟨M', by rw [e1]; rfl, e2⟩
theorem enc_inj {m M : List Int} (hm : ∀ c ∈ m, valid c) (hM : ∀ c ∈ M, valid c) (h : enc m = enc M) : m = M := by
  obtain ⟨M', e1, e2⟩ := enc_prefix m M [] hm hM (by rw [List.append_nil, h])
  cases M' with
  | nil => rw [e1, List.append_nil]
  | cons c r =>
    exfalso
    have q := (LawE.rune_len c).1
    rw [enc_cons] at e2
    have := congrArg List.length e2
    rw [List.length_append, List.length_nil] at this
    omega
theorem data_inj {a b : List UInt8} : (⟨a.toArray⟩ : ByteArray) = ⟨b.toArray⟩ ↔ a = b := by
  constructor
  · intro h
    injection h with h
    have := congrArg Array.toList h
    simpa using this
  · rintro rfl
    rfl
theorem size_data (s : ByteArray) : s.data.toList.length = s.size := by rw [Array.length_toList]; rfl
theorem placesFrom_enc (s : ByteArray) : ∀ (m : List Int) (fuel pos : Nat), (∀ c ∈ m, valid c) → s.data.toList.drop pos = enc m → pos ≤ s.size → m.length ≤ fuel →
    (Wd.placesFrom s fuel pos).length = m.length ∧ ∀ i, i < m.length → rd (Wd.placesFrom s fuel pos) (i : Int) = ((pos + (enc (m.take i)).length : Nat) : Int)
  | [], fuel, pos, hv, hd, hp, hf => by
    have hl := congrArg List.length hd
    rw [List.length_drop, size_data] at hl
    have he : (enc []).length = 0 := rfl
    rw [Wd.placesFrom_end s fuel pos (by omega)]
    exact ⟨rfl, fun i hi => by simp at hi⟩
  | c :: m, 0, pos, hv, hd, hp, hf => by simp at hf
  | c :: m, fuel + 1, pos, hv, hd, hp, hf => by
    have hl := congrArg List.length hd
    rw [List.length_drop, size_data, enc_cons, List.length_append] at hl
    have hw := LawE.rune_len c
    have hpos : pos < s.size := by omega
    have hdec : (Utf8.decode s pos).2 = (Lib.encodeRune c).length := by
      rw [← Lib.decodeL_drop, hd, enc_cons, (LawE.dec_enc c (hv c List.mem_cons_self) (enc m)).1]
    have hd2 : s.data.toList.drop (pos + (Lib.encodeRune c).length) = enc m := by
      rw [← List.drop_drop, hd, enc_cons, List.drop_left]
    obtain ⟨i1, i2⟩ := placesFrom_enc s m fuel (pos + (Lib.encodeRune c).length) (fun x hx => hv x (List.mem_cons_of_mem _ hx)) hd2 (by omega) (by simp at hf; omega)
    rw [Wd.placesFrom, if_pos hpos, hdec]
    refine ⟨by rw [List.length_cons, i1, List.length_cons], fun i hi => ?_⟩
    cases i with
    | zero =>
      show (pos : Int) = _
      simp [enc]
    | succ i =>
      rw [List.length_cons] at hi
      have := i2 i (by omega)
      have e : rd ((pos : Int) :: Wd.placesFrom s fuel (pos + (Lib.encodeRune c).length)) ((i + 1 : Nat) : Int) = rd (Wd.placesFrom s fuel (pos + (Lib.encodeRune c).length)) (i : Int) := rfl
      rw [e, this, List.take_succ_cons, enc_cons, List.length_append, Nat.add_assoc]
theorem places_enc (s : ByteArray) (m : List Int) (hv : ∀ c ∈ m, valid c) (h : s.data.toList = enc m) : (Wd.places s).length = m.length ∧ ∀ i, i < m.length → rd (Wd.places s) (i : Int) = ((enc (m.take i)).length : Int) := by
  have hl := LawE.enc_len m
  have hz := congrArg List.length h
  rw [size_data] at hz
  have := placesFrom_enc s m s.size 0 hv (by rw [List.drop_zero, h]) (Nat.zero_le _) (by omega)
  unfold Wd.places
  simpa using this
theorem place_ev (m : List Int) (hv : ∀ c ∈ m, valid c) (hm : m.length ≤ 60000) (i : Nat) (hi : i ≤ m.length) : Ev (fun k => colophonref21_place.f k m (i : Int)) ((enc (m.take i)).length : Int) := by
  refine ⟨200000, fun k hk => ?_⟩
  have hvt : ∀ c ∈ m.take i, valid c := fun c hc => hv c (List.mem_of_mem_take hc)
  have hl : (m.take i).length ≤ 60000 := by rw [List.length_take]; omega
  obtain ⟨r, h1, h2⟩ := LawR.enc_l0 (m.take i) (by omega) (m.take i).length k 0 [] (by omega) (by simp) (by omega)
  have h3 := LawE.encode_f (m.take i) (by omega) k (by omega)
  rw [if_pos hvt] at h3
  have h4 : utf_Encode.f k (m.take i) = some r := h1
  have h5 : colophonref04_Encode.f k (m.take i) = some r := h2
  rw [h3] at h4
  injection h4 with h4
  subst h4
  show colophonref21_place.f k m (i : Int) = _
  unfold colophonref21_place.f
  rw [if_pos (Int.natCast_nonneg _), if_pos (by omega), Int.toNat_natCast, h5, Option.bind_some]
  rfl
def wd (l : List Int) (y : S90) : List Int := (l.take y.f1.toNat).drop y.f0.toNat
def split : List Int → List Int → List (List Int)
  | [], cur => if cur = [] then [] else [cur]
  | c :: r, cur => if cls c = 1 then (if cur = [] then split r [] else cur :: split r []) else split r (cur ++ [c])
theorem words_split (l : List Int) (hl : l.length ≤ 60000) : ∀ (d n : Nat) (x : List S90) (fr : Int), n + d = l.length → (fr = -1 ∨ (0 ≤ fr ∧ fr < (n : Int))) → x.length ≤ n → 
    ∃ r, Ev (fun k => utf_Words.l0 k l x fr l (l.length : Int) (n : Int)) r ∧ r.map (wd l) = x.map (wd l) ++ split (l.drop n) (if fr < 0 then [] else (l.take n).drop fr.toNat)
  | 0, n, x, fr, hd, hf, hx => by
    have hn : n = l.length := by omega
    subst hn
    rw [List.drop_eq_nil_of_le (Nat.le_refl _), List.take_of_length_le (Nat.le_refl _)]
    rcases hf with rfl | ⟨h1, h2⟩
    · refine ⟨x, Ev.one (fun k => ?_), ?_⟩
      · rw [utf_Words.l0, if_neg (by omega), if_neg (by decide)]
      · rw [if_pos (show (-1 : Int) < 0 by decide), split, if_pos rfl, List.append_nil]
    · refine ⟨x ++ [⟨fr, (l.length : Int)⟩], Ev.one (fun k => ?_), ?_⟩
      · rw [utf_Words.l0, if_neg (by omega), if_pos (by omega), if_pos (by omega)]
      · rw [if_neg (show ¬ fr < 0 by omega), split, if_neg (fun q => by have := congrArg List.length q; rw [List.length_drop, List.length_nil] at this; omega), List.map_append]
        congr 1
        show [wd l ⟨fr, (l.length : Int)⟩] = _
        unfold wd
        rw [Int.toNat_natCast, List.take_of_length_le (Nat.le_refl _)]
  | d + 1, n, x, fr, hd, hf, hx => by
    have hn : n < l.length := by omega
    have c1 : (n : Int) < (l.length : Int) := by omega
    have c2 : x.length < 8796093022208 := by omega
    have q1 : n + 1 + d = l.length := by omega
    have e1 : wrap64 ((n : Int) + 1) = ((n + 1 : Nat) : Int) := by rw [w_in (by omega)]; omega
    have hdr : l.drop n = l[n] :: l.drop (n + 1) := List.drop_eq_getElem_cons hn
    rw [hdr, split]
    by_cases hb : cls l[n] = 1
    · have b1 : (cls l[n] == 1) = true := beq_iff_eq.2 hb
      have e : ∀ k, utf_Words.l0 (k + 1) l x fr l (l.length : Int) (n : Int) = (utf_Class.f k l[n]).bind fun t => if t = 1 then utf_Words.j1 k l x fr (n : Int) (t == 1) l (l.length : Int) (n : Int) (decide (fr ≥ 0)) else utf_Words.j1 k l x fr (n : Int) (t == 1) l (l.length : Int) (n : Int) false := by
        intro k
        rw [utf_Words.l0, if_pos c1, if_pos (Int.natCast_nonneg _), if_pos c1, rd_at hn]
      rw [if_pos hb]
      rcases hf with rfl | ⟨h1, h2⟩
      · obtain ⟨r, r1, r2⟩ := words_split l hl d (n + 1) x (-1) q1 (.inl rfl) (by omega)
        refine ⟨r, Ev.succ e (Ev.bind (class_ev _) (Ev.congr (fun k => if_pos hb) (Ev.succ (fun k => ?_) r1))), ?_⟩
        · rw [utf_Words.j1, if_neg (by decide), if_pos b1, e1]
        · rw [r2, if_pos (show (-1 : Int) < 0 by decide), if_pos (show (-1 : Int) < 0 by decide), if_pos rfl]
      · obtain ⟨r, r1, r2⟩ := words_split l hl d (n + 1) (x ++ [⟨fr, (n : Int)⟩]) (-1) q1 (.inl rfl) (by simp; omega)
        refine ⟨r, Ev.succ e (Ev.bind (class_ev _) (Ev.congr (fun k => if_pos hb) (Ev.succ (fun k => ?_) r1))), ?_⟩
        · rw [utf_Words.j1, if_pos (decide_eq_true h1), if_pos c2, e1]
        · rw [r2, if_pos (show (-1 : Int) < 0 by decide), if_neg (show ¬ fr < 0 by omega), if_neg (fun q => by have := congrArg List.length q; rw [List.length_drop, List.length_take, List.length_nil] at this; omega), List.map_append, List.append_assoc]
          congr 1
    · have b1 : (cls l[n] == 1) = false := beq_eq_false_iff_ne.2 hb
      have e : ∀ k, utf_Words.l0 (k + 1) l x fr l (l.length : Int) (n : Int) = (utf_Class.f k l[n]).bind fun t => if t = 1 then utf_Words.j1 k l x fr (n : Int) (t == 1) l (l.length : Int) (n : Int) (decide (fr ≥ 0)) else utf_Words.j1 k l x fr (n : Int) (t == 1) l (l.length : Int) (n : Int) false := by
        intro k
        rw [utf_Words.l0, if_pos c1, if_pos (Int.natCast_nonneg _), if_pos c1, rd_at hn]
      rw [if_neg hb]
      have htk : l.take (n + 1) = l.take n ++ [l[n]] := List.take_succ_eq_append_getElem hn
      rcases hf with rfl | ⟨h1, h2⟩
      · obtain ⟨r, r1, r2⟩ := words_split l hl d (n + 1) x (n : Int) q1 (.inr (by omega)) (by omega)
        refine ⟨r, Ev.succ e (Ev.bind (class_ev _) (Ev.congr (fun k => if_neg hb) (Ev.succ (fun k => ?_) r1))), ?_⟩
        · rw [utf_Words.j1, if_neg (by decide), if_neg (by rw [b1]; decide), if_pos (by decide), e1]
        · rw [r2, if_neg (show ¬ (n : Int) < 0 by omega), if_pos (show (-1 : Int) < 0 by decide), Int.toNat_natCast, htk, List.drop_append_of_le_length (by rw [List.length_take]; omega), List.drop_eq_nil_of_le (show (l.take n).length ≤ n by rw [List.length_take]; omega)]
      · obtain ⟨r, r1, r2⟩ := words_split l hl d (n + 1) x fr q1 (.inr (by omega)) (by omega)
        refine ⟨r, Ev.succ e (Ev.bind (class_ev _) (Ev.congr (fun k => if_neg hb) (Ev.succ (fun k => ?_) r1))), ?_⟩
        · rw [utf_Words.j1, if_neg (by decide), if_neg (by rw [b1]; decide), if_neg (by omega), e1]
        · rw [r2, if_neg (show ¬ fr < 0 by omega), if_neg (show ¬ fr < 0 by omega), htk, List.drop_append_of_le_length (by rw [List.length_take]; omega)]
theorem words_ev (l : List Int) (hl : l.length ≤ 60000) : ∃ r : List S90, Ev (fun k => utf_Words.f k l) r ∧ Ev (fun k => colophonref04_Words.f k l) (r.map both) ∧ r.map (wd l) = split l [] ∧ r.length ≤ l.length ∧
    ∀ y ∈ r, 0 ≤ y.f0 ∧ y.f0 < y.f1 ∧ y.f1 ≤ (l.length : Int) := by
  obtain ⟨r, r1, r2⟩ := words_split l hl l.length 0 [] (-1) (by omega) (.inl rfl) (by simp)
  rw [List.drop_zero, if_pos (by decide), List.map_nil, List.nil_append] at r2
  have r1' : Ev (fun k => utf_Words.f k l) r := r1
  obtain ⟨r', h1, h2, h3, h4⟩ := words_f l (by omega) 200000 (Nat.le_refl _)
  have e1 : Ev (fun k => utf_Words.f k l) r' := ⟨200000, fun k hk => at_rounds (g := fun k => utf_Words.f k l) (utf_Words.mono l) hk h1⟩
  have := Ev.inj r1' e1
  subst this
  obtain ⟨r', h5, h6⟩ := rwords_l0 l (by omega) l.length 300000 300000 [] (-1) 0 (by omega) (by omega) (by omega) (by omega) (by omega) (by simp) (fun h => absurd h (by decide))
  have e2 : Ev (fun k => utf_Words.f k l) r' := ⟨300000, fun k hk => at_rounds (g := fun k => utf_Words.f k l) (utf_Words.mono l) hk h5⟩
  have := Ev.inj r1' e2
  subst this
  refine ⟨r, r1', ⟨300000, fun k hk => at_rounds (g := fun k => colophonref04_Words.f k l) (colophonref04_Words.mono l) hk h6⟩, r2, by omega, fun y hy => ?_⟩
  obtain ⟨i, hi, rfl⟩ := List.getElem_of_mem hy
  have hseg := h2.seg
  have key : ∀ j, j ≤ r.length → 0 ≤ atOf r j := by
    intro j
    induction j with
    | zero => intro _; unfold atOf; rw [if_pos rfl]; exact Int.le_refl _
    | succ j ih =>
      intro hj
      have q := ih (by omega)
      obtain ⟨a1, a2, _⟩ := hseg j (by omega)
      unfold atOf
      rw [if_neg (by omega), Nat.add_sub_cancel]
      omega
  obtain ⟨a1, a2, a3, _⟩ := hseg i hi
  have e3 : r.getD i z90 = r[i] := by rw [List.getD_eq_getElem?_getD, List.getElem?_eq_getElem hi]; rfl
  rw [e3] at a1 a2 a3
  have := key i (by omega)
  omega
end Go.Proofs.YtenhfmlkdcfbbaaDoor.Law21
