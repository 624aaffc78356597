/- Plain law of UTF-8: what the automaton takes is just what can be the beginning of a right content. -/
import Derived.Test.YtjookjdpfbflkaaMTxt
namespace Go.Proofs.Ytjookjdpfbflkaa.Tx

theorem rep1 (b : Int) : rep 1 b = [b] := rfl
theorem rep2 (b : Int) : rep 2 b = [b, b] := rfl
theorem rep3 (b : Int) : rep 3 b = [b, b, b] := rfl
/-- Where no whole character begins, the automaton takes what can be filled up, and nothing else. -/
theorem run_part (N lo hi : Int) (l : List Int) (hb : Bytes l) (hN : (l.length : Int) ≤ N) (h0 : l ≠ []) (hc : chr l = 0) :
    (run 12 (N, 0, lo, hi) l).isSome = (decide (l.length ≤ 3) && fill (N - l.length) l) := by
  cases l with
  | nil => exact absurd rfl h0
  | cons a r =>
    have ha := hb a (by simp)
    simp only [List.length_cons] at hN
    have h1 : ¬ a < 128 := by intro h; simp only [chr] at hc; rw [if_pos h] at hc; cases hc
    rw [run12, u8_new, first_hi a (by omega)]
    -- no first byte of a character
    have none_ : (a < 194 ∨ a > 244) → fill (N - ((a :: r).length : Int)) (a :: r) = false := by
      intro h
      have e : ∀ (k : Nat) (b : Int), (b = 128 ∨ b = 191) → (k = 1 ∨ k = 2 ∨ k = 3) → (chr (a :: r ++ rep k b) == (a :: r).length + k) = false := by
        intro k b hb' hk
        rw [beq_eq_false_iff_ne]
        have hs := chr_le (a :: r ++ rep k b)
        have : chr (a :: r ++ rep k b) = 0 := by
          simp only [List.cons_append, chr]
          rw [if_neg h1]
          have hbb : ∀ x, x ∈ r ++ rep k b → 0 ≤ x ∧ x < 256 := by
            intro x hx
            rcases List.mem_append.1 hx with hx | hx
            · exact hb x (by simp [hx])
            · have := List.eq_of_mem_replicate hx; omega
          split
          · rename_i g
            split
            · rename_i b' r' heq
              rw [if_neg]
              simp only [ch2, cont, Bool.and_eq_true, decide_eq_true_eq]
              omega
            · rfl
          split
          · omega
          split
          · split
            · rename_i b' c' d' r' heq
              rw [if_neg]
              simp only [ch4, cont, Bool.and_eq_true, decide_eq_true_eq]
              omega
            · rfl
          · rfl
        rw [this]; simp; omega
      simp only [fill, ends]
      rw [e 1 128 (.inl rfl) (.inl rfl), e 1 191 (.inr rfl) (.inl rfl), e 2 128 (.inl rfl) (.inr (.inl rfl)), e 2 191 (.inr rfl) (.inr (.inl rfl)), e 3 128 (.inl rfl) (.inr (.inr rfl)), e 3 191 (.inr rfl) (.inr (.inr rfl))]
      simp
    by_cases hf : a < 194 ∨ a > 244
    · rw [if_pos hf, none_ hf]; simp
    rw [if_neg hf]
    by_cases h2 : a < 224
    · rw [if_pos h2]
      simp only
      cases r with
      | nil =>
        simp only [List.length_nil] at hN
        have e1 : chr ([a] ++ rep 1 128) = 2 := by
          simp only [rep1, List.cons_append, List.nil_append, chr]
          rw [if_neg h1, if_pos (by omega), if_pos (by simp [ch2, cont]; omega)]
        have e2 : ∀ b, (b = 128 ∨ b = 191) → chr ([a] ++ rep 2 b) = 2 := by
          intro b hb'
          simp only [rep2, List.cons_append, List.nil_append, chr]
          rw [if_neg h1, if_pos (by omega), if_pos (by simp [ch2, cont]; omega)]
        have e3 : ∀ b, (b = 128 ∨ b = 191) → chr ([a] ++ rep 3 b) = 2 := by
          intro b hb'
          simp only [rep3, List.cons_append, List.nil_append, chr]
          rw [if_neg h1, if_pos (by omega), if_pos (by simp [ch2, cont]; omega)]
        simp only [fill, ends]
        rw [e1, e2 128 (.inl rfl), e2 191 (.inr rfl), e3 128 (.inl rfl), e3 191 (.inr rfl)]
        by_cases hl : (1 : Int) > N - 1
        · rw [if_pos hl]; simp; omega
        · rw [if_neg hl]; simp [run]; omega
      | cons b r =>
        have hnc : ch2 a b = false := by
          simp only [chr] at hc
          rw [if_neg h1, if_pos (by omega)] at hc
          cases h : ch2 a b with
          | false => rfl
          | true => rw [h] at hc; simp at hc
        have hbad : b < 128 ∨ b > 191 := by
          simp only [ch2, cont, Bool.and_eq_false_iff, decide_eq_false_iff_not] at hnc
          omega
        have e : ∀ (k : Nat) (x : Int), chr (a :: b :: r ++ rep k x) = 0 := by
          intro k x
          simp only [List.cons_append, chr]
          rw [if_neg h1, if_pos (by omega), hnc]; rfl
        simp only [fill, ends]
        rw [e, e, e, e, e, e]
        simp only [List.length_cons] at hN ⊢
        rw [if_neg (by omega)]
        simp only
        rw [run12, u8_in _ _ _ _ _ (by decide), if_pos hbad]
        simp
    by_cases h3 : a < 240
    · -- three bytes
      have mid : ∀ lo' hi' : Int, (∀ x, (lo' ≤ x ∧ x ≤ hi') ↔ (128 ≤ x ∧ x ≤ 191 ∧ (a = 224 → 160 ≤ x) ∧ (a = 237 → x ≤ 159))) →
          ((match (if (2 : Int) > N - 1 then none else some (N - 1, (2 : Int), lo', hi') : Option St) with
            | none => none
            | some s' => run 12 s' r) : Option St).isSome = (decide ((a :: r).length ≤ 3) && fill (N - ((a :: r).length : Int)) (a :: r)) := by
        intro lo' hi' hlh
        have c3 : ∀ (b c : Int), ch3 a b c = (decide (lo' ≤ b ∧ b ≤ hi') && cont c) := by
          intro b c
          have := hlh b
          rw [Bool.eq_iff_iff]
          simp only [ch3, cont, Bool.and_eq_true, decide_eq_true_eq, Bool.not_eq_true', Bool.and_eq_false_iff, decide_eq_false_iff_not, this]
          omega
        have chr3 : ∀ (b c : Int) (t : List Int), chr (a :: b :: c :: t) = if ch3 a b c = true then 3 else 0 := by
          intro b c t
          simp only [chr]
          rw [if_neg h1, if_neg (by omega), if_pos (by omega)]
        have w128 : cont 128 = true := by decide
        have w191 : cont 191 = true := by decide
        cases r with
        | nil =>
          simp only [List.length_nil] at hN
          have e1 : ∀ x, chr ([a] ++ rep 1 x) = 0 := by
            intro x
            simp only [rep1, List.cons_append, List.nil_append, chr]
            rw [if_neg h1, if_neg (by omega), if_pos (by omega)]
          have p1 : ∀ x, [a] ++ rep 2 x = [a, x, x] := fun x => rfl
          have p2 : ∀ x, [a] ++ rep 3 x = [a, x, x, x] := fun x => rfl
          have q : (chr [a, 128, 128] == 3 || chr [a, 191, 191] == 3) = true := by
            rw [chr3, chr3, c3, c3, w128, w191]
            by_cases h : a = 224
            · have : decide (lo' ≤ 191 ∧ 191 ≤ hi') = true := by rw [decide_eq_true_eq, hlh]; omega
              rw [this]; simp
            · have : decide (lo' ≤ 128 ∧ 128 ≤ hi') = true := by rw [decide_eq_true_eq, hlh]; omega
              rw [this]; simp
          simp only [fill, ends]
          rw [e1, e1, p1, p1, p2, p2, chr3, chr3, chr3, chr3]
          rw [chr3, chr3] at q
          by_cases hl : (2 : Int) > N - 1
          · rw [if_pos hl]
            simp only [List.length_cons, List.length_nil]
            have : decide ((2 : Int) ≤ N - ((0 + 1 : Nat) : Int)) = false := by simp; omega
            rw [this]; simp
          · rw [if_neg hl]
            simp only [List.length_cons, List.length_nil, run, Option.isSome_some]
            have t1 : decide ((1 : Int) ≤ N - ((0 + 1 : Nat) : Int)) = true := by simp; omega
            have t2 : decide ((2 : Int) ≤ N - ((0 + 1 : Nat) : Int)) = true := by simp; omega
            rw [t1, t2, show 0 + 1 + 2 = 3 from rfl, q]; simp
        | cons b r =>
          simp only [List.length_cons] at hN
          by_cases hl : (2 : Int) > N - 1
          · rw [if_pos hl]
            simp only [Option.isSome_none, fill, List.length_cons]
            have : decide ((1 : Int) ≤ N - ((r.length + 1 + 1 : Nat) : Int)) = false := by simp; omega
            rw [this]; simp
          rw [if_neg hl]
          simp only
          rw [run12, u8_in _ _ _ _ _ (by decide)]
          by_cases hbb : lo' ≤ b ∧ b ≤ hi'
          · rw [if_neg (by omega)]
            simp only
            cases r with
            | nil =>
              simp only [List.length_nil] at hN
              have p1 : ∀ x, [a, b] ++ rep 1 x = [a, b, x] := fun x => rfl
              have p2 : ∀ x, [a, b] ++ rep 2 x = [a, b, x, x] := fun x => rfl
              have p3 : ∀ x, [a, b] ++ rep 3 x = [a, b, x, x, x] := fun x => rfl
              have d1 : decide (lo' ≤ b ∧ b ≤ hi') = true := by simpa using hbb
              simp only [fill, ends]
              rw [p1, p1, p2, p2, p3, p3, chr3, chr3, chr3, chr3, chr3, chr3, c3, c3, w128, w191, d1]
              simp only [run, Option.isSome_some, List.length_cons, List.length_nil]
              simp
              omega
            | cons c r =>
              have hnc : cont c = false := by
                rw [chr3, c3] at hc
                have d1 : decide (lo' ≤ b ∧ b ≤ hi') = true := by simpa using hbb
                rw [d1] at hc
                cases h : cont c with
                | false => rfl
                | true => rw [h] at hc; simp at hc
              have e : ∀ (k : Nat) (x : Int), chr (a :: b :: c :: r ++ rep k x) = 0 := by
                intro k x
                simp only [List.cons_append]
                rw [chr3, c3, hnc]; simp
              simp only [fill, ends]
              rw [e, e, e, e, e, e, run12, u8_in _ _ _ _ _ (by decide)]
              simp only [cont, Bool.and_eq_false_iff, decide_eq_false_iff_not] at hnc
              rw [if_pos (by omega)]
              simp
          · rw [if_pos (by omega)]
            have d1 : decide (lo' ≤ b ∧ b ≤ hi') = false := by simpa using hbb
            have e : ∀ (k : Nat) (x : Int), 1 ≤ k → chr (a :: b :: r ++ rep k x) = 0 := by
              intro k x hk
              cases r with
              | nil =>
                obtain ⟨j, rfl⟩ : ∃ j, k = j + 1 := ⟨k - 1, by omega⟩
                have : [a, b] ++ rep (j + 1) x = a :: b :: x :: rep j x := rfl
                rw [this, chr3, c3, d1]; simp
              | cons c r =>
                simp only [List.cons_append]
                rw [chr3, c3, d1]; simp
            simp only [fill, ends]
            rw [e _ _ (by decide), e _ _ (by decide), e _ _ (by decide), e _ _ (by decide), e _ _ (by decide), e _ _ (by decide)]
            simp
      rw [if_neg h2]
      by_cases g1 : a = 224
      · rw [if_pos g1]; exact mid 160 191 (fun x => by omega)
      by_cases g2 : a = 237
      · rw [if_neg g1, if_pos g2]; exact mid 128 159 (fun x => by omega)
      · rw [if_neg g1, if_neg g2, if_pos h3]; exact mid 128 191 (fun x => by omega)
    · -- four bytes
      have mid : ∀ lo' hi' : Int, (∀ x, (lo' ≤ x ∧ x ≤ hi') ↔ (128 ≤ x ∧ x ≤ 191 ∧ (a = 240 → 144 ≤ x) ∧ (a = 244 → x ≤ 143))) →
          ((match (if (3 : Int) > N - 1 then none else some (N - 1, (3 : Int), lo', hi') : Option St) with
            | none => none
            | some s' => run 12 s' r) : Option St).isSome = (decide ((a :: r).length ≤ 3) && fill (N - ((a :: r).length : Int)) (a :: r)) := by
        intro lo' hi' hlh
        have c4 : ∀ (b c d : Int), ch4 a b c d = (decide (lo' ≤ b ∧ b ≤ hi') && cont c && cont d) := by
          intro b c d
          have := hlh b
          rw [Bool.eq_iff_iff]
          simp only [ch4, cont, Bool.and_eq_true, decide_eq_true_eq, this]
          omega
        have chr4 : ∀ (b c d : Int) (t : List Int), chr (a :: b :: c :: d :: t) = if ch4 a b c d = true then 4 else 0 := by
          intro b c d t
          simp only [chr]
          rw [if_neg h1, if_neg (by omega), if_neg (by omega), if_pos (by omega)]
        have short : ∀ t : List Int, t.length ≤ 2 → chr (a :: t) = 0 := by
          intro t ht
          simp only [chr]
          rw [if_neg h1, if_neg (by omega), if_neg (by omega), if_pos (by omega)]
          match t, ht with
          | [], _ => rfl
          | [_], _ => rfl
          | [_, _], _ => rfl
        have w128 : cont 128 = true := by decide
        have w191 : cont 191 = true := by decide
        cases r with
        | nil =>
          simp only [List.length_nil] at hN
          have e1 : ∀ x, chr ([a] ++ rep 1 x) = 0 := fun x => short [x] (by simp)
          have e2 : ∀ x, chr ([a] ++ rep 2 x) = 0 := fun x => short [x, x] (by simp)
          have p3 : ∀ x, [a] ++ rep 3 x = [a, x, x, x] := fun x => rfl
          have q : (chr [a, 128, 128, 128] == 4 || chr [a, 191, 191, 191] == 4) = true := by
            rw [chr4, chr4, c4, c4, w128, w191]
            by_cases h : a = 240
            · have : decide (lo' ≤ 191 ∧ 191 ≤ hi') = true := by rw [decide_eq_true_eq, hlh]; omega
              rw [this]; simp
            · have : decide (lo' ≤ 128 ∧ 128 ≤ hi') = true := by rw [decide_eq_true_eq, hlh]; omega
              rw [this]; simp
          simp only [fill, ends]
          rw [e1, e1, e2, e2, p3, p3]
          by_cases hl : (3 : Int) > N - 1
          · rw [if_pos hl]
            simp only [List.length_cons, List.length_nil]
            have : decide ((3 : Int) ≤ N - ((0 + 1 : Nat) : Int)) = false := by simp; omega
            rw [this]; simp
          · rw [if_neg hl]
            simp only [List.length_cons, List.length_nil, run, Option.isSome_some]
            have t1 : decide ((1 : Int) ≤ N - ((0 + 1 : Nat) : Int)) = true := by simp; omega
            have t2 : decide ((2 : Int) ≤ N - ((0 + 1 : Nat) : Int)) = true := by simp; omega
            have t3 : decide ((3 : Int) ≤ N - ((0 + 1 : Nat) : Int)) = true := by simp; omega
            rw [t1, t2, t3, show 0 + 1 + 3 = 4 from rfl, q]; simp
        | cons b r =>
          simp only [List.length_cons] at hN
          by_cases hl : (3 : Int) > N - 1
          · rw [if_pos hl]
            -- too few bytes are left
            simp only [Option.isSome_none]
            cases r with
            | nil =>
              simp only [fill, ends]
              rw [show ([a, b] ++ rep 1 128) = a :: [b, 128] from rfl, show ([a, b] ++ rep 1 191) = a :: [b, 191] from rfl, short _ (by simp), short _ (by simp)]
              simp only [List.length_cons, List.length_nil] at hN ⊢
              have : decide ((2 : Int) ≤ N - ((0 + 1 + 1 : Nat) : Int)) = false := by simp; omega
              rw [this]; simp
            | cons c r =>
              simp only [fill, List.length_cons] at hN ⊢
              have : decide ((1 : Int) ≤ N - ((r.length + 1 + 1 + 1 : Nat) : Int)) = false := by simp; omega
              rw [this]; simp
          rw [if_neg hl]
          simp only
          rw [run12, u8_in _ _ _ _ _ (by decide)]
          by_cases hbb : lo' ≤ b ∧ b ≤ hi'
          · have d1 : decide (lo' ≤ b ∧ b ≤ hi') = true := by simpa using hbb
            rw [if_neg (by omega)]
            simp only
            cases r with
            | nil =>
              simp only [List.length_nil] at hN
              have p1 : ∀ x, chr ([a, b] ++ rep 1 x) = 0 := fun x => short [b, x] (by simp)
              have p2 : ∀ x, [a, b] ++ rep 2 x = [a, b, x, x] := fun x => rfl
              have p3 : ∀ x, [a, b] ++ rep 3 x = [a, b, x, x, x] := fun x => rfl
              simp only [fill, ends]
              rw [p1, p1, p2, p2, p3, p3, chr4, chr4, chr4, chr4, c4, c4, w128, w191, d1]
              simp only [run, Option.isSome_some, List.length_cons, List.length_nil]
              simp
              omega
            | cons c r =>
              simp only [List.length_cons] at hN
              rw [run12, u8_in _ _ _ _ _ (by decide)]
              by_cases hcc : 128 ≤ c ∧ c ≤ 191
              · have dc : cont c = true := by simp [cont]; omega
                rw [if_neg (by omega)]
                simp only
                cases r with
                | nil =>
                  simp only [List.length_nil] at hN
                  have p1 : ∀ x, [a, b, c] ++ rep 1 x = [a, b, c, x] := fun x => rfl
                  have p2 : ∀ x, [a, b, c] ++ rep 2 x = [a, b, c, x, x] := fun x => rfl
                  have p3 : ∀ x, [a, b, c] ++ rep 3 x = [a, b, c, x, x, x] := fun x => rfl
                  simp only [fill, ends]
                  rw [p1, p1, p2, p2, p3, p3, chr4, chr4, chr4, chr4, chr4, chr4, c4, c4, w128, w191, d1, dc]
                  simp only [run, Option.isSome_some, List.length_cons, List.length_nil]
                  simp
                  omega
                | cons d r =>
                  have hnd : cont d = false := by
                    rw [chr4, c4, d1, dc] at hc
                    cases h : cont d with
                    | false => rfl
                    | true => rw [h] at hc; simp at hc
                  rw [run12, u8_in _ _ _ _ _ (by decide)]
                  simp only [cont, Bool.and_eq_false_iff, decide_eq_false_iff_not] at hnd
                  rw [if_pos (by omega)]
                  simp
              · have dc : cont c = false := by simp [cont]; omega
                rw [if_pos (by omega)]
                have e : ∀ (k : Nat) (x : Int), 1 ≤ k → chr (a :: b :: c :: r ++ rep k x) = 0 := by
                  intro k x hk
                  cases r with
                  | nil =>
                    obtain ⟨j, rfl⟩ : ∃ j, k = j + 1 := ⟨k - 1, by omega⟩
                    have : [a, b, c] ++ rep (j + 1) x = a :: b :: c :: x :: rep j x := rfl
                    rw [this, chr4, c4, dc]; simp
                  | cons d r =>
                    simp only [List.cons_append]
                    rw [chr4, c4, dc]; simp
                simp only [fill, ends]
                rw [e _ _ (by decide), e _ _ (by decide), e _ _ (by decide), e _ _ (by decide), e _ _ (by decide), e _ _ (by decide)]
                simp
          · have d1 : decide (lo' ≤ b ∧ b ≤ hi') = false := by simpa using hbb
            rw [if_pos (by omega)]
            have e : ∀ (k : Nat) (x : Int), 1 ≤ k → chr (a :: b :: r ++ rep k x) = 0 := by
              intro k x hk
              cases r with
              | nil =>
                obtain ⟨j, rfl⟩ : ∃ j, k = j + 1 := ⟨k - 1, by omega⟩
                cases j with
                | zero => exact short [b, x] (by simp)
                | succ j =>
                  have : [a, b] ++ rep (j + 1 + 1) x = a :: b :: x :: x :: rep j x := rfl
                  rw [this, chr4, c4, d1]; simp
              | cons c r =>
                cases r with
                | nil =>
                  obtain ⟨j, rfl⟩ : ∃ j, k = j + 1 := ⟨k - 1, by omega⟩
                  have : [a, b, c] ++ rep (j + 1) x = a :: b :: c :: x :: rep j x := rfl
                  rw [this, chr4, c4, d1]; simp
                | cons d r =>
                  simp only [List.cons_append]
                  rw [chr4, c4, d1]; simp
            simp only [fill, ends]
            rw [e _ _ (by decide), e _ _ (by decide), e _ _ (by decide), e _ _ (by decide), e _ _ (by decide), e _ _ (by decide)]
            simp
      rw [if_neg h2, if_neg (by omega), if_neg (by omega), if_neg h3]
      by_cases g1 : a = 240
      · rw [if_pos g1]; exact mid 144 191 (fun x => by omega)
      by_cases g2 : a = 244
      · rw [if_neg g1, if_pos g2]; exact mid 128 143 (fun x => by omega)
      · rw [if_neg g1, if_neg g2]; exact mid 128 191 (fun x => by omega)

theorem run_can : ∀ (n : Nat) (l : List Int) (N lo hi : Int), l.length ≤ n → Bytes l → (l.length : Int) ≤ N → (run 12 (N, 0, lo, hi) l).isSome = canU N l := by
  intro n
  induction n with
  | zero =>
    intro l N lo hi hn _ _
    obtain rfl : l = [] := List.eq_nil_of_length_eq_zero (by omega)
    simp [run, canU, lst]
  | succ n ih =>
    intro l N lo hi hn hb hN
    by_cases h0 : l = []
    · subst h0; simp [run, canU, lst]
    have hpos : 0 < l.length := List.length_pos_iff.2 h0
    obtain ⟨m, hm⟩ : ∃ m, l.length = m + 1 := ⟨l.length - 1, by omega⟩
    by_cases hc : chr l = 0
    · rw [run_part N lo hi l hb hN h0 hc]
      have : lst l.length l = 0 := by rw [hm]; simp only [lst]; rw [if_pos hc]
      unfold canU
      rw [this, if_neg (show ¬ (0 = l.length) by omega), List.drop_zero]
      by_cases h3 : l.length ≤ 3
      · rw [if_neg (by omega)]; simp [h3]
      · rw [if_pos (by omega)]; simp [h3]
    · have hle := chr_le l
      have hdl : (l.drop (chr l)).length = l.length - chr l := List.length_drop
      rw [run_chr N lo hi l hb hN hc, ih _ _ _ _ (by omega) (hb.drop _) (by omega)]
      have e : lst l.length l = chr l + lst (l.drop (chr l)).length (l.drop (chr l)) := by
        rw [hm]; simp only [lst]; rw [if_neg hc]
        rw [lst_more m (l.drop (chr l)).length _ (by omega) (by omega)]
      have hll : ∀ (k : Nat) (t : List Int), lst k t ≤ t.length := by
        intro k
        induction k with
        | zero => intro t; simp [lst]
        | succ k ih2 =>
          intro t
          simp only [lst]
          split
          · omega
          · have := ih2 (t.drop (chr t))
            have := chr_le t
            rw [List.length_drop] at *
            omega
      have hq := hll (l.drop (chr l)).length (l.drop (chr l))
      unfold canU
      rw [e, hdl] at *
      rw [List.drop_drop]
      generalize lst (l.length - chr l) (l.drop (chr l)) = q at *
      have i1 : (l.length - chr l - q > 3) ↔ (l.length - (chr l + q) > 3) := by omega
      have i2 : (q = l.length - chr l) ↔ (chr l + q = l.length) := by omega
      simp only [i1, i2]
      rw [show N - (chr l : Int) - ((l.length - chr l : Nat) : Int) = N - (l.length : Int) by omega]
theorem run_valid : ∀ (n : Nat) (l : List Int) (lo hi : Int), l.length ≤ n → Bytes l → (run 12 ((l.length : Int), 0, lo, hi) l).isSome = valid n l := by
  intro n
  induction n with
  | zero =>
    intro l lo hi hn _
    obtain rfl : l = [] := List.eq_nil_of_length_eq_zero (by omega)
    rfl
  | succ n ih =>
    intro l lo hi hn hb
    by_cases h0 : l = []
    · subst h0; rfl
    have hem : l.isEmpty = false := by simpa using h0
    simp only [valid]
    rw [hem, if_neg (by decide)]
    by_cases hc : chr l = 0
    · rw [run_part _ lo hi l hb (by omega) h0 hc, if_pos hc]
      simp [fill]
    · have hle := chr_le l
      have hdl : (l.drop (chr l)).length = l.length - chr l := List.length_drop
      rw [run_chr _ lo hi l hb (by omega) hc, if_neg hc, ← ih _ 128 191 (by omega) (hb.drop _), hdl, show ((l.length : Int) - (chr l : Int)) = ((l.length - chr l : Nat) : Int) by omega]
/-- Other tags: byte by byte. -/
theorem run_plain (tag : Int) (h : tag ≠ 12) : ∀ (l : List Int) (s : St), (run tag s l).isSome = l.all (plain tag) := by
  intro l
  induction l with
  | nil => intro s; rfl
  | cons b r ih =>
    intro s
    simp only [run, stp, List.all_cons]
    rw [if_neg h]
    by_cases hp : plain tag b = true
    · rw [if_pos hp, hp]; simpa using ih _
    · rw [if_neg hp, show plain tag b = false by simpa using hp]; rfl
/-- Can a content of n bytes begin so? -/
def can (tag n : Int) (l : List Int) : Bool := if n < 0 then false else if tag = 12 then canU n l else l.all (plain tag)
def st0 (n : Int) : St := (n, 0, 0, 0)
theorem run_is (tag n : Int) (l : List Int) (hb : Bytes l) (hn : (l.length : Int) ≤ n) : (run tag (st0 n) l).isSome = can tag n l := by
  unfold can
  rw [if_neg (by omega)]
  by_cases h : tag = 12
  · subst h; rw [if_pos rfl]; exact run_can _ l n 0 0 (Nat.le_refl _) hb hn
  · rw [if_neg h]; exact run_plain tag h l _
/-- A content, whole. -/
def check (tag : Int) (l : List Int) : Bool := if tag = 12 then valid l.length l else l.all (plain tag)
theorem run_check (tag : Int) (l : List Int) (hb : Bytes l) : (run tag (st0 l.length) l).isSome = check tag l := by
  unfold check
  by_cases h : tag = 12
  · subst h; rw [if_pos rfl]; exact run_valid _ l 0 0 (Nat.le_refl _) hb
  · rw [if_neg h]; exact run_plain tag h l _
/-- What is taken has beginnings that are taken. -/
theorem run_front (tag : Int) (s : St) (l : List Int) (n : Nat) (h : (run tag s l).isSome = true) : (run tag s (l.take n)).isSome = true := by
  have := run_append tag (l.take n) (l.drop n) s
  rw [List.take_append_drop] at this
  rw [this] at h
  cases hr : run tag s (l.take n) with
  | none => rw [hr] at h; simp at h
  | some x => rfl
theorem chr_front (l r : List Int) (h : chr l ≠ 0) : chr (l ++ r) = chr l := by
  cases l with
  | nil => exact absurd rfl h
  | cons a t =>
    simp only [List.cons_append, chr] at h ⊢
    split
    · rfl
    rename_i h1
    rw [if_neg h1] at h
    split
    · rename_i h2
      rw [if_pos h2] at h
      cases t with
      | nil => exact absurd rfl h
      | cons b t => rfl
    rename_i h2
    rw [if_neg h2] at h
    split
    · rename_i h3
      rw [if_pos h3] at h
      match t, h with
      | [], h => exact absurd rfl h
      | [_], h => exact absurd rfl h
      | b :: c :: t, h => rfl
    rename_i h3
    rw [if_neg h3] at h
    split
    · rename_i h4
      rw [if_pos h4] at h
      match t, h with
      | [], h => exact absurd rfl h
      | [_], h => exact absurd rfl h
      | [_, _], h => exact absurd rfl h
      | b :: c :: d :: t, h => rfl
    · rename_i h4
      exact absurd (if_neg h4) h
theorem valid_append : ∀ (n : Nat) (a b : List Int), a.length ≤ n → valid n a = true → valid (a ++ b).length (a ++ b) = valid b.length b := by
  intro n
  induction n with
  | zero =>
    intro a b hn _
    obtain rfl : a = [] := List.eq_nil_of_length_eq_zero (by omega)
    rfl
  | succ n ih =>
    intro a b hn hv
    by_cases h0 : a = []
    · subst h0; rfl
    have hem : a.isEmpty = false := by simpa using h0
    simp only [valid] at hv
    rw [hem, if_neg (by decide)] at hv
    by_cases hc : chr a = 0
    · rw [if_pos hc] at hv; cases hv
    · rw [if_neg hc] at hv
      have hle := chr_le a
      have hdl : (a.drop (chr a)).length = a.length - chr a := List.length_drop
      have hi := ih (a.drop (chr a)) b (by omega) hv
      rw [← hi]
      obtain ⟨m, hm⟩ : ∃ m, (a ++ b).length = m + 1 := ⟨a.length + b.length - 1, by rw [List.length_append]; have := List.length_pos_iff.2 h0; omega⟩
      rw [hm]
      simp only [valid]
      rw [show (a ++ b).isEmpty = false by simp [h0], if_neg (by decide), chr_front a b hc, if_neg hc, List.drop_append_of_le_length hle.1]
      exact valid_more _ _ _ (by simp at hm ⊢; omega) (Nat.le_refl _)
theorem ia5_valid : ∀ (l : List Int), l.all (plain 22) = true → valid l.length l = true := by
  intro l
  induction l with
  | nil => intro _; rfl
  | cons a r ih =>
    intro h
    simp only [List.all_cons, Bool.and_eq_true] at h
    have ha : a < 128 := by simpa [plain] using h.1
    have e : chr (a :: r) = 1 := by simp only [chr]; rw [if_pos ha]
    simp only [List.length_cons, valid]
    rw [show (a :: r).isEmpty = false from rfl, if_neg (by decide), e, if_neg (by decide)]
    exact ih h.2
theorem printable_ia5 (b : Int) (h : plain 19 b = true) : plain 22 b = true := by
  simp [plain, printable] at h ⊢
  omega
end Go.Proofs.Ytjookjdpfbflkaa.Tx
