/- All sets of k numbers below n, in lexicographic order, as the iterator goes from one to the next: plain lists. -/

namespace Go.Proofs.YtegffolimjiioaaGreatDoor.Sets
def down (n k : Int) (s : List Int) : Nat → Int
 | 0 => -1
 | i + 1 => if s.getD i 0 = n - k + (i : Int) then down n k s i else i
def bump (s : List Int) (i k : Nat) : List Int := s.take i ++ (List.range (k - i)).map fun (t : Nat) => s.getD i 0 + 1 + (t : Int)
def first (k : Nat) : List Int := (List.range k).map fun (t : Nat) => (t : Int)
def Run (n k : Nat) : List Int → List (List Int) → Prop
 | _, [] => False
 | s, [x] => x = s ∧ down n k s k < 0
 | s, x :: y :: rest => x = s ∧ 0 ≤ down n k s k ∧ Run n k (bump s (down n k s k).toNat k) (y :: rest)
def runB (n k : Nat) : List Int → List (List Int) → Bool
 | _, [] => false
 | s, [x] => decide (x = s) && decide (down n k s k < 0)
 | s, x :: y :: rest => decide (x = s) && (decide (0 ≤ down n k s k) && runB n k (bump s (down n k s k).toNat k) (y :: rest))
theorem run_of : ∀ {n k : Nat} {s : List Int} {xs : List (List Int)}, runB n k s xs = true → Run n k s xs
 | _, _, _, [], h => by simp [runB] at h
 | _, _, _, [x], h => by simpa [runB, Run] using h
 | n, k, s, x :: y :: rest, h => by
  simp only [runB, Bool.and_eq_true, decide_eq_true_eq] at h
  exact ⟨h.1, h.2.1, run_of h.2.2⟩
def lex : Nat → Int → Nat → List (List Int)
 | _, _, 0 => [[]]
 | 0, _, _ + 1 => []
 | m + 1, lo, k + 1 => (lex m (lo + 1) k).map (lo :: ·) ++ lex m (lo + 1) (k + 1)
def sets (n k : Nat) : List (List Int) := lex n 0 k
theorem run_tab : ∀ n : Fin 13, ∀ k : Fin 13, k.val ≤ n.val → runB n.val k.val (first k.val) (sets n.val k.val) = true := by decide +kernel
theorem run_sets {n k : Nat} (hn : n ≤ 12) (hk : k ≤ n) : Run n k (first k) (sets n k) := run_of (run_tab ⟨n, by omega⟩ ⟨k, by omega⟩ hk)
end Go.Proofs.YtegffolimjiioaaGreatDoor.Sets
