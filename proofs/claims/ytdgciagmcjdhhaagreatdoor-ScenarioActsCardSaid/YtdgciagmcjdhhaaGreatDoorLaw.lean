/-
  The plain laws: what the program's closures say together is what the reference says; the words of a valid act are read back as the act; what is read is printed as its text.
-/
import Derived.Test.YtdgciagmcjdhhaaGreatDoorDefs
import Derived.Test.YtdgciagmcjdhhaaGreatDoorPlain
set_option linter.unusedVariables false
set_option linter.unusedSimpArgs false
namespace Go.Proofs.YtdgciagmcjdhhaaGreatDoor
open Go Go.RowKit

theorem kind_cases {k : Int} (h0 : 0 ≤ k) (h17 : k ≤ 17) : k = 0 ∨ k = 1 ∨ k = 2 ∨ k = 3 ∨ k = 4 ∨ k = 5 ∨ k = 6 ∨ k = 7 ∨ k = 8 ∨ k = 9 ∨ k = 10 ∨ k = 11 ∨ k = 12 ∨ k = 13 ∨ k = 14 ∨ k = 15 ∨ k = 16 ∨ k = 17 := by omega
theorem same_parts {x y : ActD} (h : sameB x y = true) : x.kind = y.kind ∧ x.a = y.a ∧ x.b = y.b ∧ x.c = y.c ∧ x.ok = y.ok ∧ x.key = y.key ∧ x.val = y.val ∧ x.old = y.old ∧ x.ms = y.ms ∧ x.ss = y.ss := by
  simp only [sameB, Bool.and_eq_true, beq_iff_eq] at h
  obtain ⟨⟨⟨⟨⟨⟨h1, h2⟩, h3⟩, h4⟩, ⟨⟨h5, h6⟩, h7⟩, h8⟩, h9⟩, h10⟩ := h
  exact ⟨h1, h2, h3, h4, h5, by rw [← bs_toList x.key, h6, bs_toList], h7, h8, h9, h10⟩
theorem same_eq {x y : ActD} (h : sameB x y = true) : x = y := by
  obtain ⟨h1, h2, h3, h4, h5, h6, h7, h8, h9, h10⟩ := same_parts h
  cases x; cases y
  simp only at h1 h2 h3 h4 h5 h6 h7 h8 h9 h10
  subst h1; subst h2; subst h3; subst h4; subst h5; subst h6; subst h7; subst h8; subst h9; subst h10
  rfl
theorem same_refl (x : ActD) : sameB x x = true := by simp [sameB]
/-- What the program's ValidAct says. -/
def validP (x : ActD) : Bool := decide (0 ≤ x.kind) && decide (x.kind ≤ 17) && sameB x (usedD x) && fitK x.kind x
theorem ssOk_nil : ssOk [] = true := rfl
theorem msOk_nil : msOk [] = true := rfl
theorem fitK_eq (x : ActD) (hs : sameB x (usedD x) = true) : fitK x.kind x = (decide (x.ss.length ≤ 20) && ssOk x.ss && msOk x.ms && kindOk x) := by
  obtain ⟨_, _, _, _, _, _, _, _, h9, h10⟩ := same_parts hs
  simp only [usedD] at h9 h10
  unfold fitK
  by_cases h5 : x.kind = 5
  · rw [if_pos h5]
    rw [if_neg (by omega)] at h9
    rw [h9, msOk_nil]
    have : kindOk x = inR x.a 1 16 := by
      unfold kindOk
      rw [if_neg (by omega), if_pos (by omega)]
    rw [this]
    cases inR x.a 1 16 <;> cases decide (x.ss.length ≤ 20) <;> cases ssOk x.ss <;> rfl
  · rw [if_neg h5]
    rw [if_neg h5] at h10
    rw [h10, ssOk_nil]
    by_cases h15 : x.kind = 15
    · rw [if_pos h15]
      have : kindOk x = true := by
        unfold kindOk
        rw [if_neg (by omega), if_neg (by omega), if_pos (by omega)]
      rw [this]; simp
    · rw [if_neg h15]
      rw [if_neg h15] at h9
      rw [h9, msOk_nil]
      show kindOk x = _
      simp
theorem validP_eq (x : ActD) : validP x = validB x := by
  unfold validP validB
  cases hs : sameB x (usedD x) with
  | false => simp
  | true =>
    rw [fitK_eq x hs]
    cases hk : kindOk x with
    | false => simp
    | true =>
      obtain ⟨h0, h17⟩ := kindOk_range hk
      simp [h0, h17]
theorem validB_same {x : ActD} (h : validB x = true) : usedD x = x := by
  simp only [validB, Bool.and_eq_true] at h
  exact (same_eq h.1.1.1.1).symm
/-- An act's numbers are what an int64 holds. -/
structure ActD.Num (x : ActD) : Prop where
  a : I64 x.a
  b : I64 x.b
  c : I64 x.c
  val : I64 x.val
  old : I64 x.old
  ms : ∀ y ∈ x.ms, I64 y
  ss : ∀ y ∈ x.ss, I64 y
theorem ActD.In.num {x : ActD} {w : World} {B : Nat} {m s : Value} (h : x.In w B m s) : x.Num := ⟨h.a, h.b, h.c, h.val, h.old, h.ms.2, h.ss.2⟩

theorem nths_0 (a : ByteArray) (l : List ByteArray) : nths (a :: l) 0 = a := rfl
theorem nths_s (a : ByteArray) (l : List ByteArray) (k : Nat) : nths (a :: l) (k + 1) = nths l k := by simp [nths]
theorem nth_0 (a : Int) (l : List Int) : nth (a :: l) 0 = a := rfl
theorem nth_s (a : Int) (l : List Int) (k : Nat) : nth (a :: l) (k + 1) = nth l k := by simp [nth]
theorem nums1 (a : Int) (ha : I64 a) : numsQ [bs (Lib.itoa a)] 1 = some [a] := by rw [numsQ, if_pos (by simp)]; exact parseAll_itoa [a] (by simpa using ha)
theorem nums2 (a b : Int) (ha : I64 a) (hb : I64 b) : numsQ [bs (Lib.itoa a), bs (Lib.itoa b)] 2 = some [a, b] := by rw [numsQ, if_pos (by simp)]; exact parseAll_itoa [a, b] (by simpa using ⟨ha, hb⟩)
theorem nums3 (a b c : Int) (ha : I64 a) (hb : I64 b) (hc : I64 c) : numsQ [bs (Lib.itoa a), bs (Lib.itoa b), bs (Lib.itoa c)] 3 = some [a, b, c] := by rw [numsQ, if_pos (by simp)]; exact parseAll_itoa [a, b, c] (by simpa using ⟨ha, hb, hc⟩)
theorem readNs1 (k : Int) (a : Int) (ha : I64 a) : readNs k 1 [bs (Lib.itoa a)] = some { actZ k with a := a } := by simp [readNs, nums1 a ha, nth, actZ]
theorem readNs2 (k : Int) (a b : Int) (ha : I64 a) (hb : I64 b) : readNs k 2 [bs (Lib.itoa a), bs (Lib.itoa b)] = some { actZ k with a := a, b := b } := by simp [readNs, nums2 a b ha hb, nth, actZ]
theorem readNs3 (k : Int) (a b c : Int) (ha : I64 a) (hb : I64 b) (hc : I64 c) : readNs k 3 [bs (Lib.itoa a), bs (Lib.itoa b), bs (Lib.itoa c)] = some { actZ k with a := a, b := b, c := c } := by simp [readNs, nums3 a b c ha hb hc, nth, actZ]
theorem numsQ_take2 (a b : Int) (ha : I64 a) (hb : I64 b) (r : List ByteArray) : numsQ ((bs (Lib.itoa a) :: bs (Lib.itoa b) :: r).take 2) 2 = some [a, b] := by
  rw [show (bs (Lib.itoa a) :: bs (Lib.itoa b) :: r).take 2 = [bs (Lib.itoa a), bs (Lib.itoa b)] from rfl]; exact nums2 a b ha hb
theorem op_words (x : ActD) (hx : x.Num) (hv : validOpB x = true) : opOf ((opWords x).map bs) = some (x.ok, x.key, x.val, x.old) := by
  simp only [validOpB, Bool.and_eq_true, Bool.or_eq_true, decide_eq_true_eq, beq_iff_eq, Bool.not_eq_true', beq_eq_false_iff_ne] at hv
  obtain ⟨⟨⟨⟨⟨⟨h0, h3⟩, _⟩, _⟩, ho⟩, hvl⟩, _⟩ := hv
  have hval := parseN_itoa x.val hx.val
  have hold := parseN_itoa x.old hx.old
  have hkey := bs_toList x.key
  unfold opWords
  rcases (show x.ok = 0 ∨ x.ok = 1 ∨ x.ok = 2 ∨ x.ok = 3 by omega) with h | h | h | h
  · have e1 : x.old = 0 := by omega
    have e2 : x.val = 0 := by omega
    rw [if_pos h]
    have hk : opKind (bs [103, 101, 116]) = some 0 := by rw [opKind, if_pos rfl]
    simp [opOf, parseOp, nths, hk, h, e1, e2, hkey]
  · have e1 : x.old = 0 := by omega
    rw [if_neg (by omega), if_pos h]
    have hk : opKind (bs [112, 117, 116]) = some 1 := by rw [opKind, if_neg (by decide), if_pos rfl]
    simp [opOf, parseOp, nths, hk, h, e1, hkey, hval]
  · rw [if_neg (by omega), if_neg (by omega), if_pos h]
    have hk : opKind (bs [99, 97, 115]) = some 2 := by rw [opKind, if_neg (by decide), if_neg (by decide), if_pos rfl]
    simp [opOf, parseOp, nths, hk, h, hkey, hval, hold]
  · have e1 : x.old = 0 := by omega
    rw [if_neg (by omega), if_neg (by omega), if_neg (by omega)]
    have hk : opKind (bs [97, 100, 100]) = some 3 := by rw [opKind, if_neg (by decide), if_neg (by decide), if_neg (by decide), if_pos rfl]
    simp [opOf, parseOp, nths, hk, h, e1, hkey, hval]
theorem valid_op {x : ActD} (h : validB x = true) (hk : x.kind = 10) : validOpB x = true := by
  have hk' := validB_kind h
  unfold kindOk at hk'
  rw [if_neg (by omega), if_neg (by omega), if_neg (by omega), if_neg (by omega), if_neg (by omega), if_pos hk, Bool.and_eq_true] at hk'
  exact hk'.2
set_option maxHeartbeats 1000000 in
/-- The words of a valid act are read back as the act. -/
theorem read_args (x : ActD) (hx : x.Num) (hv : validB x = true) : readK x.kind.toNat ((argsL x).map bs) = some x := by
  obtain ⟨h0, h17⟩ := kindOk_range (validB_kind hv)
  have hu := validB_same hv
  have single : ∀ k : Nat, x.kind = (k : Int) → ¬(x.kind = 4 ∨ x.kind = 16) → ¬x.kind = 15 → ¬x.kind = 5 → ¬x.kind = 7 → ¬x.kind = 14 → ¬x.kind = 12 → ¬x.kind = 10 → readK k ((argsL x).map bs) = some x := by
    intro k hk h1 h2 h3 h4 h5 h6 h7
    have hA : argsL x = [Lib.itoa x.a] := by unfold argsL; rw [if_neg h1, if_neg h2, if_neg h3, if_neg h4, if_neg h5, if_neg h6, if_neg h7]
    rw [hA]
    unfold readK
    repeat rw [if_neg (by omega)]
    rw [List.map_cons, List.map_nil, readNs1 _ _ hx.a]
    conv => rhs; rw [← hu]
    simp only [usedD, actZ, Option.some.injEq, ActD.mk.injEq]
    refine ⟨hk.symm, ?_, ?_, ?_, ?_, ?_, ?_, ?_, ?_, ?_⟩ <;> rw [if_neg (by omega)]
  rcases kind_cases h0 h17 with h | h | h | h | h | h | h | h | h | h | h | h | h | h | h | h | h | h
  · rw [h]
    exact single 0 h (by omega) (by omega) (by omega) (by omega) (by omega) (by omega) (by omega)
  · rw [h]
    exact single 1 h (by omega) (by omega) (by omega) (by omega) (by omega) (by omega) (by omega)
  · rw [h]
    exact single 2 h (by omega) (by omega) (by omega) (by omega) (by omega) (by omega) (by omega)
  · rw [h]
    exact single 3 h (by omega) (by omega) (by omega) (by omega) (by omega) (by omega) (by omega)
  · rw [h]
    show readK 4 _ = _
    have hA : argsL x = [] := by unfold argsL; rw [if_pos (.inl h)]
    rw [hA]
    unfold readK
    rw [if_pos (.inl rfl)]
    conv => rhs; rw [← hu]
    simp [usedD, actZ, h, readPl]
  · rw [h]
    show readK 5 _ = _
    have hA : argsL x = Lib.itoa x.a :: x.ss.map Lib.itoa := by unfold argsL; rw [if_neg (by omega), if_neg (by omega), if_pos h]
    rw [hA]
    unfold readK
    rw [if_neg (by decide), if_pos rfl]
    have e1 := parseAll_itoa x.ss hx.ss
    have e2 := parseN_itoa x.a hx.a
    have e3 : List.map bs (List.map Lib.itoa x.ss) = x.ss.map fun n => bs (Lib.itoa n) := by rw [List.map_map]; rfl
    rw [List.map_cons, e3]
    unfold readCrash
    rw [if_neg (by simp), List.drop_succ_cons, List.drop_zero, e1, nths_0, e2]
    conv => rhs; rw [← hu]
    simp [usedD, actZ, h]
  · rw [h]
    exact single 6 h (by omega) (by omega) (by omega) (by omega) (by omega) (by omega) (by omega)
  · rw [h]
    show readK 7 _ = _
    have hA : argsL x = [Lib.itoa x.a, Lib.itoa x.b] := by unfold argsL; rw [if_neg (by omega), if_neg (by omega), if_neg (by omega), if_pos h]
    rw [hA]
    unfold readK
    rw [if_neg (by decide), if_neg (by decide), if_pos rfl]
    rw [List.map_cons, List.map_cons, List.map_nil, readNs2 _ _ _ hx.a hx.b]
    conv => rhs; rw [← hu]
    simp [usedD, actZ, h]
  · rw [h]
    exact single 8 h (by omega) (by omega) (by omega) (by omega) (by omega) (by omega) (by omega)
  · rw [h]
    exact single 9 h (by omega) (by omega) (by omega) (by omega) (by omega) (by omega) (by omega)
  · rw [h]
    show readK 10 _ = _
    have hA : argsL x = [Lib.itoa x.a, Lib.itoa x.b] ++ opWords x := by unfold argsL; rw [if_neg (by omega), if_neg (by omega), if_neg (by omega), if_neg (by omega), if_neg (by omega), if_neg (by omega), if_pos h]
    rw [hA]
    unfold readK
    rw [if_neg (by decide), if_neg (by decide), if_neg (by decide), if_pos rfl]
    have hop := op_words x hx (valid_op hv h)
    rw [List.map_append, List.map_cons, List.map_cons, List.map_nil, List.cons_append, List.cons_append, List.nil_append]
    unfold readReq
    rw [if_neg (by simp), numsQ_take2 _ _ hx.a hx.b]
    rw [show (bs (Lib.itoa x.a) :: bs (Lib.itoa x.b) :: (opWords x).map bs).drop 2 = (opWords x).map bs from rfl, hop]
    conv => rhs; rw [← hu]
    simp [usedD, actZ, h, nth]
  · rw [h]
    exact single 11 h (by omega) (by omega) (by omega) (by omega) (by omega) (by omega) (by omega)
  · rw [h]
    show readK 12 _ = _
    have hA : argsL x = [Lib.itoa x.a, Lib.itoa x.b, Lib.itoa x.val] := by unfold argsL; rw [if_neg (by omega), if_neg (by omega), if_neg (by omega), if_neg (by omega), if_neg (by omega), if_pos h]
    rw [hA]
    unfold readK
    rw [if_neg (by decide), if_neg (by decide), if_neg (by decide), if_neg (by decide), if_pos rfl]
    rw [List.map_cons, List.map_cons, List.map_cons, List.map_nil]
    unfold readCall
    rw [if_pos (by simp), numsQ_take2 _ _ hx.a hx.b]
    have e2 := parseN_itoa x.val hx.val
    conv => rhs; rw [← hu]
    simp [usedD, actZ, h, nth, nths, e2]
  · rw [h]
    exact single 13 h (by omega) (by omega) (by omega) (by omega) (by omega) (by omega) (by omega)
  · rw [h]
    show readK 14 _ = _
    have hA : argsL x = [Lib.itoa x.a, Lib.itoa x.b, Lib.itoa x.c] := by unfold argsL; rw [if_neg (by omega), if_neg (by omega), if_neg (by omega), if_neg (by omega), if_pos h]
    rw [hA]
    unfold readK
    rw [if_neg (by decide), if_neg (by decide), if_neg (by decide), if_neg (by decide), if_neg (by decide), if_pos rfl]
    rw [List.map_cons, List.map_cons, List.map_cons, List.map_nil, readNs3 _ _ _ _ hx.a hx.b hx.c]
    conv => rhs; rw [← hu]
    simp [usedD, actZ, h]
  · rw [h]
    show readK 15 _ = _
    have hA : argsL x = x.ms.map Lib.itoa := by unfold argsL; rw [if_neg (by omega), if_pos h]
    rw [hA]
    unfold readK
    rw [if_neg (by decide), if_neg (by decide), if_neg (by decide), if_neg (by decide), if_neg (by decide), if_neg (by decide), if_pos rfl]
    have e1 := parseAll_itoa x.ms hx.ms
    have e3 : List.map bs (List.map Lib.itoa x.ms) = x.ms.map fun n => bs (Lib.itoa n) := by rw [List.map_map]; rfl
    rw [e3, e1]
    conv => rhs; rw [← hu]
    simp [usedD, actZ, h]
  · rw [h]
    show readK 16 _ = _
    have hA : argsL x = [] := by unfold argsL; rw [if_pos (.inr h)]
    rw [hA]
    unfold readK
    rw [if_pos (.inr rfl)]
    conv => rhs; rw [← hu]
    simp [usedD, actZ, h, readPl]
  · rw [h]
    exact single 17 h (by omega) (by omega) (by omega) (by omega) (by omega) (by omega) (by omega)
theorem wordL_word : ∀ k, k < 18 → Word (wordL k) := by
  unfold Word
  decide
theorem kindOf_word : ∀ k, k < 18 → kindOf (bs (wordL k)) = some k := by
  decide
theorem kindOf_some {w : ByteArray} {k : Nat} (h : kindOf w = some k) : k < 18 ∧ bs (wordL k) = w := by
  unfold kindOf at h
  have h1 := List.find?_some h
  have h2 := List.mem_of_find?_eq_some h
  exact ⟨by simpa using h2, by simpa using h1⟩
theorem args_word (x : ActD) (hv : validB x = true) : ∀ w ∈ argsL x, Word w := by
  intro w hw
  unfold argsL at hw
  have ms : ∀ l : List Int, w ∈ l.map Lib.itoa → Word w := fun l h => by
    obtain ⟨n, _, rfl⟩ := List.mem_map.1 h
    exact itoa_word n
  have lit : ∀ l : List UInt8, l.all (fun c => !(c == 32)) = true → Word l := fun l h c hc e => by
    rw [List.all_eq_true] at h
    have := h c hc
    subst e; exact absurd this (by decide)
  split at hw
  · cases hw
  · split at hw
    · exact ms _ hw
    · split at hw
      · rcases List.mem_cons.1 hw with rfl | hw
        · exact itoa_word _
        · exact ms _ hw
      · split at hw
        · exact ms [x.a, x.b] hw
        · split at hw
          · exact ms [x.a, x.b, x.c] hw
          · split at hw
            · exact ms [x.a, x.b, x.val] hw
            · split at hw
              · rename_i h10
                have hop := valid_op hv h10
                have hkey : Word x.key.data.toList := by
                  simp only [validOpB, Bool.and_eq_true] at hop
                  exact key_word hop.2
                rcases List.mem_append.1 hw with hw | hw
                · exact ms [x.a, x.b] hw
                · unfold opWords at hw
                  split at hw
                  · simp only [List.mem_cons, List.not_mem_nil, or_false] at hw
                    rcases hw with rfl | rfl
                    · exact lit _ (by decide)
                    · exact hkey
                  · split at hw
                    · simp only [List.mem_cons, List.not_mem_nil, or_false] at hw
                      rcases hw with rfl | rfl | rfl
                      · exact lit _ (by decide)
                      · exact hkey
                      · exact itoa_word _
                    · split at hw
                      · simp only [List.mem_cons, List.not_mem_nil, or_false] at hw
                        rcases hw with rfl | rfl | rfl | rfl
                        · exact lit _ (by decide)
                        · exact hkey
                        · exact itoa_word _
                        · exact itoa_word _
                      · simp only [List.mem_cons, List.not_mem_nil, or_false] at hw
                        rcases hw with rfl | rfl | rfl
                        · exact lit _ (by decide)
                        · exact hkey
                        · exact itoa_word _
              · exact ms [x.a] hw
/-- ParseAct inverts Act. -/
theorem parse_text (x : ActD) (hx : x.Num) (hv : validB x = true) : parseActD (splitS (bs (textL x))) = some x := by
  obtain ⟨h0, h17⟩ := kindOk_range (validB_kind hv)
  unfold textL
  rw [splitS_join _ _ (fun w hw => by
    rcases List.mem_cons.1 hw with rfl | hw
    · exact wordL_word _ (by omega)
    · exact args_word x hv w hw), List.map_cons]
  simp only [parseActD]
  rw [kindOf_word _ (by omega)]
  simp [read_args x hx hv, hv]
theorem wordL_ne : ∀ k, k < 18 → wordL k ≠ [] := by decide
theorem textL_ne (x : ActD) (hv : validB x = true) : textL x ≠ [] := by
  obtain ⟨h0, h17⟩ := kindOk_range (validB_kind hv)
  rw [textL_eq]
  intro h
  exact wordL_ne _ (by omega) (List.append_eq_nil_iff.1 h).1

theorem nums_text {l : List ByteArray} {j : Nat} {vs : List Int} (h : numsQ l j = some vs) : l.length = j ∧ (vs.map fun n => bs (Lib.itoa n)) = l ∧ ∀ x ∈ vs, I64 x := by
  unfold numsQ at h
  split at h
  · exact ⟨by assumption, parseAll_text h, parseAll_I64 h⟩
  · cases h
theorem op_back {l : List ByteArray} {q : Int × ByteArray × Int × Int} (h : opOf l = some q) (x : ActD) (h1 : x.ok = q.1) (h2 : x.key = q.2.1) (h3 : x.val = q.2.2.1) (h4 : x.old = q.2.2.2) :
    (opWords x).map bs = l ∧ I64 q.2.2.1 ∧ I64 q.2.2.2 ∧ q.2.1 ∈ l ∧ I64 q.1 := by
  unfold opOf at h
  split at h
  · cases h
  · rename_i hl
    unfold parseOp at h
    cases hk : opKind (nths l 0) with
    | none => rw [hk] at h; cases h
    | some k =>
      rw [hk] at h
      simp only at h
      have hk2 : (k = 0 ∧ nths l 0 = bs [103, 101, 116]) ∨ (k = 1 ∧ nths l 0 = bs [112, 117, 116]) ∨ (k = 2 ∧ nths l 0 = bs [99, 97, 115]) ∨ (k = 3 ∧ nths l 0 = bs [97, 100, 100]) := by
        unfold opKind at hk
        repeat' split at hk
        all_goals first | (cases hk; done) | (injection hk with hk; simp [← hk]; assumption)
      have key := bs_toList x.key
      split at h
      · rename_i hk0
        split at h
        · rename_i hlen
          injection h with h
          subst h
          match l, hlen with
          | [a, b], _ =>
            have e0 : a = bs [103, 101, 116] := by rcases hk2 with h | h | h | h <;> first | exact h.2 | omega
            simp only at h1 h2 h3 h4
            have e1 : x.key = b := h2
            unfold opWords
            rw [if_pos h1]
            refine ⟨?_, I64.zero, I64.zero, by simp [nths], I64.zero⟩
            simp [e0, key, e1, bs_toList]
        · cases h
      · rename_i hk0
        split at h
        · rename_i hk2'
          split at h
          · rename_i hlen
            obtain ⟨o, ho, h⟩ := Option.bind_eq_some_iff.1 h
            obtain ⟨v, hv, h⟩ := Option.map_eq_some_iff.1 h
            subst h
            match l, hlen with
            | [a, b, c, d], _ =>
              have e0 : a = bs [99, 97, 115] := by rcases hk2 with h | h | h | h <;> first | exact h.2 | omega
              simp only at h1 h2 h3 h4
              have e1 : x.key = b := h2
              have ho' : bs (Lib.itoa o) = c := parseN_text ho
              have hv' : bs (Lib.itoa v) = d := parseN_text hv
              unfold opWords
              rw [if_neg (by omega), if_neg (by omega), if_pos h1]
              refine ⟨?_, parseN_I64 hv, parseN_I64 ho, by simp [nths], by show I64 _; exact ⟨by simp, by simp⟩⟩
              simp [e0, e1, h3, h4, ho', hv', bs_toList]
          · cases h
        · rename_i hk2'
          split at h
          · rename_i hlen
            obtain ⟨v, hv, h⟩ := Option.map_eq_some_iff.1 h
            subst h
            match l, hlen with
            | [a, b, c], _ =>
              simp only at h1 h2 h3 h4
              have e1 : x.key = b := h2
              have hv' : bs (Lib.itoa v) = c := parseN_text hv
              rcases hk2 with ⟨e, e0⟩ | ⟨e, e0⟩ | ⟨e, e0⟩ | ⟨e, e0⟩
              · exact absurd e hk0
              · subst e
                have e0' : a = bs [112, 117, 116] := e0
                unfold opWords
                rw [if_neg (by omega), if_pos h1]
                refine ⟨?_, parseN_I64 hv, I64.zero, by simp [nths], by show I64 _; exact ⟨by simp, by simp⟩⟩
                simp [e0', e1, h3, hv', bs_toList]
              · exact absurd e hk2'
              · subst e
                have e0' : a = bs [97, 100, 100] := e0
                unfold opWords
                rw [if_neg (by omega), if_neg (by omega), if_neg (by omega)]
                refine ⟨?_, parseN_I64 hv, I64.zero, by simp [nths], by show I64 _; exact ⟨by simp, by simp⟩⟩
                simp [e0', e1, h3, hv', bs_toList]
          · cases h
/-- What a read of words gives: the kind, the words, and numbers that fit. -/
def ReadBack (k : Nat) (l : List ByteArray) (y : ActD) : Prop := y.kind = k ∧ (argsL y).map bs = l ∧ y.Num ∧ I64 y.ok ∧ (y.key = ⟨#[]⟩ ∨ y.key ∈ l)
theorem num_z (k : Int) : (actZ k).Num := ⟨I64.zero, I64.zero, I64.zero, I64.zero, I64.zero, by simp [actZ], by simp [actZ]⟩
theorem args_ns {y : ActD} (h : ¬(y.kind = 4 ∨ y.kind = 16 ∨ y.kind = 15 ∨ y.kind = 5 ∨ y.kind = 7 ∨ y.kind = 14 ∨ y.kind = 12 ∨ y.kind = 10)) : argsL y = [Lib.itoa y.a] := by
  unfold argsL
  repeat rw [if_neg (by omega)]
theorem back_ns1 {k : Nat} {l : List ByteArray} {y : ActD} (hk : ¬(k = 4 ∨ k = 16 ∨ k = 15 ∨ k = 5 ∨ k = 7 ∨ k = 14 ∨ k = 12 ∨ k = 10)) (h : readNs k 1 l = some y) : ReadBack k l y := by
  obtain ⟨vs, hv, rfl⟩ := Option.map_eq_some_iff.1 h
  obtain ⟨hl, ht, hI⟩ := nums_text hv
  have hvl := numsQ_len hv
  match vs, hvl with
  | [a], _ =>
    refine ⟨rfl, ?_, ⟨hI a (by simp), I64.zero, I64.zero, I64.zero, I64.zero, by simp [actZ], by simp [actZ]⟩, I64.zero, .inl rfl⟩
    rw [args_ns (by simp only [actZ]; omega)]
    exact ht
theorem back_ns2 {l : List ByteArray} {y : ActD} (h : readNs (7 : Nat) 2 l = some y) : ReadBack 7 l y := by
  obtain ⟨vs, hv, rfl⟩ := Option.map_eq_some_iff.1 h
  obtain ⟨hl, ht, hI⟩ := nums_text hv
  have hvl := numsQ_len hv
  match vs, hvl with
  | [a, b], _ =>
    refine ⟨rfl, ?_, ⟨hI a (by simp), hI b (by simp), I64.zero, I64.zero, I64.zero, by simp [actZ], by simp [actZ]⟩, I64.zero, .inl rfl⟩
    exact ht
theorem back_ns3 {l : List ByteArray} {y : ActD} (h : readNs (14 : Nat) 3 l = some y) : ReadBack 14 l y := by
  obtain ⟨vs, hv, rfl⟩ := Option.map_eq_some_iff.1 h
  obtain ⟨hl, ht, hI⟩ := nums_text hv
  have hvl := numsQ_len hv
  match vs, hvl with
  | [a, b, c], _ =>
    refine ⟨rfl, ?_, ⟨hI a (by simp), hI b (by simp), hI c (by simp), I64.zero, I64.zero, by simp [actZ], by simp [actZ]⟩, I64.zero, .inl rfl⟩
    exact ht
theorem two_words {l : List ByteArray} {vs : List Int} (h : numsQ (l.take 2) 2 = some vs) : ∃ a b, vs = [a, b] ∧ I64 a ∧ I64 b ∧ l = bs (Lib.itoa a) :: bs (Lib.itoa b) :: l.drop 2 := by
  obtain ⟨hl, ht, hI⟩ := nums_text h
  have hvl := numsQ_len h
  match vs, hvl with
  | [a, b], _ =>
    refine ⟨a, b, rfl, hI a (by simp), hI b (by simp), ?_⟩
    have := List.take_append_drop 2 l
    rw [← ht] at this
    exact this.symm
theorem read_back {k : Nat} {l : List ByteArray} {y : ActD} (h : readK k l = some y) : ReadBack k l y := by
  unfold readK at h
  split at h
  · rename_i hk
    unfold readPl at h
    split at h
    · rename_i hl
      injection h with h
      subst h
      have : l = [] := List.eq_nil_of_length_eq_zero hl
      subst this
      refine ⟨rfl, ?_, num_z _, I64.zero, .inl rfl⟩
      unfold argsL
      rw [if_pos (by simp only [actZ]; omega)]; rfl
    · cases h
  split at h
  · rename_i _ hk
    subst hk
    unfold readCrash at h
    split at h
    · cases h
    · rename_i hl
      obtain ⟨vs, hv, h⟩ := Option.bind_eq_some_iff.1 h
      obtain ⟨a, ha, rfl⟩ := Option.map_eq_some_iff.1 h
      match l, hl with
      | s :: r, _ =>
        refine ⟨rfl, ?_, ⟨parseN_I64 ha, I64.zero, I64.zero, I64.zero, I64.zero, by simp [actZ], parseAll_I64 hv⟩, I64.zero, .inl rfl⟩
        show bs (Lib.itoa a) :: (vs.map Lib.itoa).map bs = _
        have e := parseAll_text hv
        rw [List.map_map, parseN_text ha]
        exact congrArg (s :: ·) e
  split at h
  · rename_i _ _ hk
    subst hk
    exact back_ns2 h
  split at h
  · rename_i _ _ _ hk
    subst hk
    unfold readReq at h
    split at h
    · cases h
    · obtain ⟨q, hq, h⟩ := Option.bind_eq_some_iff.1 h
      obtain ⟨vs, hv, rfl⟩ := Option.map_eq_some_iff.1 h
      obtain ⟨a, b, rfl, ha, hb, hl⟩ := two_words hv
      have hop := op_back hq { actZ ((10 : Nat) : Int) with a := nth [a, b] 0, b := nth [a, b] 1, ok := q.1, key := q.2.1, val := q.2.2.1, old := q.2.2.2 } rfl rfl rfl rfl
      refine ⟨rfl, ?_, ⟨ha, hb, I64.zero, hop.2.1, hop.2.2.1, by simp [actZ], by simp [actZ]⟩, hop.2.2.2.2, .inr (List.mem_of_mem_drop hop.2.2.2.1)⟩
      rw [hl]
      show bs (Lib.itoa a) :: bs (Lib.itoa b) :: List.map bs (opWords _) = _
      rw [hop.1]
  split at h
  · rename_i _ _ _ _ hk
    subst hk
    unfold readCall at h
    split at h
    · rename_i hlen
      obtain ⟨vs, hv, h⟩ := Option.bind_eq_some_iff.1 h
      obtain ⟨u, hu, rfl⟩ := Option.map_eq_some_iff.1 h
      obtain ⟨a, b, rfl, ha, hb, hl⟩ := two_words hv
      refine ⟨rfl, ?_, ⟨ha, hb, I64.zero, parseN_I64 hu, I64.zero, by simp [actZ], by simp [actZ]⟩, I64.zero, .inl rfl⟩
      match l, hlen with
      | [p, q, r], _ =>
        injection hl with h1 h2
        injection h2 with h2 h3
        show [bs (Lib.itoa a), bs (Lib.itoa b), bs (Lib.itoa u)] = _
        rw [h1, h2, parseN_text hu]; rfl
    · cases h
  split at h
  · rename_i _ _ _ _ _ hk
    subst hk
    exact back_ns3 h
  split at h
  · rename_i _ _ _ _ _ _ hk
    subst hk
    obtain ⟨vs, hv, rfl⟩ := Option.map_eq_some_iff.1 h
    refine ⟨rfl, ?_, ⟨I64.zero, I64.zero, I64.zero, I64.zero, I64.zero, parseAll_I64 hv, by simp [actZ]⟩, I64.zero, .inl rfl⟩
    show (vs.map Lib.itoa).map bs = l
    rw [List.map_map]
    exact parseAll_text hv
  · exact back_ns1 (by omega) h
/-- What ParseAct accepts is the text of the act. -/
theorem text_parse {s : ByteArray} {y : ActD} (h : parseActD (splitS s) = some y) : validB y = true ∧ bs (textL y) = s := by
  obtain ⟨w, r, hs, hj⟩ := join_splitS s
  rw [hs] at h
  simp only [parseActD] at h
  obtain ⟨k, hk, h⟩ := Option.bind_eq_some_iff.1 h
  obtain ⟨z, hz, h⟩ := Option.bind_eq_some_iff.1 h
  split at h
  · rename_i hv
    injection h with h
    subst h
    obtain ⟨hkind, hargs, _⟩ := read_back hz
    obtain ⟨h18, hw⟩ := kindOf_some hk
    refine ⟨hv, ?_⟩
    rw [← hj]
    unfold textL
    rw [hkind]
    congr 2
    rw [List.map_cons, ← hw, bs_data, ← hargs, List.map_map]
    congr 1
    conv => lhs; rw [← List.map_id (argsL z)]
    exact List.map_congr_left fun x _ => (bs_data x).symm
  · cases h
end Go.Proofs.YtdgciagmcjdhhaaGreatDoor
