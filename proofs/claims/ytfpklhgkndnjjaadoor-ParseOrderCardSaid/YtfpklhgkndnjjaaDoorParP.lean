/-
  Plain: what a formula's tokens are as nodes: a relation. No program in sight.
-/
import Derived.Test.YtfpklhgkndnjjaaDoorLexQ
namespace Go.Proofs.YtfpklhgkndnjjaaDoor
open Go Go.E

/-- A node, as data. -/
structure NodeD where
  kind : Int
  num : Int := 0
  text : List UInt8 := []
  ref : RefD := refN
  to : RefD := refN
  kids : List Int := []
deriving DecidableEq

structure PSt where
  at_ : Nat
  out : List NodeD
  deep : Nat

inductive PRes where
  | ok (s : PSt) (p : Nat)
  | err (e : Int)

inductive PMode where
  | lev (n : Nat)
  | loop (n : Nat) (a : Nat)
  | unary
  | prim
  | args (name : List UInt8) (ks : List Int)

def tokZ : TokD := ⟨0, [], 0, refN, 0⟩
def tokAt (T : List TokD) (s : PSt) : TokD := T.getD s.at_ tokZ
def isS (T : List TokD) (s : PSt) (x : List UInt8) : Bool := decide ((tokAt T s).kind = 5) && decide ((tokAt T s).text = x)
def adv (s : PSt) : PSt := { s with at_ := s.at_ + 1 }
def deeper (s : PSt) : PSt := { s with deep := s.deep + 1 }
def upper (s : PSt) : PSt := { s with deep := s.deep - 1 }
def putS (s : PSt) (n : NodeD) : PSt := { s with out := s.out ++ [n] }
/-- The operators of a level. -/
def signsN : Nat → List (List UInt8)
  | 0 => [[61], [60, 62], [60], [60, 61], [62], [62, 61]]
  | 1 => [[38]]
  | 2 => [[43], [45]]
  | _ => [[42], [47]]
def kindsN : Nat → List Int
  | 0 => [9, 10, 11, 12, 13, 14]
  | 1 => [15]
  | 2 => [16, 17]
  | _ => [18, 19]
/-- Which operator of a level stands there. -/
def opIx (T : List TokD) (s : PSt) (n : Nat) : Option Nat := if (tokAt T s).kind = 5 then (signsN n).findIdx? (fun x => decide (x = (tokAt T s).text)) else none
def below (n : Nat) : PMode := if n < 3 then .lev (n + 1) else .unary
def rangesB (a b : RefD) : Bool := decide (b.sheet = []) && decide (a.col ≤ b.col) && decide (a.row ≤ b.row)

def trueT : List UInt8 := [84, 82, 85, 69]
def falseT : List UInt8 := [70, 65, 76, 83, 69]

inductive PE (T : List TokD) : PMode → PSt → PRes → Prop
  | lev_err {n s e} : PE T (below n) s (.err e) → PE T (.lev n) s (.err e)
  | lev_ok {n s s1 a r} : PE T (below n) s (.ok s1 a) → PE T (.loop n a) s1 r → PE T (.lev n) s r
  | loop_end {n s a} : opIx T s n = none → PE T (.loop n a) s (.ok s a)
  | loop_err {n s a i e} : opIx T s n = some i → PE T (below n) (adv s) (.err e) → PE T (.loop n a) s (.err e)
  | loop_go {n : Nat} {s : PSt} {a i : Nat} {s1 : PSt} {b : Nat} {r : PRes} : opIx T s n = some i → PE T (below n) (adv s) (.ok s1 b) → PE T (.loop n s1.out.length) (putS s1 { kind := (kindsN n).getD i 0, kids := [(a : Int), (b : Int)] }) r → PE T (.loop n a) s r
  | un_prim {s r} : isS T s [45] = false → PE T .prim s r → PE T .unary s r
  | un_deep {s} : isS T s [45] = true → 12 ≤ s.deep → PE T .unary s (.err 6)
  | un_err {s e} : isS T s [45] = true → s.deep < 12 → PE T .unary (deeper (adv s)) (.err e) → PE T .unary s (.err e)
  | un_ok {s s1 : PSt} {a : Nat} : isS T s [45] = true → s.deep < 12 → PE T .unary (deeper (adv s)) (.ok s1 a) → PE T .unary s (.ok (putS (upper s1) { kind := 8, kids := [(a : Int)] }) s1.out.length)
  | pr_sign {s} : (tokAt T s).kind = 5 → (tokAt T s).text ≠ [40] → PE T .prim s (.err 5)
  | pr_deep {s} : isS T s [40] = true → 12 ≤ s.deep → PE T .prim s (.err 6)
  | pr_err {s e} : isS T s [40] = true → s.deep < 12 → PE T (.lev 0) (deeper (adv s)) (.err e) → PE T .prim s (.err e)
  | pr_open {s s1 a} : isS T s [40] = true → s.deep < 12 → PE T (.lev 0) (deeper (adv s)) (.ok s1 a) → isS T s1 [41] = false → PE T .prim s (.err 5)
  | pr_ok {s s1 a} : isS T s [40] = true → s.deep < 12 → PE T (.lev 0) (deeper (adv s)) (.ok s1 a) → isS T s1 [41] = true → PE T .prim s (.ok (upper (adv s1)) a)
  | pr_end {s} : (tokAt T s).kind = 0 → PE T .prim s (.err 5)
  | pr_num {s} : (tokAt T s).kind = 1 → PE T .prim s (.ok (putS (adv s) { kind := 1, num := (tokAt T s).num }) s.out.length)
  | pr_text {s} : (tokAt T s).kind = 2 → PE T .prim s (.ok (putS (adv s) { kind := 2, text := (tokAt T s).text }) s.out.length)
  | pr_dead {s} : (tokAt T s).kind = 6 → PE T .prim s (.ok (putS (adv s) { kind := 4 }) s.out.length)
  | pr_ref {s} : (tokAt T s).kind = 4 → isS T (adv s) [58] = false → PE T .prim s (.ok (putS (adv s) { kind := 5, ref := (tokAt T s).ref }) s.out.length)
  | pr_range {s} : (tokAt T s).kind = 4 → isS T (adv s) [58] = true → (tokAt T (adv (adv s))).kind = 4 → rangesB (tokAt T s).ref (tokAt T (adv (adv s))).ref = true →
      PE T .prim s (.ok (putS (adv (adv (adv s))) { kind := 6, ref := (tokAt T s).ref, to := (tokAt T (adv (adv s))).ref }) s.out.length)
  | pr_norange {s} : (tokAt T s).kind = 4 → isS T (adv s) [58] = true → ((tokAt T (adv (adv s))).kind ≠ 4 ∨ rangesB (tokAt T s).ref (tokAt T (adv (adv s))).ref = false) → PE T .prim s (.err 5)
  | pr_true {s} : (tokAt T s).kind = 3 → (tokAt T s).text = trueT → PE T .prim s (.ok (putS (adv s) { kind := 3, num := 1 }) s.out.length)
  | pr_false {s} : (tokAt T s).kind = 3 → (tokAt T s).text = falseT → PE T .prim s (.ok (putS (adv s) { kind := 3 }) s.out.length)
  | pr_nocall {s} : (tokAt T s).kind = 3 → (tokAt T s).text ≠ trueT → (tokAt T s).text ≠ falseT → isS T (adv s) [40] = false → PE T .prim s (.err 5)
  | pr_calldeep {s} : (tokAt T s).kind = 3 → (tokAt T s).text ≠ trueT → (tokAt T s).text ≠ falseT → isS T (adv s) [40] = true → 12 ≤ s.deep → PE T .prim s (.err 6)
  | pr_call0 {s} : (tokAt T s).kind = 3 → (tokAt T s).text ≠ trueT → (tokAt T s).text ≠ falseT → isS T (adv s) [40] = true → s.deep < 12 → isS T (deeper (adv (adv s))) [41] = true →
      PE T .prim s (.ok (putS (upper (adv (deeper (adv (adv s))))) { kind := 7, text := (tokAt T s).text }) s.out.length)
  | pr_call {s r} : (tokAt T s).kind = 3 → (tokAt T s).text ≠ trueT → (tokAt T s).text ≠ falseT → isS T (adv s) [40] = true → s.deep < 12 → isS T (deeper (adv (adv s))) [41] = false →
      PE T (.args (tokAt T s).text []) (deeper (adv (adv s))) r → PE T .prim s r
  | ar_err {x ks s e} : PE T (.lev 0) s (.err e) → PE T (.args x ks) s (.err e)
  | ar_go {x ks s s1} {a : Nat} {r} : PE T (.lev 0) s (.ok s1 a) → isS T s1 [44] = true → PE T (.args x (ks ++ [(a : Int)])) (adv s1) r → PE T (.args x ks) s r
  | ar_open {x ks s s1 a} : PE T (.lev 0) s (.ok s1 a) → isS T s1 [44] = false → isS T s1 [41] = false → PE T (.args x ks) s (.err 5)
  | ar_end {x ks s s1} {a : Nat} : PE T (.lev 0) s (.ok s1 a) → isS T s1 [44] = false → isS T s1 [41] = true → PE T (.args x ks) s (.ok (putS (upper (adv s1)) { kind := 7, text := x, kids := ks ++ [(a : Int)] }) s1.out.length)

/-- What comes of a formula's tokens: nodes, or an error. -/
def Parsed (T : List TokD) (o : Except Int (List NodeD)) : Prop :=
  match o with
  | .error e => PE T (.lev 0) ⟨0, [], 0⟩ (.err e) ∨ e = 5 ∧ ∃ s a, PE T (.lev 0) ⟨0, [], 0⟩ (.ok s a) ∧ (tokAt T s).kind ≠ 0
  | .ok l => ∃ s a, PE T (.lev 0) ⟨0, [], 0⟩ (.ok s a) ∧ (tokAt T s).kind = 0 ∧ s.out = l
end Go.Proofs.YtfpklhgkndnjjaaDoor
