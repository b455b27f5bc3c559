/- The abstract evaluator, part 3: proved is that regions, branches, blocks and loops that the evaluator runs do what the run says, in every order that a region allows; no conditions but those that each theorem states. -/
import Derived.Test.YtmpfafdaadhabaaDoorAbsB
import Derived.Scope
set_option linter.unusedVariables false
set_option linter.unusedSimpArgs false
namespace Go.Abs

inductive Out (R : Type) where
  | ret (r : R)
  | fail
  | ite (c : Bool) (a b : Out R)
  | call (t : Ty) (r : Option t.den) (k : t.den → Out R)

def Out.den {R : Type} : Out R → Option R
  | .ret r => some r
  | .fail => none
  | .ite c a b => bif c then a.den else b.den
  | .call _ r k => match r with
    | some x => (k x).den
    | none => none

def Out.bind {R S : Type} : Out R → (R → Out S) → Out S
  | .ret r, f => f r
  | .fail, _ => .fail
  | .ite c a b, f => .ite c (a.bind f) (b.bind f)
  | .call t r k, f => .call t r (fun x => (k x).bind f)

def bbeq (a : Bool) : Bool → Bool
  | true => a
  | false => (match a with
    | true => false
    | false => true)

inductive Lf where
  | cst (d : D) | int (k : IntKind) | bool | str | sl (f : Nat) (t : Ty) | clo (f : Nat) (t : Ty) | vp (t : Ty) | av (k : IntKind) | va (k : IntKind)
inductive Sh where
  | lf (l : Lf) | agg (ls : List Lf) | boxv (st : Nat) (live : Bool) (ls : List Lf) | arrv (st : Nat) (live ar : Bool) (t : Ty)

@[reducible] def Lf.ty : Lf → Ty
  | .cst _ => .unit
  | .int k => .int k
  | .bool => .bool
  | .str => .str
  | .sl _ t => .sl t
  | .clo f t => .clo f t
  | .vp t => t
  | .av k => .sl (.int k)
  | .va k => .sl (.int k)
@[reducible] def lfTy : List Lf → Ty
  | [] => .unit
  | l :: r => .cons l.ty (lfTy r)
@[reducible] def Sh.ty : Sh → Ty
  | .lf l => l.ty
  | .agg ls => lfTy ls
  | .boxv _ _ ls => lfTy ls
  | .arrv _ _ _ t => .sl t
@[reducible] def shTy : List Sh → Ty
  | [] => .unit
  | l :: r => .cons l.ty (shTy r)

def Lf.con : (l : Lf) → l.ty.den → D
  | .cst d, _ => d
  | .int k, n => .int k n
  | .bool, b => .bool b
  | .str, s => .str s
  | .sl f t, l => .sl f t l
  | .clo f t, x => .clo f t x
  | .vp t, x => .vptr t [x] 0 0
  | .av k, l => .av k l
  | .va k, l => .vpa k l
def lfCon : (ls : List Lf) → (lfTy ls).den → List D
  | [], _ => []
  | l :: r, x => l.con x.1 :: lfCon r x.2
def Sh.con : (l : Sh) → l.ty.den → D
  | .lf l, x => l.con x
  | .agg ls, x => .agg (lfCon ls x)
  | .boxv st live ls, x => .boxv st live (lfCon ls x)
  | .arrv st live ar t, l => .arrv st live ar t l

def keq : D → D → Bool
  | .undef, .undef => true
  | .nils, .nils => true
  | .ptr a b c, .ptr a' b' c' => Nat.beq a a' && Nat.beq b b' && Nat.beq c c'
  | .gptr a b, .gptr a' b' => Nat.beq a a' && Nat.beq b b'
  | .rsl a b, .rsl a' b' => Nat.beq a a' && Nat.beq b b'
  | .wnd a b c, .wnd a' b' c' => Nat.beq a a' && Nat.beq b b' && Nat.beq c c'
  | .fnc a, .fnc a' => Nat.beq a a'
  | _, _ => false

theorem eq_of_keq {a b : D} (h : keq a b = true) : a = b := by
  cases a <;> cases b <;> simp only [keq, Bool.false_eq_true, Bool.and_eq_true] at h <;> first | rfl | skip
  · rw [Nat.eq_of_beq_eq_true h.1.1, Nat.eq_of_beq_eq_true h.1.2, Nat.eq_of_beq_eq_true h.2]
  · rw [Nat.eq_of_beq_eq_true h.1, Nat.eq_of_beq_eq_true h.2]
  · rw [Nat.eq_of_beq_eq_true h.1, Nat.eq_of_beq_eq_true h.2]
  · rw [Nat.eq_of_beq_eq_true h.1.1, Nat.eq_of_beq_eq_true h.1.2, Nat.eq_of_beq_eq_true h.2]
  · rw [Nat.eq_of_beq_eq_true h]

def Lf.abs : (l : Lf) → D → Option l.ty.den
  | .cst d, d' => bif keq d d' then some () else none
  | .int k, .int k' n => bif kbeq k k' then some n else none
  | .bool, .bool b => some b
  | .str, .str s => some s
  | .sl f t, .sl f' t' l => bif Nat.beq f f' then (if h : t'.beq t = true then some (castL (Ty.eq_of_beq h) l) else none) else none
  | .clo f t, .clo f' t' x => if h : (Ty.clo f' t').beq (.clo f t) = true then some (castX (Ty.eq_of_beq h) x) else none
  | .vp t, .vptr t' [x] 0 0 => if h : t'.beq t = true then some (castX (Ty.eq_of_beq h) x) else none
  | .av k, .av k' l => bif kbeq k k' then some l else none
  | .va k, .vpa k' l => bif kbeq k k' then some l else none
  | _, _ => none
def lfAbs : (ls : List Lf) → List D → Option (lfTy ls).den
  | [], [] => some ()
  | l :: r, d :: ds => match l.abs d, lfAbs r ds with
    | some x, some y => some (x, y)
    | _, _ => none
  | _, _ => none
def Sh.abs : (l : Sh) → D → Option l.ty.den
  | .lf l, d => l.abs d
  | .agg ls, .agg cs => lfAbs ls cs
  | .boxv st live ls, .boxv st' live' cs => bif Nat.beq st st' && bbeq live live' then lfAbs ls cs else none
  | .arrv st live ar t, .arrv st' live' ar' t' l => bif Nat.beq st st' && bbeq live live' && bbeq ar ar' then (if h : t'.beq t = true then some (castL (Ty.eq_of_beq h) l) else none) else none
  | _, _ => none

theorem Lf.con_abs {l : Lf} {d : D} {x : l.ty.den} (h : l.abs d = some x) : l.con x = d := by
  cases l with
  | cst d0 =>
    simp only [Lf.abs] at h
    cases hk : keq d0 d with
    | true => exact eq_of_keq hk
    | false => simp [hk] at h
  | int k =>
    cases d <;> simp only [Lf.abs, reduceCtorEq] at h
    rename_i k' n
    cases hk : kbeq k k' with
    | true =>
      simp only [hk, cond_true, Option.some.injEq] at h
      subst h
      rw [eq_of_kbeq hk]; rfl
    | false => simp [hk] at h
  | bool =>
    cases d <;> simp only [Lf.abs, reduceCtorEq, Option.some.injEq] at h
    subst h; rfl
  | str =>
    cases d <;> simp only [Lf.abs, reduceCtorEq, Option.some.injEq] at h
    subst h; rfl
  | sl f t =>
    cases d <;> simp only [Lf.abs, reduceCtorEq] at h
    rename_i f' t' l
    cases hk : Nat.beq f f' with
    | true =>
      simp only [hk, cond_true] at h
      split at h
      · rename_i hb
        have he := Ty.eq_of_beq hb
        subst he
        simp only [Option.some.injEq] at h
        subst h
        rw [Nat.eq_of_beq_eq_true hk]; rfl
      · cases h
    | false => simp [hk] at h
  | clo f t =>
    cases d <;> simp only [Lf.abs, reduceCtorEq] at h
    rename_i f' t' y
    split at h
    · rename_i hb
      have he := Ty.eq_of_beq hb
      injection he with e1 e2
      subst e1 e2
      simp only [Option.some.injEq] at h
      subst h
      rfl
    · cases h
  | av k =>
    cases d <;> simp only [Lf.abs, reduceCtorEq] at h
    rename_i k' l
    cases hk : kbeq k k' with
    | true =>
      simp only [hk, cond_true, Option.some.injEq] at h
      subst h
      rw [eq_of_kbeq hk]; rfl
    | false => simp [hk] at h
  | va k =>
    cases d <;> simp only [Lf.abs, reduceCtorEq] at h
    rename_i k' l
    cases hk : kbeq k k' with
    | true =>
      simp only [hk, cond_true, Option.some.injEq] at h
      subst h
      rw [eq_of_kbeq hk]; rfl
    | false => simp [hk] at h
  | vp t =>
    cases d with
    | vptr t' l i off =>
      match l, i, off, h with
      | [y], 0, 0, h =>
        have h' : (if hb : t'.beq t = true then some (castX (Ty.eq_of_beq hb) y) else none) = some x := h
        split at h'
        · rename_i hb
          have he := Ty.eq_of_beq hb
          subst he
          simp only [Option.some.injEq] at h'
          subst h'
          rfl
        · cases h'
      | [], _, _, h => cases h
      | _ :: _ :: _, _, _, h => cases h
      | [_], _ + 1, _, h => cases h
      | [_], 0, _ + 1, h => cases h
    | _ => cases h

theorem lfCon_abs : ∀ {ls : List Lf} {ds : List D} {x : (lfTy ls).den}, lfAbs ls ds = some x → lfCon ls x = ds
  | [], [], _, _ => rfl
  | [], _ :: _, _, h => by simp [lfAbs] at h
  | _ :: _, [], _, h => by simp [lfAbs] at h
  | l :: r, d :: ds, x, h => by
    simp only [lfAbs] at h
    split at h
    · rename_i y z h1 h2
      simp only [Option.some.injEq] at h
      subst h
      simp only [lfCon]
      rw [Lf.con_abs h1, lfCon_abs h2]
    · cases h

theorem beqB {a b : Bool} (h : bbeq a b = true) : a = b := by cases a <;> cases b <;> first | rfl | cases h

theorem Sh.con_abs {l : Sh} {d : D} {x : l.ty.den} (h : l.abs d = some x) : l.con x = d := by
  cases l with
  | lf l => exact Lf.con_abs h
  | agg ls =>
    cases d <;> simp only [Sh.abs, reduceCtorEq] at h
    simp only [Sh.con]
    rw [lfCon_abs h]
  | boxv st live ls =>
    cases d <;> simp only [Sh.abs, reduceCtorEq] at h
    rename_i st' live' cs
    cases hk : (Nat.beq st st' && bbeq live live') with
    | true =>
      simp only [hk, cond_true] at h
      simp only [Bool.and_eq_true] at hk
      simp only [Sh.con]
      rw [lfCon_abs h, Nat.eq_of_beq_eq_true hk.1, beqB hk.2]
    | false => simp [hk] at h
  | arrv st live ar t =>
    cases d <;> simp only [Sh.abs, reduceCtorEq] at h
    rename_i st' live' ar' t' l
    cases hk : (Nat.beq st st' && bbeq live live' && bbeq ar ar') with
    | true =>
      simp only [hk, cond_true] at h
      simp only [Bool.and_eq_true] at hk
      split at h
      · rename_i hb
        have he := Ty.eq_of_beq hb
        subst he
        simp only [Option.some.injEq] at h
        subst h
        simp only [Sh.con]
        rw [Nat.eq_of_beq_eq_true hk.1.1, beqB hk.1.2, beqB hk.2]; rfl
      · cases h
    | false => simp [hk] at h

abbrev Pl := List (Nat × Sh)
@[reducible] def plTy : Pl → Ty
  | [] => .unit
  | p :: r => .cons p.2.ty (plTy r)
def plCon : (p : Pl) → (plTy p).den → St
  | [], _ => []
  | p :: r, x => (p.1, p.2.con x.1) :: plCon r x.2
def plAbs : (p : Pl) → St → Option (plTy p).den
  | [], _ => some ()
  | p :: r, s => match p.2.abs (get s p.1), plAbs r s with
    | some x, some y => some (x, y)
    | _, _ => none

def mem (k : Nat) : List Nat → Bool
  | [] => false
  | x :: r => Nat.beq k x || mem k r

def refsL : D → List Nat
  | .ptr id _ _ | .eptr id _ _ _ _ | .rsl id _ | .wnd id _ _ => [id]
  | _ => []
def refsLs : List D → List Nat
  | [] => []
  | d :: r => refsL d ++ refsLs r
def refs1 : D → List Nat
  | .agg cs => refsLs cs
  | d => refsL d
def refsAll : List D → List Nat
  | [] => []
  | d :: r => refs1 d ++ refsAll r
def refs : D → List Nat
  | .agg cs => refsLs cs
  | .tup vs => refsAll vs
  | .fn _ cs => refsLs cs
  | .boxv _ _ cs => refsLs cs
  | d => refsL d

def strike (ks : List Nat) : St → St
  | [] => []
  | (k, d) :: r => bif mem k ks then strike ks r else (k, d) :: strike (k :: ks) r

def odd (k : Nat) : Bool := Nat.beq (k % 2) 1

def isUndef : D → Bool
  | .undef => true
  | _ => false
def closedIn (s : St) : St → Bool
  | [] => true
  | (_, d) :: r => ((refs d).all fun i => !isUndef (get s (2 * i + 1))) && closedIn s r
def closedSt (hp : Bool) (s : St) : Bool := closedIn s s && (!hp || !isUndef (get s 1))

def bit (n k : Nat) : Bool := Nat.beq ((n >>> k) % 2) 1

def bitsO : List Operand → Nat
  | [] => 0
  | .tmp t :: r => Nat.lor (1 <<< t) (bitsO r)
  | _ :: r => bitsO r
def union : List Nat → List Nat → List Nat
  | [], ys => ys
  | x :: xs, ys => bif mem x ys then union xs ys else union xs (x :: ys)

structure Lv where
  e : Nat
  ch : List Nat
  s : St

def allKeys : St → List Nat
  | [] => []
  | (k, _) :: r => k :: allKeys r

def subset : List Nat → List Nat → Bool
  | [], _ => true
  | x :: xs, ys => mem x ys && subset xs ys

def Out.toData {R S : Type} (f : R → Option S) : Out R → Out S
  | .ret r => match f r with
    | some x => .ret x
    | none => .fail
  | .fail => .fail
  | .ite c a b => .ite c (a.toData f) (b.toData f)
  | .call t r k => .call t r (fun x => (k x).toData f)

end Go.Abs

namespace Go.Abs

def Lf.arg : (l : Lf) → D → Option l.ty.den
  | .sl _ t, .nils => some ([] : List t.den)
  | l, d => l.abs (viewL d)
def Lf.argS (s : St) : (l : Lf) → D → Option l.ty.den
  | .sl _ t, .rsl id st => match get s (2 * id + 1) with
    | .arrv st' true false t' l => bif Nat.beq st st' then (if h : t'.beq t = true then some (castL (Ty.eq_of_beq h) l) else none) else none
    | _ => none
  | .va k, .ptr id st 0 => match get s (2 * id + 1) with
    | .arrv st' true true (.int k') l => bif Nat.beq st st' && kbeq k k' then some l else none
    | _ => none
  | l, d => l.arg d
def lfArgS (s : St) : (ls : List Lf) → List D → Option (lfTy ls).den
  | [], [] => some ()
  | l :: r, d :: ds => match l.argS s d, lfArgS s r ds with
    | some x, some y => some (x, y)
    | _, _ => none
  | _, _ => none
def Sh.arg (s : St) : (l : Sh) → D → Option l.ty.den
  | .lf l, d => l.argS s d
  | .agg ls, .agg cs => lfArgS s ls cs
  | _, _ => none

def ownLf : Lf → Bool
  | .sl f _ => !Nat.beq f 0
  | _ => false
def ownSh : Sh → Bool
  | .lf l => ownLf l
  | .agg ls => ls.any ownLf
  | _ => false
def Lf.give : (l : Lf) → D → Option l.ty.den
  | .sl f t, .nils => bif Nat.blt f 3 then some ([] : List t.den) else none
  | l, d => l.abs d
def lfGive : (ls : List Lf) → List D → Option (lfTy ls).den
  | [], [] => some ()
  | l :: r, d :: ds => match l.give d, lfGive r ds with
    | some x, some y => some (x, y)
    | _, _ => none
  | _, _ => none
def Sh.give : (l : Sh) → D → Option l.ty.den
  | .lf l, d => l.give d
  | .agg ls, .agg cs => lfGive ls cs
  | _, _ => none
def Sh.argG (s : St) (p : Sh) (d : D) : Option p.ty.den := bif ownSh p then p.give d else p.arg s d

def argsIn (s : St) : (ps : List Sh) → List Operand → Option (shTy ps).den
  | [], [] => some ()
  | p :: r, x :: xs => match p.argG s (opd s x), argsIn s r xs with
    | some y, some z => some (y, z)
    | _, _ => none
  | _, _ => none

inductive RS where
  | none | one (s : Sh) | tup (l : List Sh) | newp (ls : List Lf)
@[reducible] def RS.ty : RS → Ty
  | .none => .unit
  | .one s => s.ty
  | .tup l => shTy l
  | .newp ls => lfTy ls

def Ty.ok : (t : Ty) → t.den → Prop
  | .int k, n => k.has n
  | .bool, _ => True
  | .str, l => l.length ≤ mlen ∧ ∀ c ∈ l, 0 ≤ c ∧ c < 256
  | .sl t, l => l.length * t.bsz ≤ big ∧ ∀ x ∈ l, t.ok x
  | .unit, _ => True
  | .cons a b, x => a.ok x.1 ∧ b.ok x.2
  | .st _ c, x => c.ok x
  | .clo _ t, x => t.ok x

abbrev XF := Nat → Nat → List (D × D) → Option (Bool × St)
def inBox (s : St) : D → D
  | .rsl id _ | .ptr id _ _ => get s (2 * id + 1)
  | _ => .undef
def opdX (s : St) (x : Operand) : D × D := (opd s x, inBox s (opd s x))
structure Con where
  hasP : Bool
  pre : List Lf
  ps : List Sh
  rs : RS
  post : List Lf
  F : (Ty.cons (lfTy pre) (shTy ps)).den → Option (Ty.cons rs.ty (lfTy post)).den
  xf : Option XF := none

def conAll : (l : List Sh) → (shTy l).den → List D
  | [], _ => []
  | p :: r, x => p.con x.1 :: conAll r x.2

def isR : D → Bool
  | .rsl _ _ => true
  | .ptr _ _ _ => true
  | _ => false
def hasR : D → Bool
  | .agg cs => cs.any isR
  | d => isR d
def lent (s : St) : List Operand → Bool
  | [] => false
  | x :: r => hasR (opd s x) || lent s r

def flatT : Ty → Bool
  | .sl _ => false
  | .clo _ _ => false
  | .cons a b => flatT a && flatT b
  | .st _ c => flatT c
  | _ => true
def noViewL : Lf → Bool
  | .sl f t => !Nat.beq f 0 && flatT t
  | .cst .undef => false
  | .cst .nils => true
  | .cst _ => false
  | .clo _ _ => false
  | .vp _ => false
  | .va _ => false
  | _ => true
def noView : Sh → Bool
  | .lf l => noViewL l
  | .agg ls => ls.all noViewL
  | _ => false
def RS.noView : RS → Bool
  | .none => true
  | .one s => Abs.noView s
  | .tup l => l.all Abs.noView
  | .newp ls => ls.all noViewL

def retU (o : Oper) (s : St) (rs : RS) (x : rs.ty.den) : Option St :=
  match rs, x with
  | .none, _ => match o.dst with
    | none => some []
    | some t => some [(2 * t, .undef)]
  | .one p, x => some (dstU o (p.con x))
  | .tup l, x => some (dstU o (.tup (conAll l x)))
  | .newp ls, x => match o.dst with
    | some t => some [(2 * t + 1, .boxv (curSt (get s (2 * t + 1)) + 1) true (lfCon ls x)), (2 * t, .ptr t (curSt (get s (2 * t + 1)) + 1) 0)]
    | none => none

def sharesOf (s : St) (xs : List Operand) : St := srcAll s share hasU (xs.map fun x => (0, x))
def viewsOf : List Sh → List Operand → List Operand
  | p :: ps, x :: xs => bif ownSh p then viewsOf ps xs else x :: viewsOf ps xs
  | _, _ => []
def givesOf : List Sh → List Operand → List Operand
  | p :: ps, x :: xs => bif ownSh p then x :: givesOf ps xs else givesOf ps xs
  | _, _ => []
def giveU : List Operand → St
  | [] => []
  | .tmp t :: r => (2 * t, .undef) :: giveU r
  | _ :: r => giveU r
def keysX : List Operand → List Nat
  | [] => []
  | .tmp t :: r => 2 * t :: keysX r
  | _ :: r => keysX r
def memB (x : Nat) : List Nat → Bool
  | [] => false
  | y :: r => Nat.beq x y || memB x r
def distB : List Nat → Bool
  | [] => true
  | x :: r => !memB x r && distB r
def giveOk (ps : List Sh) (xs : List Operand) : Bool :=
  match givesOf ps xs with
  | [] => true
  | _ => distB (keysX xs)
def passU (nv : Bool) (s : St) (ps : List Sh) (xs : List Operand) : St := (bif nv then [] else sharesOf s (viewsOf ps xs)) ++ giveU (givesOf ps xs)
def Con.nv (c : Con) : Bool := c.rs.noView && c.post.all noViewL

def notSelf (o : Oper) (id : Nat) : RS → Bool
  | .newp _ => match o.dst with
    | some t => !Nat.beq t id
    | none => false
  | _ => true

def callU0 (E : Env) (c : Con) (o : Oper) (s : St) (args : List Operand) : Out St :=
  bif dstOk E o then
  match c.hasP, args with
  | true, x :: xs => match opd s x with
    | .ptr id st off => match get s (2 * id + 1) with
      | .boxv st' true cs => bif Nat.beq st st' && Nat.beq off 0 && (!lent s xs || c.nv) && notSelf o id c.rs && giveOk c.ps xs then
        match lfAbs c.pre cs, argsIn s c.ps xs with
        | some y, some z => .call (.cons c.rs.ty (lfTy c.post)) (c.F (y, z)) fun r =>
            match retU o s c.rs r.1 with
            | some u => .ret (passU c.nv s c.ps xs ++ (2 * id + 1, .boxv st true (lfCon c.post r.2)) :: u)
            | none => .fail
        | _, _ => .fail else .fail
      | _ => .fail
    | _ => .fail
  | false, xs => bif (!lent s xs || c.nv) && giveOk c.ps xs then
    match lfAbs c.pre [], argsIn s c.ps xs with
    | some y, some z => .call (.cons c.rs.ty (lfTy c.post)) (c.F (y, z)) fun r =>
        match retU o s c.rs r.1 with
        | some u => .ret (passU c.nv s c.ps xs ++ u)
        | none => .fail
    | _, _ => .fail else .fail
  | _, _ => .fail else .fail

def callX (E : Env) (x : XF) (o : Oper) (s : St) (args : List Operand) : Out St :=
  bif dstOk E o then
    match o.dst with
    | some t => match x t (curSt (get s (2 * t + 1)) + 1) (args.map (opdX s)) with
      | some (g, u) => .ite g (.ret u) .fail
      | none => .fail
    | none => .fail
  else .fail
def callU (E : Env) (c : Con) (o : Oper) (s : St) (args : List Operand) : Out St :=
  match c.xf with
  | some x => callX E x o s args
  | none => callU0 E c o s args

def isArr : D → Bool
  | .arrv _ _ _ _ _ => true
  | _ => false
def rowPtr (s : St) (x : Operand) : Bool :=
  match opd s x with
  | .eptr _ _ _ _ _ | .gptr _ _ => true
  | .ptr id _ _ => isArr (get s (2 * id + 1))
  | _ => false
def isCst : Operand → Bool
  | .const _ => true
  | _ => false
def isSl : D → Bool
  | .sl _ _ _ | .rsl _ _ | .str _ | .wnd _ _ _ => true
  | _ => false

def opsLt (n : Nat) : List Operand → Bool
  | [] => true
  | .tmp t :: r => Nat.blt t n && opsLt n r
  | _ :: r => opsLt n r
def keysLt (n : Nat) : St → Bool
  | [] => true
  | p :: r => Nat.blt p.1 n && keysLt n r
def callC (E : Env) (c : Con) (o : Oper) (s : St) (args : List Operand) (d : D) : Out St :=
  bif dstOk E o && !c.hasP && opsLt E.n args then
    (callU0 { E with n := E.n + 1 } c o ((2 * E.n, d) :: s) (args ++ [.tmp E.n])).bind fun u => bif keysLt (2 * E.n) u then .ret u else .fail
  else .fail
def needsG (o : Oper) (s : St) : Bool :=
  match o.op with
  | .binOp op _ _ y _ => match op with
    | .quo | .rem | .shl | .shr => !isCst y
    | .add => match opd s y with
      | .str _ => true
      | _ => false
    | _ => false
  | .load _ x => rowPtr s x
  | .store _ x _ => rowPtr s x
  | .convert _ _ x => match opd s x with
    | .str _ => true
    | _ => false
  | .makeSlice _ _ _ | .slice _ _ _ _ _ => true
  | .indexAddr _ x i | .index _ x i => !isCst i || isSl (opd s x)
  | .call c => match c.callee with
    | .builtin .append => true
    | _ => false
  | _ => false

def guarded (o : Oper) (s : St) : Option (Bool × St) → Out St
  | some (g, u) => bif needsG o s then .ite g (.ret u) .fail else bif g then .ret u else .fail
  | none => .fail

def seal1 (s : St) (k j X : Nat) : St :=
  match get s (2 * X + 1) with
  | .arrv st true false t l =>
    (bif odd k then (match get s k with
      | .boxv st' true cs => (match (cs.drop j).take 1 with
        | [.rsl Y st2] => bif Nat.beq Y X && (Nat.beq st2 st && !Nat.beq (k / 2) X) then [(k, .boxv st' true (repl cs j [.sl 2 t l])), (2 * X + 1, .arrv st false false t l)] else []
        | _ => [])
      | _ => [])
    else (match get s k with
      | .rsl Y st2 => bif Nat.beq Y X && Nat.beq st2 st then [(k, .sl 2 t l), (2 * X + 1, .arrv st false false t l)] else []
      | _ => []))
  | _ => []
def preSeal (E : Env) (o : Oper) (s : St) (args : List Operand) : St :=
  bif Nat.beq (tag E o) 10 then (match args with
    | .tmp u :: _ => (match get s (2 * u) with
      | .rsl X _ => seal1 s (2 * u) 0 X
      | _ => [])
    | _ => []) else []
def guardedS (E : Env) (o : Oper) (s : St) (args : List Operand) : Out St :=
  (guarded o (preSeal E o s args ++ s) (actS E o (preSeal E o s args ++ s))).bind fun u => .ret ((preSeal E o s args).reverse ++ u)

abbrev Kn := List (Nat × Bool)
def knL : Kn → Nat → Option Bool
  | [], _ => none
  | (t, b) :: r, u => bif Nat.beq u t then some b else knL r u
def knO (kn : Kn) : Operand → Option Bool
  | .const (.bool b) => some b
  | .tmp t => knL kn t
  | _ => none
def knDrop (t : Nat) : Kn → Kn
  | [] => []
  | (u, b) :: r => bif Nat.beq u t then knDrop t r else (u, b) :: knDrop t r
def knSet (kn : Kn) (o : Oper) (b : Option Bool) : Kn :=
  match o.dst with
  | none => kn
  | some t => match b with
    | some b => (t, b) :: knDrop t kn
    | none => knDrop t kn
def bnot : Bool → Bool
  | true => false
  | false => true
def knOp (kn : Kn) (o : Oper) : Kn :=
  match o.op with
  | .move x => knSet kn o (knO kn x)
  | .unOp .not _ x => knSet kn o (match knO kn x with
    | some b => some (bnot b)
    | none => none)
  | .pick c x y => knSet kn o (match knO kn c with
    | some b => knO kn (bif b then x else y)
    | none => none)
  | _ => knSet kn o none

abbrev Gam := Nat → Option Con

def outU : Option (Bool × St) → Out St
  | some (g, u) => bif g then .ret u else .fail
  | none => .fail

def ckey (E : Env) (o : Oper) (f : Nat) : Nat := bif Nat.ble 101 (tag E o) then f + (tag E o - 100) * 1000000 else f
def opU (E : Env) (Γ : Gam) (kn : Kn) (o : Oper) (s : St) : Out St :=
  match o.op with
  | .pick c x y => bif dstOk E o then
    match opd s c with
    | .bool b => match knO kn c with
      | some b' => .ite (bbeq b b') (outU (aMove E o s (bif b' then x else y))) .fail
      | none => .ite b (outU (aMove E o s x)) (outU (aMove E o s y))
    | _ => .fail else .fail
  | .call c => match c.callee with
    | .value (.func f) => bif Nat.blt f 1000000 then
      (match Γ (ckey E o f) with
      | some con => callU E con o s c.args.toList
      | none => .fail) else .fail
    | .value x => match opd s x with
      | .fnc f => bif Nat.blt f 1000000 then
        (match Γ (ckey E o f) with
        | some con => match con.xf with
          | none => callU0 E con o s c.args.toList
          | some _ => .fail
        | none => .fail) else .fail
      | .clo f t v => bif Nat.blt f 1000000 then
        (match Γ (ckey E o f) with
        | some con => match con.xf with
          | none => callC E con o s c.args.toList (.vptr t [v] 0 0)
          | some _ => .fail
        | none => .fail) else .fail
      | _ => .fail
    | _ => guardedS E o s c.args.toList
  | _ => guarded o s (actS E o s)

def dstAt (all : List Oper) (j : Nat) : Option Nat :=
  match all[j]? with
  | some o => o.dst
  | none => none

def skipU (o : Oper) : St := dstU o (.tup [])

def evOps (E : Env) (Γ : Gam) (all : List Oper) : List Oper → Kn → List Nat → St → Out Lv
  | [], _, ch, s => .ret ⟨0, ch, s⟩
  | o :: r, kn, ch, s => match o.guard with
    | none => (opU E Γ kn o s).bind fun u => evOps E Γ all r (knOp kn o) (allKeys u ++ ch) (applyU u s)
    | some (j, want) => match dstAt all j with
      | none => .fail
      | some t => match get s (2 * t) with
        | .bool b => match knL kn t with
          | some c => bif bbeq b c then
              (bif bbeq c want then (opU E Γ kn o s).bind fun u => evOps E Γ all r (knOp kn o) (allKeys u ++ ch) (applyU u s)
               else bif dstOk E o then evOps E Γ all r (knSet kn o none) (allKeys (skipU o) ++ ch) (applyU (skipU o) s) else .fail) else .fail
          | none => bif dstOk E o then
              .ite (bbeq b want)
                ((opU E Γ ((t, want) :: kn) o ((2 * t, .bool want) :: s)).bind fun u =>
                  evOps E Γ all r (knOp ((t, want) :: kn) o) (allKeys u ++ 2 * t :: ch) (applyU u ((2 * t, .bool want) :: s)))
                (evOps E Γ all r (knSet ((t, bnot want) :: kn) o none) (allKeys (skipU o) ++ 2 * t :: ch) (applyU (skipU o) ((2 * t, .bool (bnot want)) :: s))) else .fail
        | .tup [] => bif dstOk E o then evOps E Γ all r (knSet kn o none) (allKeys (skipU o) ++ ch) (applyU (skipU o) s) else .fail
        | _ => .fail

def boxKs : List Nat → List Nat
  | [] => []
  | i :: r => (2 * i + 1) :: boxKs r
def readsX (s : St) : Operand → List Nat
  | .tmp t => match get s (2 * t) with
    | .ptr id _ _ | .eptr id _ _ _ _ | .rsl id _ | .wnd id _ _ => [2 * t, 2 * id + 1]
    | .agg cs => 2 * t :: boxKs (refsLs cs)
    | _ => [2 * t]
  | _ => []
def readsXs (s : St) : List Operand → List Nat
  | [] => []
  | x :: r => readsX s x ++ readsXs s r
def shallowXs : List Operand → List Nat
  | [] => []
  | .tmp t :: r => 2 * t :: shallowXs r
  | _ :: r => shallowXs r
def deep : Op → Bool
  | .move _ | .assign _ | .pick _ _ _ | .alloc _ | .box _ _ | .build _ _ | .buildSlice _ _ _ | .nilCheck _ | .binOp _ _ _ _ _ | .unOp _ _ _ | .makeSlice _ _ _ | .fieldAddr _ _ _ | .field _ _ _ | .extract _ _ => false
  | _ => true
def reads (all : List Oper) (o : Oper) (s : St) : List Nat :=
  (match o.guard with
   | some (j, _) => match dstAt all j with
     | some t => [2 * t]
     | none => []
   | none => []) ++ ((match o.dst with
   | some t => [2 * t + 1]
   | none => []) ++ bif deep o.op then readsXs s o.op.operands.toList else shallowXs o.op.operands.toList)

def opG (E : Env) (Γ : Gam) (all : List Oper) (o : Oper) (s : St) : Out St :=
  match o.guard with
  | none => opU E Γ [] o s
  | some (j, want) => match dstAt all j with
    | none => .fail
    | some t => match get s (2 * t) with
      | .bool b => bif dstOk E o then .ite (bbeq b want) (opU E Γ [] o s) (.ret (skipU o)) else .fail
      | .tup [] => bif dstOk E o then .ret (skipU o) else .fail
      | _ => .fail

def meets : List Nat → List Nat → Bool
  | [], _ => false
  | x :: r, ys => mem x ys || meets r ys

def befores (o : Oper) : List Nat := (o.after.toList.filter (Region.binds .any)).map (·.on)

structure Foot where
  rd : List Nat
  wr : List Nat
  bf : List Nat

def nth (l : List Foot) (n : Nat) : Option Foot := l[n]?

def below (i : Nat) : List Nat → Bool
  | [] => true
  | x :: r => Nat.blt x i && below i r

def closure (fs : List Foot) : List Nat → List Nat
  | [] => []
  | x :: r => match fs[x]? with
    | some f => union (x :: f.bf) (closure fs r)
    | none => union [x] (closure fs r)

def apart (f g : Foot) : Bool := !meets f.wr g.rd && !meets f.wr g.wr && !meets g.wr f.rd

def apartAll (bf : List Nat) (g : Foot) : Nat → List Foot → Bool
  | _, [] => true
  | i, f :: r => (mem i bf || apart f g) && apartAll bf g (i + 1) r

def footOf (all : List Oper) (o : Oper) (fs : List Foot) (s u : St) : Foot := { rd := reads all o s, wr := allKeys u, bf := closure fs (befores o) }

def evDrawn (E : Env) (Γ : Gam) (all : List Oper) : List Oper → Kn → List Foot → List Nat → St → Out Lv
  | [], _, _, ch, s => .ret ⟨0, ch, s⟩
  | o :: r, kn, fs, ch, s => bif below fs.length (befores o) then
      (match o.guard with
      | none => (opU E Γ kn o s).bind fun u => bif apartAll (closure fs (befores o)) (footOf all o fs s u) 0 fs then evDrawn E Γ all r (knOp kn o) (fs ++ [footOf all o fs s u]) (allKeys u ++ ch) (applyU u s) else .fail
      | some (j, want) => match dstAt all j with
        | none => .fail
        | some t => match get s (2 * t) with
          | .bool b => bif dstOk E o then
              (match knL kn t with
              | some c => .ite (bbeq b c) (bif bbeq c want then
                  ((opU E Γ kn o s).bind fun u => bif apartAll (closure fs (befores o)) (footOf all o fs s u) 0 fs then evDrawn E Γ all r (knOp kn o) (fs ++ [footOf all o fs s u]) (allKeys u ++ ch) (applyU u s) else .fail)
                  else (bif apartAll (closure fs (befores o)) (footOf all o fs s (skipU o)) 0 fs then evDrawn E Γ all r (knSet kn o none) (fs ++ [footOf all o fs s (skipU o)]) (allKeys (skipU o) ++ ch) (applyU (skipU o) s) else .fail)) .fail
              | none => .ite (bbeq b want)
                  ((opU E Γ ((t, want) :: kn) o s).bind fun u => bif apartAll (closure fs (befores o)) (footOf all o fs s u) 0 fs then evDrawn E Γ all r (knOp ((t, want) :: kn) o) (fs ++ [footOf all o fs s u]) (allKeys u ++ ch) (applyU u s) else .fail)
                  (bif apartAll (closure fs (befores o)) (footOf all o fs s (skipU o)) 0 fs then evDrawn E Γ all r (knSet ((t, bnot want) :: kn) o none) (fs ++ [footOf all o fs s (skipU o)]) (allKeys (skipU o) ++ ch) (applyU (skipU o) s) else .fail)) else .fail
          | .tup [] => bif dstOk E o then (bif apartAll (closure fs (befores o)) (footOf all o fs s (skipU o)) 0 fs then evDrawn E Γ all r (knSet kn o none) (fs ++ [footOf all o fs s (skipU o)]) (allKeys (skipU o) ++ ch) (applyU (skipU o) s) else .fail) else .fail
          | _ => .fail)
      else .fail

structure Way where
  e : Nat
  pl : Pl
  drop : List Nat

inductive Plan where
  | go
  | sq (a b : Plan)
  | cut (M : List Nat) (ws : List Way) (p : Plan)
  | loop (M : List Nat) (pl : Pl) (drop : List Nat) (ws : List Way) (p : Plan)
  | opn (l : List (Nat × Nat × Nat))
  | opk (l : List (Nat × Nat × Nat))
  | sea (l : List (Nat × Nat × Nat))
  | unr (n : Nat) (p : Plan)

def leafT : D → Option ((t : Ty) × t.den)
  | .int k n => some ⟨.int k, n⟩
  | .bool b => some ⟨.bool, b⟩
  | .str l => some ⟨.str, l⟩
  | .sl 0 t l => some ⟨.sl t, l⟩
  | .clo f t x => some ⟨.clo f t, x⟩
  | _ => none
def leavesT : List D → Option ((t : Ty) × t.den)
  | [] => some ⟨.unit, ()⟩
  | d :: r => match leafT d, leavesT r with
    | some a, some b => some ⟨.cons a.1 b.1, (a.2, b.2)⟩
    | _, _ => none
def freeze1 (s : St) (k id st off : Nat) : St :=
  match get s (2 * id + 1) with
  | .boxv st' true cs => (match leavesT cs with
    | some x => bif Nat.beq st st' && Nat.beq off 0 then [(2 * id + 1, .boxv st false cs), (k, .vptr x.1 [x.2] 0 0)] else []
    | none => [])
  | _ => []
def open1 (n : Nat) (s : St) (k j X : Nat) : St :=
  bif Nat.blt X n then
    (bif odd k then (match get s k with
      | .boxv st true cs => (match (cs.drop j).take 1 with
        | [.sl f t l] => bif Nat.beq f 2 && (Nat.blt 0 t.nc && !Nat.beq (k / 2) X) then
            [(k, .boxv st true (repl cs j [.rsl X (curSt (get s (2 * X + 1)) + 1)])), (2 * X + 1, .arrv (curSt (get s (2 * X + 1)) + 1) true false t l)] else []
        | _ => [])
      | _ => [])
    else (match get s k with
      | .sl f t l => bif Nat.beq f 2 && Nat.blt 0 t.nc then
          [(k, .rsl X (curSt (get s (2 * X + 1)) + 1)), (2 * X + 1, .arrv (curSt (get s (2 * X + 1)) + 1) true false t l)] else []
      | .ptr id st off => freeze1 s k id st off
      | _ => []))
  else []
def openK {α : Type} (n : Nat) : List (Nat × Nat × Nat) → List Nat → St → (List Nat → St → α) → α
  | [], ch, s, k => k ch s
  | p :: r, ch, s, k => openK n r (allKeys (open1 n s p.1 p.2.1 p.2.2) ++ ch) (open1 n s p.1 p.2.1 p.2.2 ++ s) k
def sealK : List (Nat × Nat × Nat) → Lv → Lv
  | [], r => r
  | p :: l, r => sealK l ⟨r.e, allKeys (seal1 r.s p.1 p.2.1 p.2.2) ++ r.ch, seal1 r.s p.1 p.2.1 p.2.2 ++ r.s⟩
def openO (n : Nat) (p : Plan) (ch : List Nat) (s : St) (run : List Nat → St → Out Lv) : Out Lv :=
  match p with
  | .opn l => openK n l ch s fun ch s => (run ch s).bind fun r => .ret (sealK l r)
  | .opk l => openK n l ch s run
  | .sea l => (run ch s).bind fun r => .ret (sealK l r)
  | _ => run ch s

def unrollO (run : List Nat → St → Out Lv) : Nat → List Nat → St → Out Lv
  | 0, _, _ => .fail
  | n + 1, ch, s => (run ch s).bind fun r => bif Nat.beq r.e 0 then unrollO run n r.ch r.s else .ret r

def Plan.inner : Plan → Plan
  | .cut _ _ q => q
  | q => q
def Plan.left : Plan → Plan
  | .sq a _ => a
  | _ => .go
def Plan.right : Plan → Plan
  | .sq _ b => b
  | _ => .go

@[reducible] def waysTy : List Way → Ty
  | [] => .unit
  | [w] => plTy w.pl
  | w :: r => .cons .bool (.cons (plTy w.pl) (waysTy r))

def cutSt (M : List Nat) (base : St) (w : Way) (x : (plTy w.pl).den) : St := plCon w.pl x ++ strike (M ++ w.drop) base

def lvlL : Lf → Nat
  | .sl f _ => f
  | _ => 2
def lvlLs : List Lf → Nat
  | [] => 2
  | l :: r => bif Nat.ble (lvlL l) (lvlLs r) then lvlL l else lvlLs r
def lvlSh : Sh → Nat
  | .lf l => lvlL l
  | .agg ls => lvlLs ls
  | .boxv _ _ ls => lvlLs ls
  | _ => 2
def overL (n : Nat) : D → Bool
  | .sl f _ _ => Nat.blt n f
  | _ => false
def overD (n : Nat) : D → Bool
  | .agg cs => cs.any (overL n)
  | .boxv _ _ cs => cs.any (overL n)
  | d => overL n d
def weak1 (M : List Nat) (s : St) (k : Nat) (sh : Sh) : St :=
  bif (overD (lvlSh sh) (get s k) && !(sh.abs (get s k)).isSome) && mem k M then
    (bif odd k then (match get s k with
      | .boxv st true cs => bif Nat.beq (lvlSh sh) 0 then (k, .boxv st true (cs.map viewL)) :: (k, .boxv st true (cs.map shareL)) :: s else (k, .boxv st true (cs.map shareL)) :: s
      | _ => s)
    else (bif isTup (get s k) then s else
      (bif Nat.beq (lvlSh sh) 0 then (k, view (get s k)) :: (k, share (get s k)) :: s else (k, share (get s k)) :: s)))
  else s
def weakSt (M : List Nat) : Pl → St → St
  | [], s => s
  | p :: r, s => weakSt M r (weak1 M s p.1 p.2)
def plAbsW (M : List Nat) (pl : Pl) (s : St) : Option (plTy pl).den := plAbs pl (weakSt M pl s)

def waysAbs (M : List Nat) (e : Nat) (s : St) : (ws : List Way) → Option (waysTy ws).den
  | [] => none
  | [w] => bif Nat.beq e w.e then plAbsW M w.pl s else none
  | w :: w' :: r => bif Nat.beq e w.e then (match plAbsW M w.pl s with
      | some x => some (true, x, (waysTy (w' :: r)).dflt)
      | none => none)
    else (match waysAbs M e s (w' :: r) with
      | some y => some (false, (plTy w.pl).dflt, y)
      | none => none)

def waysCon (hp : Bool) (M : List Nat) (ch : List Nat) (base : St) : (ws : List Way) → (waysTy ws).den → Out Lv
  | [], _ => .fail
  | [w], x => let s := cutSt M base w x
    bif closedSt hp s then .ret ⟨w.e, M ++ w.drop ++ ch, s⟩ else .fail
  | w :: w' :: r, x => .ite x.1 (let s := cutSt M base w x.2.1
    bif closedSt hp s then .ret ⟨w.e, M ++ w.drop ++ ch, s⟩ else .fail) (waysCon hp M ch base (w' :: r) x.2.2)

def leafO (M : List Nat) (ws : List Way) (r : Lv) : Option (waysTy ws).den :=
  bif subset r.ch M then waysAbs M r.e r.s ws else none

def cutO (hp : Bool) (M : List Nat) (ws : List Way) (ch : List Nat) (base : St) (o : Out Lv) : Out Lv :=
  .call (waysTy ws) (o.toData (leafO M ws)).den (waysCon hp M ch base ws)

def wrap (hp : Bool) (p : Plan) (ch : List Nat) (s : St) (run : List Nat → Out Lv) : Out Lv :=
  match p with
  | .cut M ws _ => cutO hp M ws ch s (run [])
  | _ => run ch

def itN {τ ε : Type} (step : τ → Option (Sum τ ε)) : Nat → τ → Option ε
  | 0, _ => none
  | n + 1, v => match step v with
    | some (.inl v') => itN step n v'
    | some (.inr e) => some e
    | none => none

open Classical in
noncomputable def Loop {τ ε : Type} (step : τ → Option (Sum τ ε)) (v : τ) : Option ε :=
  if h : ∃ n, (itN step n v).isSome = true then itN step h.choose v else none

def plKeys : Pl → List Nat
  | [] => []
  | p :: r => p.1 :: plKeys r

def headSt (M : List Nat) (pl : Pl) (drop : List Nat) (base : St) (v : (plTy pl).den) : St := plCon pl v ++ strike (M ++ drop) base

def leafL (hp : Bool) (M : List Nat) (pl : Pl) (drop : List Nat) (base : St) (ws : List Way) (r : Lv) : Option (Sum (plTy pl).den (waysTy ws).den) :=
  bif subset r.ch M then
    (bif Nat.beq r.e 0 then (match plAbsW M pl r.s with
      | some v => bif closedSt hp (headSt M pl drop base v) then some (.inl v) else none
      | none => none)
    else match waysAbs M r.e r.s ws with
      | some x => some (.inr x)
      | none => none) else none

abbrev LoopFn := (τ ε : Type) → (τ → Option (Sum τ ε)) → τ → Option ε

def loopO (lp : LoopFn) (hp : Bool) (M : List Nat) (pl : Pl) (drop : List Nat) (ws : List Way) (ch : List Nat) (s : St) (body : St → Out Lv) : Out Lv :=
  bif subset (plKeys pl) M then
  match plAbsW M pl s with
  | some v0 => bif closedSt hp (headSt M pl drop s v0) then
      .call (waysTy ws) (lp _ _ (fun v => ((body (headSt M pl drop s v)).toData (leafL hp M pl drop s ws)).den) v0) (waysCon hp (M ++ drop) ch s ws) else .fail
  | none => .fail else .fail

def ev (lp : LoopFn) (E : Env) (Γ : Gam) : Code → Plan → List Nat → St → Out Lv
  | .skip, _, ch, s => .ret ⟨0, ch, s⟩
  | .ret, _, ch, s => .ret ⟨1, ch, s⟩
  | .exit id, _, ch, s => .ret ⟨id + 2, ch, s⟩
  | .label _, _, ch, s => .ret ⟨0, ch, s⟩
  | .scope c, p, ch, s => ev lp E Γ c p ch s
  | .region _ ops draw, p, ch, s => wrap E.hp p ch s fun ch => openO E.n p.inner ch s fun ch s => bif draw then evDrawn E Γ ops.toList ops.toList [] [] ch s else evOps E Γ ops.toList ops.toList [] ch s
  | .seq a b, p, ch, s => wrap E.hp p ch s fun ch => (ev lp E Γ a p.inner.left ch s).bind fun r => bif Nat.beq r.e 0 then ev lp E Γ b p.inner.right r.ch r.s else .ret r
  | .cond c a b, p, ch, s => wrap E.hp p ch s fun ch => match opd s c with
      | .bool x => .ite x (ev lp E Γ a p.inner.left ch s) (ev lp E Γ b p.inner.right ch s)
      | _ => .fail
  | .block id c, p, ch, s => wrap E.hp p ch s fun ch => (ev lp E Γ c p.inner.left ch s).bind fun r => .ret ⟨bif Nat.beq r.e (id + 2) then 0 else r.e, r.ch, r.s⟩
  | .loop c, p, ch, s => wrap E.hp p ch s fun ch => match p.inner with
      | .loop M pl drop ws q => loopO lp E.hp M pl drop ws ch s (fun st => ev lp E Γ c q [] st)
      | .unr n q => unrollO (fun ch st => ev lp E Γ c q ch st) n ch s
      | _ => .fail
  | _, _, _, _ => .fail

def entryPs : Nat → (ps : List Sh) → (shTy ps).den → St
  | _, [], _ => []
  | i, p :: r, x => (2 * i, p.con x.1) :: entryPs (i + 1) r x.2
def entrySt (c : Con) (x : (Ty.cons (lfTy c.pre) (shTy c.ps)).den) : St :=
  bif c.hasP then (1, .boxv 1 true (lfCon c.pre x.1)) :: (0, .ptr 0 1 0) :: entryPs 1 c.ps x.2 else entryPs 0 c.ps x.2

def Lf.res : (l : Lf) → D → Option l.ty.den
  | .sl f t, .nils => bif Nat.ble f 2 then some ([] : List t.den) else none
  | .sl 0 t, d => (Lf.sl 0 t).abs (viewL d)
  | l, d => l.abs d
def lfRes : (ls : List Lf) → List D → Option (lfTy ls).den
  | [], [] => some ()
  | l :: r, d :: ds => match l.res d, lfRes r ds with
    | some x, some y => some (x, y)
    | _, _ => none
  | _, _ => none
def wantL : Lf → Bool
  | .sl 0 _ => true
  | _ => false
def wantV : Sh → Bool
  | .lf l => wantL l
  | .agg ls => ls.any wantL
  | _ => false
def Sh.res1 : (l : Sh) → D → Option l.ty.den
  | .lf l, d => l.res d
  | .agg ls, .agg cs => lfRes ls cs
  | _, _ => none
def clean : D → D
  | .agg cs => bif (refsLs cs).isEmpty then .agg cs else .undef
  | .tup _ => .undef
  | .fn _ _ => .undef
  | .boxv _ _ _ => .undef
  | .arrv _ _ _ _ _ => .undef
  | d => bif (refsL d).isEmpty then d else .undef
def Sh.res (p : Sh) (d : D) : Option p.ty.den := p.res1 (bif wantV p then share (clean d) else clean d)

def mkRes (t : Ty) (l : List t.den) (n : Nat) : D := bif Nat.blt 64 n then mkAv n t l else .agg (encN t l 0 n)
def resO (E : Env) (s : St) : ResultVar → Option D
  | .tmp t => some (get s (2 * t))
  | .cell t T => match get s (2 * t), E.T T with
    | .ptr id st off, some i => match get s (2 * id + 1) with
      | .boxv st' true cs => bif Nat.beq st st' && Nat.beq off 0 && Nat.beq cs.length i.size then mk1 i.agg cs else none
      | .arrv st' true true t l => bif Nat.beq st st' && Nat.beq off 0 && i.agg && Nat.beq t.nc 1 && Nat.beq l.length i.size then some (mkRes t l i.size) else none
      | _ => none
    | _, _ => none
def resK (s : St) : ResultVar → Nat
  | .tmp t => 2 * t
  | .cell t _ => match get s (2 * t) with
    | .ptr id _ _ => 2 * id + 1
    | _ => 0
def resAll (E : Env) (s : St) : List ResultVar → Option (List D)
  | [] => some []
  | r :: l => match resO E s r, resAll E s l with
    | some d, some ds => some (d :: ds)
    | _, _ => none
def nodupB : List Nat → Bool
  | [] => true
  | x :: r => !mem x r && nodupB r
def shRes : (l : List Sh) → List D → Option (shTy l).den
  | [], [] => some ()
  | p :: r, d :: ds => match p.res d, shRes r ds with
    | some x, some y => some (x, y)
    | _, _ => none
  | _, _ => none
def retV (s : St) : (rs : RS) → List D → Option rs.ty.den
  | .none, [] => some ()
  | .one p, [d] => p.res d
  | .tup l, ds => bif Nat.beq ds.length 1 then none else shRes l ds
  | .newp ls, [.ptr id st off] => match get s (2 * id + 1) with
    | .boxv st' true cs => bif Nat.beq st st' && Nat.beq off 0 && !Nat.beq id 0 then lfAbs ls cs else none
    | _ => none
  | _, _ => none
def postV (s : St) (hasP : Bool) (post : List Lf) : Option (lfTy post).den :=
  match hasP with
  | true => match get s 1 with
    | .boxv st true cs => bif Nat.beq st 1 then lfAbs post cs else none
    | _ => none
  | false => lfAbs post []

def leaveF (E : Env) (fn : Func) (c : Con) (r : Lv) : Option (Ty.cons c.rs.ty (lfTy c.post)).den :=
  bif Nat.blt r.e 2 && nodupB ((bif c.hasP then 1 else 2000001) :: fn.results.toList.map (resK r.s)) then
    match resAll E r.s fn.results.toList with
    | some ds => match retV r.s c.rs ds, postV r.s c.hasP c.post with
      | some x, some y => some (x, y)
      | _, _ => none
    | none => none
  else none

def okLf : Lf → Bool
  | .cst .undef => true
  | .cst .nils => true
  | .cst (.gptr _ _) => true
  | .cst (.fnc _) => true
  | .cst _ => false
  | _ => true
def okSh : Sh → Bool
  | .lf l => okLf l
  | .agg ls => ls.all okLf
  | _ => false
def argLf : Lf → Bool
  | .sl f _ => Nat.beq f 0
  | l => okLf l
def argSh : Sh → Bool
  | .lf l => argLf l
  | .agg ls => ls.all argLf
  | _ => false
def RS.ok : RS → Bool
  | .none => true
  | .one p => okSh p
  | .tup l => l.all okSh && !Nat.beq l.length 1
  | .newp ls => ls.all okLf
def Con.ok (c : Con) : Bool := c.pre.all okLf && c.ps.all okSh && c.rs.ok && c.post.all okLf && (c.hasP || (c.pre.isEmpty && c.post.isEmpty))

def evF (lp : LoopFn) (E : Env) (Γ : Gam) (fn : Func) (p : Plan) (c : Con) (x : (Ty.cons (lfTy c.pre) (shTy c.ps)).den) : Out (Ty.cons c.rs.ty (lfTy c.post)).den :=
  match fn.body with
  | some code => (ev lp E Γ code p [] (entrySt c x)).toData (leaveF E fn c)
  | none => .fail

end Go.Abs

namespace Go.Abs

theorem isUndef_iff {d : D} : isUndef d = true ↔ d = .undef := by cases d <;> simp [isUndef]

theorem sumN_le {n : Nat} {f g : Nat → Nat} (h : ∀ i, f i ≤ g i) : sumN n f ≤ sumN n g := by
  induction n with
  | zero => exact Nat.le_refl _
  | succ n ih => simp only [sumN]; exact Nat.add_le_add ih (h n)

section
variable {w : World} {G : Nat → Nat} {pt pt' : Nat → Nat → Option Value}

theorem RepL.ptr {d : D} {v : Value} (hp : ∀ i ∈ refsL d, ∀ st, pt' i st = pt i st) (h : RepL w G pt d v) : RepL w G pt' d v := by
  cases d with
  | ptr id st off => obtain ⟨b, h1, h2⟩ := h; exact ⟨b, by rw [hp id (by simp [refsL])]; exact h1, h2⟩
  | eptr id st i off es => obtain ⟨b, h1, h2⟩ := h; exact ⟨b, by rw [hp id (by simp [refsL])]; exact h1, h2⟩
  | rsl id st => show pt' id st = some v; rw [hp id (by simp [refsL])]; exact h
  | wnd id st n =>
    obtain ⟨h, hn⟩ := h
    rcases h with ⟨b, c, h1, h2⟩ | h
    · exact ⟨.inl ⟨b, c, by rw [hp id (by simp [refsL])]; exact h1, h2⟩, hn⟩
    · exact ⟨.inr h, hn⟩
  | _ => exact h

theorem mem_refsLs {i : Nat} : ∀ {ds : List D} (j : Nat) (h : j < ds.length), i ∈ refsL ds[j] → i ∈ refsLs ds
  | d :: r, 0, _, h => by simp only [refsLs, List.mem_append]; exact .inl h
  | d :: r, j + 1, hj, h => by
    simp only [refsLs, List.mem_append]
    exact .inr (mem_refsLs j (by simpa using hj) (by simpa using h))
theorem mem_refsAll {i : Nat} : ∀ {ds : List D} (j : Nat) (h : j < ds.length), i ∈ refs1 ds[j] → i ∈ refsAll ds
  | d :: r, 0, _, h => by simp only [refsAll, List.mem_append]; exact .inl h
  | d :: r, j + 1, hj, h => by
    simp only [refsAll, List.mem_append]
    exact .inr (mem_refsAll j (by simpa using hj) (by simpa using h))

theorem RepLs.ptr {ds : List D} {f : Nat → Value} (hp : ∀ i ∈ refsLs ds, ∀ st, pt' i st = pt i st) (h : RepLs w G pt ds f) : RepLs w G pt' ds f :=
  fun j hj => ⟨(h j hj).1.ptr fun i hi => hp i (mem_refsLs j hj hi), (h j hj).2⟩

theorem Rep1.ptr {d : D} {v : Value} (hp : ∀ i ∈ refs1 d, ∀ st, pt' i st = pt i st) (h : Rep1 w G pt d v) : Rep1 w G pt' d v := by
  cases d with
  | agg cs => obtain ⟨arr, h1, h2, h3⟩ := h; exact ⟨arr, h1, h2, h3.ptr hp⟩
  | _ => simp only [Rep1] at h ⊢; exact RepL.ptr hp h

theorem RepV.ptr {d : D} {v : Value} (hp : ∀ i ∈ refs d, ∀ st, pt' i st = pt i st) (h : RepV w G pt d v) : RepV w G pt' d v := by
  cases d with
  | agg cs => obtain ⟨arr, h1, h2, h3⟩ := h; exact ⟨arr, h1, h2, h3.ptr hp⟩
  | tup vs => obtain ⟨arr, h1, h2, h3⟩ := h; exact ⟨arr, h1, h2, fun j hj => (h3 j hj).ptr fun i hi => hp i (mem_refsAll j hj hi)⟩
  | fn f cs => obtain ⟨arr, h1, h2, h3, h4⟩ := h; exact ⟨arr, h1, h2, h3.ptr hp, h4⟩
  | boxv st l cs => simp only [RepV, RepL] at h
  | _ => simp only [RepV] at h ⊢; exact RepL.ptr hp h

theorem RepB.ptr {id : Nat} {d : D} (hid : d ≠ .undef → ∀ st, pt' id st = pt id st) (hp : ∀ i ∈ refs d, ∀ st, pt' i st = pt i st) (h : RepB w G pt id d) : RepB w G pt' id d := by
  cases d with
  | undef => trivial
  | boxv st live cs =>
    intro hl
    obtain ⟨b, h1, h2, h3, h4⟩ := h hl
    exact ⟨b, by rw [hid (by simp)]; exact h1, h2, h3, h4.ptr hp⟩
  | arrv st live ar t l =>
    intro hl
    have h' := h hl
    cases ar with
    | true =>
      simp only [if_true] at h' ⊢
      rw [hid (by simp)]; exact h'
    | false =>
      simp only [Bool.false_eq_true, if_false] at h' ⊢
      rw [hid (by simp)]; exact h'
  | _ => exact h.elim

theorem ctB_pt {id : Nat} {d : D} (hid : d ≠ .undef → ∀ st, pt' id st = pt id st) (b : Nat) : ctB w pt' b id d = ctB w pt b id d := by
  cases d with
  | boxv st live cs => cases live <;> simp only [ctB]; rw [hid (by simp)]
  | arrv st live ar t l => cases live <;> simp only [ctB]; rw [hid (by simp)]
  | _ => rfl

variable {E : Env} {C : Ctx} {s s' : St} {a : Act}

theorem Rel.restrict (R : Rel E C s a w G pt) (hk : ∀ k, get s' k = get s k ∨ get s' k = .undef) (hc : ∀ k i, i ∈ refs (get s' k) → get s' (2 * i + 1) ≠ .undef)
    (hp : C.pin = none ∨ get s' 1 ≠ .undef) : ∃ pt', Rel E C s' a w G pt' := by
  refine ⟨fun id st => bif isUndef (get s' (2 * id + 1)) then none else pt id st, ?_⟩
  have same : ∀ id, get s' (2 * id + 1) ≠ .undef → ∀ st, (bif isUndef (get s' (2 * id + 1)) then none else pt id st) = pt id st := by
    intro id h st
    cases hu : isUndef (get s' (2 * id + 1)) with
    | true => exact absurd (isUndef_iff.1 hu) h
    | false => rfl
  have ct1 : ∀ b t, cT s' a b t ≤ cT s a b t := by
    intro b t
    simp only [cT]
    rcases hk (2 * t) with h | h
    · rw [h]; exact Nat.le_refl _
    · rw [h, ctV_undef]; exact Nat.zero_le _
  have cb1 : ∀ b id, cB s' w (fun id st => bif isUndef (get s' (2 * id + 1)) then none else pt id st) b id ≤ cB s w pt b id := by
    intro b id
    simp only [cB]
    rcases hk (2 * id + 1) with h | h
    · rw [ctB_pt (pt := pt) (fun hne => same id hne), h]; exact Nat.le_refl _
    · rw [h]; exact Nat.zero_le _
  have tc : ∀ b, TC E.n C.m s' a w (fun id st => bif isUndef (get s' (2 * id + 1)) then none else pt id st) b ≤ TC E.n C.m s a w pt b :=
    fun b => Nat.add_le_add (sumN_le (ct1 b)) (sumN_le (cb1 b))
  refine ⟨R.sz, R.df, fun t => ?_, fun id => ?_, fun t ht => ?_, fun id hid => ?_, fun b => Nat.le_trans (tc b) (R.ct b), fun b hb => R.cb b (Nat.lt_of_lt_of_le hb (tc b)), R.fr, R.ex, R.gz, R.os, R.out, R.tape, R.hs,
    fun id st hs => ?_, R.gl, fun v hv => ?_⟩
  · rcases hk (2 * t) with h | h
    · have := R.tm t
      rw [← h] at this
      exact this.ptr fun i hi => same i (hc _ i hi)
    · rw [h]; trivial
  · rcases hk (2 * id + 1) with h | h
    · have := R.bx id
      rw [← h] at this
      exact this.ptr (fun hne => same id hne) fun i hi => same i (hc _ i hi)
    · rw [h]; trivial
  · rcases hk (2 * t) with h | h
    · rw [h]; exact R.ht t ht
    · exact h
  · rcases hk (2 * id + 1) with h | h
    · rw [h]; exact R.hb id hid
    · exact h
  · rcases hk (2 * id + 1) with h | h
    · by_cases hne : get s' (2 * id + 1) = .undef
      · show (bif isUndef (get s' (2 * id + 1)) then none else pt id st) = none
        rw [hne]; rfl
      · show (bif isUndef (get s' (2 * id + 1)) then none else pt id st) = none
        rw [same id hne]
        exact R.pf id st (by rw [← h]; exact hs)
    · show (bif isUndef (get s' (2 * id + 1)) then none else pt id st) = none
      rw [h]; rfl
  · show (bif isUndef (get s' (2 * 0 + 1)) then none else pt 0 1) = some v
    rcases hp with hp | hp
    · rw [hp] at hv; cases hv
    · rw [same 0 hp]; exact R.pn v hv
end

theorem den_bind {R S : Type} (f : R → Out S) : ∀ (o : Out R), (o.bind f).den = (match o.den with | some r => (f r).den | none => none)
  | .ret r => rfl
  | .fail => rfl
  | .ite c a b => by
    simp only [Out.bind, Out.den]
    cases c
    · exact den_bind f b
    · exact den_bind f a
  | .call t r k => by
    simp only [Out.bind, Out.den]
    cases r with
    | none => rfl
    | some x => exact den_bind f (k x)

theorem call_some {R : Type} {t : Ty} {o : Option t.den} {k : t.den → Out R} {y : R} (h : (Out.call t o k).den = some y) : ∃ x, o = some x ∧ (k x).den = some y := by
  cases o with
  | none => cases h
  | some x => exact ⟨x, rfl, h⟩

theorem bind_some {R S : Type} {f : R → Out S} {o : Out R} {y : S} (h : (o.bind f).den = some y) : ∃ r, o.den = some r ∧ (f r).den = some y := by
  rw [den_bind] at h
  cases hr : o.den with
  | none => rw [hr] at h; cases h
  | some r => rw [hr] at h; exact ⟨r, rfl, h⟩

theorem toData_some {R S : Type} {f : R → Option S} : ∀ {o : Out R} {y : S}, (o.toData f).den = some y → ∃ r, o.den = some r ∧ f r = some y
  | .ret r, y, h => by
    simp only [Out.toData] at h
    cases hf : f r with
    | none => rw [hf] at h; cases h
    | some x => rw [hf] at h; simp only [Out.den, Option.some.injEq] at h; subst h; exact ⟨r, rfl, hf⟩
  | .fail, y, h => by cases h
  | .ite c a b, y, h => by
    simp only [Out.toData, Out.den] at h ⊢
    cases c
    · exact toData_some (o := b) h
    · exact toData_some (o := a) h
  | .call t r k, y, h => by
    simp only [Out.toData, Out.den] at h ⊢
    cases r with
    | none => cases h
    | some x => exact toData_some (o := k x) h

end Go.Abs

namespace Go.Abs

theorem get_app_other : ∀ (u s : St) (k : Nat), k ∉ allKeys u → get (u ++ s) k = get s k
  | [], _, _, _ => rfl
  | (j, d) :: r, s, k, h => by
    simp only [allKeys, List.mem_cons, not_or] at h
    rw [List.cons_append, get_cons, if_neg h.1]
    exact get_app_other r s k h.2

theorem odd_split (k : Nat) : (odd k = true ∧ ∃ i, k = 2 * i + 1) ∨ (odd k = false ∧ ∃ i, k = 2 * i) := by
  cases h : odd k with
  | true =>
    refine .inl ⟨rfl, k / 2, ?_⟩
    have : k % 2 = 1 := by simpa [odd] using h
    omega
  | false =>
    refine .inr ⟨rfl, k / 2, ?_⟩
    have : ¬ k % 2 = 1 := Nat.ne_of_beq_eq_false h
    omega

section
variable {E : Env} {C : Ctx} {s : St} {a : Act} {w : World} {G : Nat → Nat} {pt : Nat → Nat → Option Value}

theorem ct_sl2 {t : Ty} {l : List t.den} {v : Value} (h : RepL w G pt (.sl 2 t l) v) (b : Nat) : ctL b (.sl 2 t l) v = isBlk b (some v) := by
  obtain ⟨ad, n, c, hv, _, _, hs⟩ := h
  subst hv
  rcases hs with ⟨h5, _⟩ | ⟨b', h5, _⟩ <;> subst h5 <;> simp [isBlk, blkOf, ctL]

theorem ptUpd_self (X st : Nat) (v : Value) : ptUpd pt X st v X st = some v := by simp [ptUpd]
theorem ptUpd_mono (R : Rel E C s a w G pt) (X : Nat) (v : Value) : ∀ i j u, pt i j = some u → ptUpd pt X (curSt (get s (2 * X + 1)) + 1) v i j = some u := by
  intro i j u h
  unfold ptUpd
  rw [if_neg]
  · exact h
  · rintro ⟨rfl, rfl⟩
    rw [R.pf i _ (Nat.lt_succ_self _)] at h; cases h

theorem ptUpd_pf (R : Rel E C s a w G pt) (X : Nat) (v : Value) {st : Nat} (h : curSt (get s (2 * X + 1)) + 1 < st) : ptUpd pt X (curSt (get s (2 * X + 1)) + 1) v X st = none := by
  unfold ptUpd
  rw [if_neg (by omega)]
  exact R.pf X st (by omega)

theorem Rel.openT (R : Rel E C s a w G pt) {u X : Nat} (hX : X < C.m) {t : Ty} {l : List t.den} (hs : get s (2 * u) = .sl 2 t l) :
    ∃ pt', Rel E C ((2 * u, .rsl X (curSt (get s (2 * X + 1)) + 1)) :: (2 * X + 1, .arrv (curSt (get s (2 * X + 1)) + 1) true false t l) :: s) a w G pt' := by
  have hu : u < E.n := by
    rcases Nat.lt_or_ge u E.n with h | h
    · exact h
    · rw [R.ht u h] at hs; cases hs
  have hr := R.tm u
  rw [hs] at hr
  refine ⟨ptUpd pt X (curSt (get s (2 * X + 1)) + 1) (a.tmps.getD u undef), ?_⟩
  refine R.step (fun i => i = u) (fun i => i = X) (fun _ => False) rfl R.df (fun i hi => ?_) (fun id hid => ?_) (Ext.refl _ _) (ptUpd_mono R X _) (fun _ _ _ => ⟨rfl, rfl⟩) (fun b h => h.elim) (fun b h => h.elim) (fun b h => h.elim)
    (fun i hi => ?_) (fun id hid => ?_) (fun c1 c2 b => ?_) R.gz rfl rfl rfl (Nat.le_refl _)
  · simp only [get_tt, get_bt, hi, if_false]; exact ⟨trivial, trivial⟩
  · simp only [get_tb, get_bb, hid, if_false]; exact ⟨trivial, funext fun j => by simp [ptUpd, hid]⟩
  · subst hi
    refine ⟨hu, ?_⟩
    simp only [get_tt, if_true]
    show ptUpd _ _ _ _ _ _ = _
    simp [ptUpd]
  · subst hid
    simp only [get_tb, get_bb, if_true]
    refine ⟨hX, fun _ => ?_, fun st hst => ptUpd_pf R id _ hst⟩
    simp only [Bool.false_eq_true, if_false]
    obtain ⟨ad, n, c, h1, h2⟩ := hr
    exact ⟨ad, n, c, by simp [ptUpd, h1], h2⟩
  · have e1 := sumN_upd1 (n := E.n) hu (fun i hi => c1 i hi b)
    have e2 := sumN_upd1 (n := C.m) (x := X) hX (fun i hi => c2 i hi b)
    have e3 : cT ((2 * u, .rsl X (curSt (get s (2 * X + 1)) + 1)) :: (2 * X + 1, .arrv (curSt (get s (2 * X + 1)) + 1) true false t l) :: s) a b u = 0 := by
      simp only [cT, get_tt, if_true]
      cases a.tmps.getD u undef <;> rfl
    have e4 : cB ((2 * u, .rsl X (curSt (get s (2 * X + 1)) + 1)) :: (2 * X + 1, .arrv (curSt (get s (2 * X + 1)) + 1) true false t l) :: s) w (ptUpd pt X (curSt (get s (2 * X + 1)) + 1) (a.tmps.getD u undef)) b X = cT s a b u := by
      simp only [cB, get_tb, get_bb, if_true, ctB, cT, hs]
      have : ctV b (.sl 2 t l) (a.tmps.getD u undef) = ctL b (.sl 2 t l) (a.tmps.getD u undef) := by cases a.tmps.getD u undef <;> rfl
      rw [this, ct_sl2 (pt := pt) hr, ptUpd_self]
    have h1 := R.ct b
    have h2 := R.cb b
    unfold TC at *
    exact ⟨by omega, fun h => h2 (by omega)⟩

theorem Rel.sealT (R : Rel E C s a w G pt) {u X st : Nat} {t : Ty} {l : List t.den} (hX : get s (2 * X + 1) = .arrv st true false t l) (hs : get s (2 * u) = .rsl X st) :
    Rel E C ((2 * u, .sl 2 t l) :: (2 * X + 1, .arrv st false false t l) :: s) a w G pt := by
  have hu : u < E.n := by
    rcases Nat.lt_or_ge u E.n with h | h
    · exact h
    · rw [R.ht u h] at hs; cases hs
  have hXm := lt_of_box R (id := X) (by rw [hX]; simp)
  have hr : pt X st = some (a.tmps.getD u undef) := by have := R.tm u; rw [hs] at this; exact this
  have hB := R.bx X
  rw [hX] at hB
  obtain ⟨ad, n, c, q1, q2⟩ := hB rfl
  have hv : a.tmps.getD u undef = .slice ad n c := by rw [hr] at q1; exact Option.some.inj q1
  have rep : RepL w G pt (.sl 2 t l) (a.tmps.getD u undef) := ⟨ad, n, c, hv, q2⟩
  refine R.step (fun i => i = u) (fun i => i = X) (fun _ => False) rfl R.df (fun i hi => ?_) (fun id hid => ?_) (Ext.refl _ _) (fun _ _ _ h => h) (fun _ _ _ => ⟨rfl, rfl⟩) (fun b h => h.elim) (fun b h => h.elim) (fun b h => h.elim)
    (fun i hi => ?_) (fun id hid => ?_) (fun c1 c2 b => ?_) R.gz rfl rfl rfl (Nat.le_refl _)
  · simp only [get_tt, get_bt, hi, if_false]; exact ⟨trivial, trivial⟩
  · simp only [get_tb, get_bb, hid, if_false]; exact ⟨trivial, trivial⟩
  · subst hi
    refine ⟨hu, ?_⟩
    simp only [get_tt, if_true]
    exact rep
  · subst hid
    simp only [get_tb, get_bb, if_true]
    exact ⟨hXm, (by intro h; cases h), fun j hj => R.pf id j (by rw [hX]; exact hj)⟩
  · have e1 := sumN_upd1 (n := E.n) hu (fun i hi => c1 i hi b)
    have e2 := sumN_upd1 (n := C.m) (x := X) hXm (fun i hi => c2 i hi b)
    have e3 : cT s a b u = 0 := by
      simp only [cT, hs]
      cases a.tmps.getD u undef <;> rfl
    have e4 : cT ((2 * u, .sl 2 t l) :: (2 * X + 1, .arrv st false false t l) :: s) a b u = isBlk b (pt X st) := by
      simp only [cT, get_tt, if_true]
      have : ctV b (.sl 2 t l) (a.tmps.getD u undef) = ctL b (.sl 2 t l) (a.tmps.getD u undef) := by cases a.tmps.getD u undef <;> rfl
      rw [this, ct_sl2 rep, hr]
    have e5 : cB ((2 * u, .sl 2 t l) :: (2 * X + 1, .arrv st false false t l) :: s) w pt b X = 0 := by
      simp only [cB, get_tb, get_bb, if_true, ctB]
    have e6 : cB s w pt b X = isBlk b (pt X st) := by simp only [cB, hX, ctB]
    have h1 := R.ct b
    have h2 := R.cb b
    unfold TC at *
    exact ⟨by omega, fun h => h2 (by omega)⟩

theorem take1_len {cs : List D} {j : Nat} {d : D} (h : (cs.drop j).take 1 = [d]) (d' : D) : j + [d'].length ≤ cs.length := by
  have := congrArg List.length h
  simp at this ⊢
  omega

theorem Rel.openB (R : Rel E C s a w G pt) {id j X st : Nat} {cs : List D} (hX : X < C.m) (hne : id ≠ X) {t : Ty} {l : List t.den}
    (hb : get s (2 * id + 1) = .boxv st true cs) (hj : (cs.drop j).take 1 = [.sl 2 t l]) :
    ∃ pt', Rel E C ((2 * id + 1, .boxv st true (repl cs j [.rsl X (curSt (get s (2 * X + 1)) + 1)])) :: (2 * X + 1, .arrv (curSt (get s (2 * X + 1)) + 1) true false t l) :: s) a w G pt' := by
  have hid := lt_of_box R (id := id) (by rw [hb]; simp)
  have hB := R.bx id
  rw [hb] at hB
  obtain ⟨blk, h1, h2, h3, h4⟩ := hB rfl
  have hblk : blkOf (pt id st) = some blk := by rw [h1]; rfl
  have hsub := h4.sub j 1
  rw [hj] at hsub
  have hcell := (hsub 0 (by simp)).1
  simp only [List.getElem_cons_zero, Nat.add_zero] at hcell
  have hl1 := take1_len hj (.rsl X (curSt (get s (2 * X + 1)) + 1))
  generalize hv : bcell w blk j = v at hcell
  have hpt := ptUpd_mono R X v
  refine ⟨ptUpd pt X (curSt (get s (2 * X + 1)) + 1) v, ?_⟩
  have hpi : ptUpd pt X (curSt (get s (2 * X + 1)) + 1) v id st = pt id st := by simp [ptUpd, hne]
  refine R.step (fun _ => False) (fun i => i = id ∨ i = X) (fun _ => False) rfl R.df (fun i _ => ⟨by simp, rfl⟩) (fun i hi => ?_) (Ext.refl _ _) hpt (fun _ _ _ => ⟨rfl, rfl⟩) (fun b h => h.elim) (fun b h => h.elim) (fun b h => h.elim)
    (fun i hi => hi.elim) (fun i hi => ?_) (fun c1 c2 b => ?_) R.gz rfl rfl rfl (Nat.le_refl _)
  · simp only [not_or] at hi
    simp only [get_bb, hi.1, hi.2, if_false]; exact ⟨trivial, funext fun j => by simp [ptUpd, hi.2]⟩
  · by_cases hiX : i = X
    · subst hiX
      simp only [get_bb, if_true, if_neg (Ne.symm hne)]
      refine ⟨hX, fun _ => ?_, fun st hst => ptUpd_pf R i _ hst⟩
      simp only [Bool.false_eq_true, if_false]
      obtain ⟨ad, n, c, g1, g2⟩ := hcell
      exact ⟨ad, n, c, by simp [ptUpd, g1], g2⟩
    · have hii : i = id := by rcases hi with h | h; exact h; exact absurd h hiX
      subst hii
      simp only [get_bb, if_true]
      refine ⟨hid, fun _ => ⟨blk, by rw [hpi]; exact h1, by rw [repl_len hl1]; exact h2, h3, ?_⟩, fun st' hst' => ?_⟩
      · refine (h4.mono (Ext.refl _ _) hpt (fun _ _ => rfl) (fun _ _ => ⟨rfl, rfl⟩)).repl (fun m hm => ?_) hl1
        have : m = 0 := by simp at hm; exact hm
        subst this
        refine ⟨?_, (h4 (j + 0) (by simp at hl1; omega)).2⟩
        simp only [List.getElem_cons_zero, Nat.add_zero, hv]
        show ptUpd _ _ _ _ _ _ = _
        simp [ptUpd]
      · have := R.pf i st' (by rw [hb]; exact hst')
        simp only [ptUpd]; rw [if_neg (by omega)]; exact this
  · have e1 := sumN_congr (n := E.n) (fun i _ => c1 i (fun h => h) b)
    have e2 := sumN_upd2 (n := C.m) hid hX hne (fun i h1 h2 => c2 i (fun h => by rcases h with h | h; exact h1 h; exact h2 h) b)
    have e3 : cB s w pt b id = isBlk b (pt id st) + ctLs b cs (bcell w blk) := by simp only [cB, hb, ctB, hblk, Option.getD_some]
    have e4 : cB ((2 * id + 1, .boxv st true (repl cs j [.rsl X (curSt (get s (2 * X + 1)) + 1)])) :: (2 * X + 1, .arrv (curSt (get s (2 * X + 1)) + 1) true false t l) :: s) w (ptUpd pt X (curSt (get s (2 * X + 1)) + 1) v) b id =
        isBlk b (pt id st) + ctLs b (repl cs j [.rsl X (curSt (get s (2 * X + 1)) + 1)]) (bcell w blk) := by
      simp only [cB, get_bb, if_true, ctB, hpi, hblk, Option.getD_some]
    have e5 : cB ((2 * id + 1, .boxv st true (repl cs j [.rsl X (curSt (get s (2 * X + 1)) + 1)])) :: (2 * X + 1, .arrv (curSt (get s (2 * X + 1)) + 1) true false t l) :: s) w (ptUpd pt X (curSt (get s (2 * X + 1)) + 1) v) b X = ctL b (.sl 2 t l) v := by
      simp only [cB, get_bb, if_true, if_neg (Ne.symm hne), ctB]
      rw [ct_sl2 (pt := pt) hcell, ptUpd_self]
    have e6 := ctLs_repl (b := b) (f := bcell w blk) hl1
    have e7 : ctLs b [D.rsl X (curSt (get s (2 * X + 1)) + 1)] (fun i => bcell w blk (j + i)) = 0 := by
      show ctL b (.rsl X _) _ + 0 = 0
      cases bcell w blk (j + 0) <;> rfl
    have e8 : ctLs b ((cs.drop j).take [D.rsl X (curSt (get s (2 * X + 1)) + 1)].length) (fun i => bcell w blk (j + i)) = ctL b (.sl 2 t l) v := by
      show ctLs b ((cs.drop j).take 1) _ = _
      rw [hj]
      show ctL b (.sl 2 t l) (bcell w blk (j + 0)) + 0 = _
      rw [Nat.add_zero, Nat.add_zero, hv]
    have h1 := R.ct b
    have h2 := R.cb b
    unfold TC at *
    exact ⟨by omega, fun h => h2 (by omega)⟩

theorem Rel.sealB (R : Rel E C s a w G pt) {id j X st st' : Nat} {cs : List D} (hne : id ≠ X) {t : Ty} {l : List t.den} (hX : get s (2 * X + 1) = .arrv st true false t l)
    (hb : get s (2 * id + 1) = .boxv st' true cs) (hj : (cs.drop j).take 1 = [.rsl X st]) :
    Rel E C ((2 * id + 1, .boxv st' true (repl cs j [.sl 2 t l])) :: (2 * X + 1, .arrv st false false t l) :: s) a w G pt := by
  have hid := lt_of_box R (id := id) (by rw [hb]; simp)
  have hXm := lt_of_box R (id := X) (by rw [hX]; simp)
  have hB := R.bx id
  rw [hb] at hB
  obtain ⟨blk, h1, h2, h3, h4⟩ := hB rfl
  have hblk : blkOf (pt id st') = some blk := by rw [h1]; rfl
  have hsub := h4.sub j 1
  rw [hj] at hsub
  have hcell := (hsub 0 (by simp)).1
  simp only [List.getElem_cons_zero, Nat.add_zero] at hcell
  have hl1 := take1_len hj (.sl 2 t l)
  generalize hv : bcell w blk j = v at hcell
  have hr : pt X st = some v := hcell
  have hBX := R.bx X
  rw [hX] at hBX
  obtain ⟨ad, n, c, q1, q2⟩ := hBX rfl
  have hvv : v = .slice ad n c := by rw [hr] at q1; exact Option.some.inj q1
  have rep : RepL w G pt (.sl 2 t l) v := ⟨ad, n, c, hvv, q2⟩
  refine R.step (fun _ => False) (fun i => i = id ∨ i = X) (fun _ => False) rfl R.df (fun i _ => ⟨by simp, rfl⟩) (fun i hi => ?_) (Ext.refl _ _) (fun _ _ _ h => h) (fun _ _ _ => ⟨rfl, rfl⟩) (fun b h => h.elim) (fun b h => h.elim) (fun b h => h.elim)
    (fun i hi => hi.elim) (fun i hi => ?_) (fun c1 c2 b => ?_) R.gz rfl rfl rfl (Nat.le_refl _)
  · simp only [not_or] at hi
    simp only [get_bb, hi.1, hi.2, if_false]; exact ⟨trivial, trivial⟩
  · by_cases hiX : i = X
    · subst hiX
      simp only [get_bb, if_true, if_neg (Ne.symm hne)]
      exact ⟨hXm, (by intro h; cases h), fun j hj => R.pf i j (by rw [hX]; exact hj)⟩
    · have hii : i = id := by rcases hi with h | h; exact h; exact absurd h hiX
      subst hii
      simp only [get_bb, if_true]
      refine ⟨hid, fun _ => ⟨blk, h1, by rw [repl_len hl1]; exact h2, h3, ?_⟩, fun st' hst' => ?_⟩
      · refine h4.repl (fun m hm => ?_) hl1
        have : m = 0 := by simp at hm; exact hm
        subst this
        refine ⟨?_, (h4 (j + 0) (by simp at hl1; omega)).2⟩
        simp only [List.getElem_cons_zero, Nat.add_zero, hv]
        exact rep
      · exact R.pf i st' (by rw [hb]; exact hst')
  · have e1 := sumN_congr (n := E.n) (fun i _ => c1 i (fun h => h) b)
    have e2 := sumN_upd2 (n := C.m) hid hXm hne (fun i h1 h2 => c2 i (fun h => by rcases h with h | h; exact h1 h; exact h2 h) b)
    have e3 : cB s w pt b id = isBlk b (pt id st') + ctLs b cs (bcell w blk) := by simp only [cB, hb, ctB, hblk, Option.getD_some]
    have e4 : cB ((2 * id + 1, .boxv st' true (repl cs j [.sl 2 t l])) :: (2 * X + 1, .arrv st false false t l) :: s) w pt b id =
        isBlk b (pt id st') + ctLs b (repl cs j [.sl 2 t l]) (bcell w blk) := by
      simp only [cB, get_bb, if_true, ctB, hblk, Option.getD_some]
    have e5 : cB ((2 * id + 1, .boxv st' true (repl cs j [.sl 2 t l])) :: (2 * X + 1, .arrv st false false t l) :: s) w pt b X = 0 := by
      simp only [cB, get_bb, if_true, if_neg (Ne.symm hne), ctB]
    have e5' : cB s w pt b X = ctL b (.sl 2 t l) v := by
      simp only [cB, hX, ctB]
      rw [ct_sl2 rep, hr]
    have e6 := ctLs_repl (b := b) (f := bcell w blk) hl1
    have e7 : ctLs b [D.sl 2 t l] (fun i => bcell w blk (j + i)) = ctL b (.sl 2 t l) v := by
      show ctL b (.sl 2 t l) (bcell w blk (j + 0)) + 0 = _
      rw [Nat.add_zero, Nat.add_zero, hv]
    have e8 : ctLs b ((cs.drop j).take [D.sl 2 t l].length) (fun i => bcell w blk (j + i)) = 0 := by
      show ctLs b ((cs.drop j).take 1) _ = _
      rw [hj]
      show ctL b (.rsl X st) (bcell w blk (j + 0)) + 0 = 0
      cases bcell w blk (j + 0) <;> rfl
    have h1 := R.ct b
    have h2 := R.cb b
    unfold TC at *
    exact ⟨by omega, fun h => h2 (by omega)⟩

theorem leafT_rep {d : D} {x : (t : Ty) × t.den} {v : Value} {b o : Nat} (hx : leafT d = some x) (h : RepL w G pt d v) (hc : w.cell? ⟨b, o, none⟩ = some v) : x.1.nc = 1 ∧ RepC w G x.1 x.2 b o := by
  cases d with
  | int k n =>
    simp only [leafT, Option.some.injEq] at hx
    subst hx
    exact ⟨rfl, by simp only [RepC]; rw [hc, h.1]; exact ⟨rfl, h.2⟩⟩
  | bool z =>
    simp only [leafT, Option.some.injEq] at hx
    subst hx
    exact ⟨rfl, by simp only [RepC]; rw [hc, show v = .bool z from h]⟩
  | str l =>
    simp only [leafT, Option.some.injEq] at hx
    subst hx
    obtain ⟨s, h1, h2⟩ := h
    exact ⟨rfl, by simp only [RepC]; exact ⟨s, by rw [hc, h1], h2⟩⟩
  | sl f t l =>
    match f, hx, h with
    | 0, hx, h =>
      simp only [leafT, Option.some.injEq] at hx
      subst hx
      obtain ⟨a, n, c, h1, h2, h3, h4, h5⟩ := h
      subst h2
      refine ⟨rfl, ?_⟩
      simp only [RepC]
      refine ⟨a, l.length, c, by rw [hc, h1], rfl, h3, h4, ?_⟩
      rcases h5 with h5 | ⟨b1, o1, h5, h6, h7⟩
      · exact .inl h5
      · exact .inr ⟨b1, o1, h5, h6, h7⟩
    | n + 1, hx, _ => cases hx
  | clo f t y =>
    simp only [leafT, Option.some.injEq] at hx
    subst hx
    obtain ⟨b1, o1, h1, h2, h3⟩ := h
    refine ⟨rfl, ?_⟩
    simp only [RepC]
    exact ⟨b1, o1, by rw [hc, h1], h2, h3⟩
  | _ => cases hx
theorem leavesT_rep : ∀ {cs : List D} {x : (t : Ty) × t.den} {f : Nat → Value} {b o : Nat}, leavesT cs = some x → RepLs w G pt cs f → (∀ j, j < cs.length → w.cell? ⟨b, o + j, none⟩ = some (f j)) → x.1.nc = cs.length ∧ RepC w G x.1 x.2 b o
  | [], x, f, b, o, hx, _, _ => by
    simp only [leavesT, Option.some.injEq] at hx
    subst hx
    exact ⟨rfl, by simp only [RepC]⟩
  | d :: r, x, f, b, o, hx, h, hc => by
    simp only [leavesT] at hx
    split at hx
    · rename_i y z hy hz
      simp only [Option.some.injEq] at hx
      subst hx
      obtain ⟨p1, p2⟩ := leafT_rep (b := b) (o := o) hy (h 0 (by simp)).1 (by simpa using hc 0 (by simp))
      obtain ⟨q1, q2⟩ := leavesT_rep (f := fun j => f (j + 1)) (b := b) (o := o + 1) hz (fun j hj => by
        have := h (j + 1) (by simpa using hj)
        rw [List.getElem_cons_succ] at this
        exact this) (fun j hj => by
        have := hc (j + 1) (by simpa using hj)
        rw [show o + 1 + j = o + (j + 1) by omega]
        exact this)
      refine ⟨by simp only [Ty.nc, List.length_cons]; omega, ?_⟩
      simp only [RepC]
      rw [p1]
      exact ⟨p2, q2⟩
    · cases hx
theorem Rel.freeze (R : Rel E C s a w G pt) {u id st : Nat} {cs : List D} {x : (t : Ty) × t.den} (hu : get s (2 * u) = .ptr id st 0) (hb : get s (2 * id + 1) = .boxv st true cs) (hx : leavesT cs = some x) :
    ∃ G', Rel E C ([(2 * id + 1, .boxv st false cs), (2 * u, .vptr x.1 [x.2] 0 0)] ++ s) a w G' pt := by
  have hB := R.bx id
  rw [hb] at hB
  obtain ⟨blk, h1, h2, h3, h4⟩ := hB rfl
  have hblk : blkOf (pt id st) = some blk := by rw [h1]; rfl
  have hid := lt_of_box R (id := id) (by rw [hb]; simp)
  have hcb : 0 < cB s w pt blk id := by
    simp only [cB, hb, ctB, isBlk, hblk, if_true]
    omega
  have hpos : 0 < TC E.n C.m s a w pt blk := Nat.lt_of_lt_of_le hcb (R.cB_le blk id)
  obtain ⟨hlt, hnew⟩ := R.cb blk hpos
  have hE : Ext w G w (fun b => if b = blk then cs.length else G b) := ⟨fun _ _ _ => rfl, fun b => by
    by_cases h : b = blk
    · subst h; rw [h3]; exact Nat.zero_le _
    · simp [h]⟩
  have gu : ∀ t, t ≠ u → get ([(2 * id + 1, .boxv st false cs), (2 * u, .vptr x.1 [x.2] 0 0)] ++ s) (2 * t) = get s (2 * t) := fun t ht => by
    show get ((2 * id + 1, _) :: (2 * u, _) :: s) (2 * t) = _
    rw [get_cons, if_neg (by omega), get_cons, if_neg (by omega)]
  have gi : ∀ i, i ≠ id → get ([(2 * id + 1, .boxv st false cs), (2 * u, .vptr x.1 [x.2] 0 0)] ++ s) (2 * i + 1) = get s (2 * i + 1) := fun i hi => by
    show get ((2 * id + 1, _) :: (2 * u, _) :: s) (2 * i + 1) = _
    rw [get_cons, if_neg (by omega), get_cons, if_neg (by omega)]
  have gu0 : get ([(2 * id + 1, .boxv st false cs), (2 * u, .vptr x.1 [x.2] 0 0)] ++ s) (2 * u) = .vptr x.1 [x.2] 0 0 := by
    show get ((2 * id + 1, _) :: (2 * u, _) :: s) (2 * u) = _
    rw [get_cons, if_neg (by omega), get_cons, if_pos rfl]
  have gi0 : get ([(2 * id + 1, .boxv st false cs), (2 * u, .vptr x.1 [x.2] 0 0)] ++ s) (2 * id + 1) = .boxv st false cs := by
    show get ((2 * id + 1, _) :: (2 * u, _) :: s) (2 * id + 1) = _
    rw [get_cons, if_pos rfl]
  have hun : u < E.n := by
    rcases Nat.lt_or_ge u E.n with h | h
    · exact h
    · have := R.ht u h
      rw [hu] at this
      cases this
  refine ⟨fun b => if b = blk then cs.length else G b, R.step (fun t => t = u) (fun i => i = id) (fun b => b = blk) rfl R.df (fun t ht => ⟨gu t ht, rfl⟩) (fun i hi => ⟨gi i hi, rfl⟩) hE (fun _ _ _ h => h)
    (fun b hb' _ => ⟨rfl, by simp [show ¬ b = blk from hb']⟩) (fun b hb' t _ => by rw [show b = blk from hb']; exact R.bt hcb t) (fun b hb' i hi => by rw [show b = blk from hb']; exact R.bb hcb hi) (fun b hb' => by rw [show b = blk from hb']; exact hnew)
    (fun t ht => ?_) (fun i hi => ?_) (fun c1 c2 b => ?_) (fun b hb' => ?_) rfl rfl rfl (Nat.le_refl _)⟩
  · have ht : t = u := ht
    subst ht
    refine ⟨hun, ?_⟩
    rw [gu0]
    have ht := R.tm t
    rw [hu] at ht
    obtain ⟨b', q1, q2⟩ := ht
    rw [hblk] at q1
    have q1 : blk = b' := by simpa using q1
    subst q1
    have h4' : RepLs w (fun b => if b = blk then cs.length else G b) pt cs (bcell w blk) := fun j hj => ⟨RepL.mono hE (fun _ _ _ h => h) (h4 j hj).1 fun b hb' => by
      have hne : b ≠ blk := by
        rintro rfl
        have e1 : ctLs b cs (bcell w b) ≤ 0 := by
          have := R.ct b
          have h5 := R.cB_le b id
          simp only [cB, hb, ctB, isBlk, hblk, if_true, Option.getD_some] at h5
          omega
        have := ctLs_get (b := b) (ds := cs) (f := bcell w b) j hj
        omega
      exact ⟨rfl, by simp [hne]⟩, (h4 j hj).2⟩
    obtain ⟨p1, p2⟩ := leavesT_rep (b := blk) (o := 0) hx h4' (fun j hj => by rw [Nat.zero_add]; exact room_cell h2 hj)
    refine ⟨blk, 0, by rw [q2]; simp, by simp, by simp [p1], fun i hi => ?_⟩
    have : i = 0 := by simpa using hi
    subst this
    simpa using p2
  · have hi : i = id := hi
    subst hi
    refine ⟨hid, ?_, fun st' h => ?_⟩
    · rw [gi0]
      intro h
      cases h
    · rw [gi0] at h
      exact R.pf i st' (by rw [hb]; exact h)
  · have hle : TC E.n C.m ([(2 * id + 1, .boxv st false cs), (2 * u, .vptr x.1 [x.2] 0 0)] ++ s) a w pt b ≤ TC E.n C.m s a w pt b := by
      unfold TC
      refine Nat.add_le_add (sumN_le fun t => ?_) (sumN_le fun i => ?_)
      · by_cases ht : t = u
        · subst ht
          simp only [cT]
          rw [gu0]
          have : ctV b (.vptr x.1 [x.2] 0 0) (a.tmps.getD t undef) = 0 := by cases a.tmps.getD t undef <;> rfl
          omega
        · exact Nat.le_of_eq (c1 t ht b)
      · by_cases hi : i = id
        · subst hi
          simp only [cB]
          rw [gi0]
          exact Nat.zero_le _
        · exact Nat.le_of_eq (c2 i hi b)
    exact ⟨Nat.le_trans hle (R.ct b), fun h => R.cb b (Nat.lt_of_lt_of_le h hle)⟩
  · have : b ≠ blk := by omega
    simp [this]
    exact R.gz b hb'

theorem Rel.open1 (R : Rel E C s a w G pt) (hm : E.n ≤ C.m) (k j X : Nat) : ∃ G' pt', Rel E C (open1 E.n s k j X ++ s) a w G' pt' := by
  unfold Abs.open1
  cases hX : Nat.blt X E.n with
  | false => exact ⟨G, pt, R⟩
  | true =>
    have hX' : X < C.m := by have : X < E.n := by simpa [Nat.blt_eq] using hX
                             omega
    rcases odd_split k with ⟨ho, i, rfl⟩ | ⟨ho, i, rfl⟩
    · simp only [ho, cond_true]
      split
      · rename_i st cs hb
        split
        · rename_i f t l hj
          cases hg : (Nat.beq f 2 && (Nat.blt 0 t.nc && !Nat.beq ((2 * i + 1) / 2) X)) with
          | false => exact ⟨G, pt, R⟩
          | true =>
            simp only [Bool.and_eq_true, Bool.not_eq_true'] at hg
            have hf := Nat.eq_of_beq_eq_true hg.1
            subst hf
            have hne : i ≠ X := by have := Nat.ne_of_beq_eq_false hg.2.2; omega
            exact ⟨G, R.openB hX' hne hb hj⟩
        · exact ⟨G, pt, R⟩
      · exact ⟨G, pt, R⟩
    · simp only [ho, cond_true, cond_false]
      split
      · rename_i f t l hs
        cases hg : (Nat.beq f 2 && Nat.blt 0 t.nc) with
        | false => exact ⟨G, pt, R⟩
        | true =>
          simp only [Bool.and_eq_true] at hg
          have hf := Nat.eq_of_beq_eq_true hg.1
          subst hf
          exact ⟨G, R.openT hX' hs⟩
      · rename_i id st off hs
        unfold freeze1
        split
        · rename_i st' cs hb
          split
          · rename_i x hx
            cases hg : (Nat.beq st st' && Nat.beq off 0) with
            | false => exact ⟨G, pt, R⟩
            | true =>
              simp only [Bool.and_eq_true] at hg
              have h1 := Nat.eq_of_beq_eq_true hg.1
              have h2 := Nat.eq_of_beq_eq_true hg.2
              subst h1 h2
              obtain ⟨G', R'⟩ := R.freeze hs hb hx
              exact ⟨G', pt, R'⟩
          · exact ⟨G, pt, R⟩
        · exact ⟨G, pt, R⟩
      · exact ⟨G, pt, R⟩

theorem Rel.seal1 (R : Rel E C s a w G pt) (k j X : Nat) : Rel E C (seal1 s k j X ++ s) a w G pt := by
  unfold Abs.seal1
  split
  · rename_i st t l hX
    rcases odd_split k with ⟨ho, i, rfl⟩ | ⟨ho, i, rfl⟩
    · simp only [ho, cond_true]
      split
      · rename_i st' cs hb
        split
        · rename_i Y st2 hj
          cases hg : (Nat.beq Y X && (Nat.beq st2 st && !Nat.beq ((2 * i + 1) / 2) X)) with
          | false => exact R
          | true =>
            simp only [Bool.and_eq_true, Bool.not_eq_true'] at hg
            have hY := Nat.eq_of_beq_eq_true hg.1
            have hS := Nat.eq_of_beq_eq_true hg.2.1
            subst hY hS
            have hne : i ≠ Y := by have := Nat.ne_of_beq_eq_false hg.2.2; omega
            exact R.sealB hne hX hb hj
        · exact R
      · exact R
    · simp only [ho, cond_false]
      split
      · rename_i Y st2 hs
        cases hg : (Nat.beq Y X && Nat.beq st2 st) with
        | false => exact R
        | true =>
          simp only [Bool.and_eq_true] at hg
          have hY := Nat.eq_of_beq_eq_true hg.1
          have hS := Nat.eq_of_beq_eq_true hg.2
          subst hY hS
          exact R.sealT hX hs
      · exact R
  · exact R

theorem sealK_e : ∀ (l : List (Nat × Nat × Nat)) (r : Lv), (sealK l r).e = r.e
  | [], _ => rfl
  | _ :: l, r => sealK_e l _

theorem sealK_rel : ∀ (l : List (Nat × Nat × Nat)) (r : Lv) (a : Act) (w : World) (G : Nat → Nat) (pt : Nat → Nat → Option Value), Rel E C r.s a w G pt → Rel E C (sealK l r).s a w G pt
  | [], _, _, _, _, _, R => R
  | p :: l, r, a, w, G, pt, R => sealK_rel l ⟨r.e, allKeys (Abs.seal1 r.s p.1 p.2.1 p.2.2) ++ r.ch, Abs.seal1 r.s p.1 p.2.1 p.2.2 ++ r.s⟩ a w G pt (R.seal1 p.1 p.2.1 p.2.2)

theorem sealK_stat : ∀ (l : List (Nat × Nat × Nat)) (r : Lv) (s0 : St), (∀ k, k ∉ r.ch → get r.s k = get s0 k) → ∀ k, k ∉ (sealK l r).ch → get (sealK l r).s k = get s0 k
  | [], _, _, h => h
  | p :: l, r, s0, h => sealK_stat l _ s0 fun k hk => by
    simp only [List.mem_append, not_or] at hk
    show get (Abs.seal1 r.s p.1 p.2.1 p.2.2 ++ r.s) k = _
    rw [get_app_other _ _ _ hk.1]
    exact h k hk.2

theorem openK_some {α : Type} {n : Nat} (Q : α → Prop) (I : List Nat → St → Prop) (h1 : ∀ ch s k j X, I ch s → I (allKeys (Abs.open1 n s k j X) ++ ch) (Abs.open1 n s k j X ++ s)) :
    ∀ (l : List (Nat × Nat × Nat)) (ch : List Nat) (s : St) (f : List Nat → St → α), I ch s → (∀ ch s, I ch s → Q (f ch s)) → Q (openK n l ch s f)
  | [], ch, s, f, hI, hf => hf ch s hI
  | p :: l, ch, s, f, hI, hf => openK_some Q I h1 l _ _ f (h1 ch s p.1 p.2.1 p.2.2 hI) hf
end
end Go.Abs

namespace Go.Abs

section
variable {E : Env} {C : Ctx} {s : St} {a : Act} {w : World} {G : Nat → Nat} {pt : Nat → Nat → Option Value}

theorem repl_all (cs : List D) (f : D → D) : repl cs 0 (((cs.drop 0).take cs.length).map f) = cs.map f := by
  simp [repl]

theorem Rel.viewT (R : Rel E C s a w G pt) (t : Nat) (hnt : isTup (get s (2 * t)) = false) (hu : t < E.n) :
    ∃ G', Rel E C ((2 * t, view (get s (2 * t))) :: (2 * t, share (get s (2 * t))) :: s) a w G' pt := by
  obtain ⟨G', e, R1, h1, _⟩ := R.shareT t hnt
  exact ⟨G', R1.weak t (Ext.refl _ _) (fun _ _ => rfl) (h1.view hnt) hu (fun b => by rw [ctV_view _ _ _ hnt]; exact Nat.zero_le _)⟩

theorem Rel.viewB (R : Rel E C s a w G pt) (id st : Nat) {cs : List D} (hb : get s (2 * id + 1) = .boxv st true cs)
    (hv : ∀ blk, blkOf (pt id st) = some blk → RepLs w G pt (cs.map viewL) (bcell w blk)) :
    Rel E C ((2 * id + 1, .boxv st true (cs.map viewL)) :: s) a w G pt := by
  have hB := R.bx id
  rw [hb] at hB
  obtain ⟨blk, h1, h2, h3, h4⟩ := hB rfl
  have hblk : blkOf (pt id st) = some blk := by rw [h1]; rfl
  have hid := lt_of_box R (id := id) (by rw [hb]; simp)
  refine R.step (fun _ => False) (fun i => i = id) (fun _ => False) rfl R.df (fun t _ => ⟨by simp, rfl⟩) (fun i hi => ⟨by simp [hi], rfl⟩) (Ext.refl _ _) (fun _ _ _ h => h) (fun _ _ _ => ⟨rfl, rfl⟩) (fun b h => h.elim) (fun b h => h.elim) (fun b h => h.elim)
    (fun t h => h.elim) (fun i hi => ?_) (fun c1 c2 b => ?_) R.gz rfl rfl rfl (Nat.le_refl _)
  · subst hi
    refine ⟨hid, ?_, ?_⟩
    · simp only [get_bb, if_true]
      exact fun _ => ⟨blk, h1, by rw [List.length_map]; exact h2, h3, hv blk hblk⟩
    · simp only [get_bb, if_true]
      intro st' hst'
      exact R.pf i st' (by rw [hb]; exact hst')
  · have e1 := sumN_congr (n := E.n) (f := cT s a b) (g := cT ((2 * id + 1, .boxv st true (cs.map viewL)) :: s) a b) (fun i _ => (c1 i (fun h => h) b).symm)
    have e2 := sumN_upd1 (n := C.m) (f := cB s w pt b) (g := cB ((2 * id + 1, .boxv st true (cs.map viewL)) :: s) w pt b) hid (fun i hi => c2 i hi b)
    have e3 : cB ((2 * id + 1, .boxv st true (cs.map viewL)) :: s) w pt b id ≤ cB s w pt b id := by
      simp only [cB, get_bb, if_true, hb, ctB]
      rw [ctLs_map0 ctL_view]
      omega
    have h1 := R.ct b
    have h2 := R.cb b
    unfold TC at *
    exact ⟨by omega, fun h => h2 (by omega)⟩

theorem view_share (cs : List D) : (cs.map shareL).map viewL = cs.map viewL := by
  rw [List.map_map]
  refine List.map_congr_left fun d _ => ?_
  cases d <;> rfl

theorem weak1_get {M : List Nat} {k : Nat} {sh : Sh} {m : Nat} (hm : m ∉ M) : get (weak1 M s k sh) m = get s m := by
  unfold weak1
  cases hc : ((overD (lvlSh sh) (get s k) && !(sh.abs (get s k)).isSome) && mem k M) with
  | false => rfl
  | true =>
    simp only [cond_true]
    rw [Bool.and_eq_true, Bool.and_eq_true] at hc
    have hk : m ≠ k := fun h => by
      subst h
      exact hm (by
        have := hc.2
        clear hc
        induction M with
        | nil => cases this
        | cons x r ih =>
          simp only [mem, Bool.or_eq_true] at this
          rcases this with h | h
          · rw [Nat.eq_of_beq_eq_true h]; simp
          · exact List.mem_cons_of_mem _ (ih (fun h2 => hm (List.mem_cons_of_mem _ h2)) h))
    cases odd k with
    | true =>
      simp only [cond_true]
      split
      · cases Nat.beq (lvlSh sh) 0 with
        | true => simp only [cond_true]; rw [get_cons, if_neg hk, get_cons, if_neg hk]
        | false => simp only [cond_false]; rw [get_cons, if_neg hk]
      · rfl
    | false =>
      simp only [cond_false]
      cases isTup (get s k) with
      | true => rfl
      | false =>
        cases Nat.beq (lvlSh sh) 0 with
        | true => simp only [cond_true, cond_false]; rw [get_cons, if_neg hk, get_cons, if_neg hk]
        | false => simp only [cond_false]; rw [get_cons, if_neg hk]

theorem weak1_rel (R : Rel E C s a w G pt) (M : List Nat) (k : Nat) (sh : Sh) : ∃ G', Rel E C (weak1 M s k sh) a w G' pt := by
  unfold weak1
  cases hc : ((overD (lvlSh sh) (get s k) && !(sh.abs (get s k)).isSome) && mem k M) with
  | false => exact ⟨G, R⟩
  | true =>
    simp only [cond_true]
    rw [Bool.and_eq_true, Bool.and_eq_true] at hc
    rcases odd_split k with ⟨hk, i, rfl⟩ | ⟨hk, i, rfl⟩
    · rw [hk]
      simp only [cond_true]
      split
      · rename_i st cs hb
        obtain ⟨G', blk, e, hblk, hroom, R1, hr⟩ := R.shareB i st 0 cs.length hb (by omega)
        rw [repl_all] at R1
        cases Nat.beq (lvlSh sh) 0 with
        | false => exact ⟨G', R1⟩
        | true =>
          simp only [cond_true]
          have := R1.viewB i st (cs := cs.map shareL) (by rw [get_cons, if_pos rfl]) (fun b hb' => by
            rw [hblk] at hb'
            simp only [Option.some.injEq] at hb'
            subst hb'
            rw [view_share]
            have h2 : RepLs w G' pt (cs.map shareL) (bcell w blk) := by
              have h3 := hr
              simp only [List.drop_zero, List.take_length, Nat.zero_add] at h3
              exact h3
            exact h2.view)
          rw [view_share] at this
          exact ⟨G', this⟩
      · exact ⟨G, R⟩
    · rw [hk]
      simp only [cond_false]
      cases hnt : isTup (get s (2 * i)) with
      | true => exact ⟨G, R⟩
      | false =>
        simp only [cond_false]
        have hu : i < E.n := by
          rcases Nat.lt_or_ge i E.n with h | h
          · exact h
          · have := hc.1.1
            rw [R.ht i h] at this; cases this
        cases Nat.beq (lvlSh sh) 0 with
        | true => exact R.viewT i hnt hu
        | false =>
          obtain ⟨G', e, R1, _⟩ := R.shareT i hnt
          exact ⟨G', R1⟩

theorem weakSt_get {M : List Nat} : ∀ {pl : Pl} {s : St} {m : Nat}, m ∉ M → get (weakSt M pl s) m = get s m
  | [], _, _, _ => rfl
  | p :: r, s, m, h => by
    unfold weakSt
    rw [weakSt_get h, weak1_get h]
end

section
variable {E : Env} {C : Ctx} {a : Act} {w : World} {pt : Nat → Nat → Option Value}
theorem weakSt_rel (M : List Nat) : ∀ (pl : Pl) {s : St} {G : Nat → Nat}, Rel E C s a w G pt → ∃ G', Rel E C (weakSt M pl s) a w G' pt
  | [], _, G, R => ⟨G, R⟩
  | p :: r, s, G, R => by
    obtain ⟨G1, R1⟩ := weak1_rel R M p.1 p.2
    exact weakSt_rel M r R1
end
end Go.Abs

namespace Go.Abs

theorem mem_iff {k : Nat} : ∀ {l : List Nat}, mem k l = true ↔ k ∈ l
  | [] => by simp [mem]
  | x :: r => by
    simp only [mem, Bool.or_eq_true, List.mem_cons, mem_iff (l := r)]
    constructor
    · rintro (h | h)
      · exact .inl (Nat.eq_of_beq_eq_true h)
      · exact .inr h
    · rintro (h | h)
      · subst h; exact .inl (Nat.beq_refl k)
      · exact .inr h

theorem subset_iff : ∀ {a b : List Nat}, subset a b = true → ∀ k ∈ a, k ∈ b
  | [], _, _, k, h => by simp at h
  | x :: r, b, hs, k, h => by
    simp only [subset, Bool.and_eq_true] at hs
    rcases List.mem_cons.1 h with h | h
    · subst h; exact mem_iff.1 hs.1
    · exact subset_iff hs.2 k h

theorem get_strike : ∀ (s : St) (ks : List Nat) (k : Nat), get (strike ks s) k = bif mem k ks then .undef else get s k
  | [], ks, k => by simp only [strike, get]; cases mem k ks <;> rfl
  | (k0, d) :: r, ks, k => by
    simp only [strike]
    cases h0 : mem k0 ks with
    | true =>
      simp only [cond_true]
      rw [get_strike r ks k, get_cons]
      by_cases hk : k = k0
      · subst hk; rw [h0]; rfl
      · rw [if_neg hk]
    | false =>
      simp only [cond_false]
      rw [get_cons, get_cons]
      by_cases hk : k = k0
      · subst hk; rw [if_pos rfl, if_pos rfl, h0]; rfl
      · rw [if_neg hk, if_neg hk, get_strike r (k0 :: ks) k]
        have : mem k (k0 :: ks) = mem k ks := by
          simp only [mem, beq_nat]
          rw [decide_eq_false hk, Bool.false_or]
        rw [this]

theorem get_plCon {s' rest : St} : ∀ {pl : Pl} {x : (plTy pl).den}, plAbs pl s' = some x → ∀ k, get (plCon pl x ++ rest) k = get s' k ∨ get (plCon pl x ++ rest) k = get rest k
  | [], _, _, k => .inr rfl
  | p :: r, x, h, k => by
    simp only [plAbs] at h
    split at h
    · rename_i y z h1 h2
      simp only [Option.some.injEq] at h
      subst h
      simp only [plCon, List.cons_append]
      rw [get_cons]
      by_cases hk : k = p.1
      · subst hk
        rw [if_pos rfl]
        exact .inl (Sh.con_abs h1)
      · rw [if_neg hk]
        exact get_plCon h2 k
    · cases h

theorem closedIn_get {s0 : St} : ∀ {s : St}, closedIn s0 s = true → ∀ k i, i ∈ refs (get s k) → get s0 (2 * i + 1) ≠ .undef
  | [], _, k, i, h => by simp [get, refs, refsL] at h
  | (k0, d) :: r, hc, k, i, h => by
    simp only [closedIn, Bool.and_eq_true] at hc
    rw [get_cons] at h
    by_cases hk : k = k0
    · rw [if_pos hk] at h
      have := List.all_eq_true.1 hc.1 i h
      intro hu
      rw [hu] at this
      simp [isUndef] at this
    · rw [if_neg hk] at h
      exact closedIn_get hc.2 k i h

section
variable {E : Env} {C : Ctx} {s s' : St} {a : Act} {w : World} {G : Nat → Nat} {pt : Nat → Nat → Option Value}

theorem Rel.cut (R : Rel E C s' a w G pt) {base : St} {hp : Bool} {M drop : List Nat} {pl : Pl} {x : (plTy pl).den} (hpin : C.pin = none ∨ hp = true)
    (hch : ∀ k, k ∉ M ++ drop → get s' k = get base k) {M' : List Nat} (hM : ∀ k ∈ M', k ∈ M ++ drop) (hx : plAbsW M' pl s' = some x) (hcl : closedSt hp (plCon pl x ++ strike (M ++ drop) base) = true) :
    ∃ G' pt', Rel E C (plCon pl x ++ strike (M ++ drop) base) a w G' pt' := by
  simp only [closedSt, Bool.and_eq_true] at hcl
  obtain ⟨G', RW⟩ := weakSt_rel M' pl R
  have hch : ∀ k, k ∉ M ++ drop → get (weakSt M' pl s') k = get base k := fun k hk => (weakSt_get (fun h => hk (hM k h))).trans (hch k hk)
  have hx : plAbs pl (weakSt M' pl s') = some x := hx
  refine ⟨G', ?_⟩
  refine RW.restrict (fun k => ?_) (fun k i h => closedIn_get hcl.1 k i h) ?_
  · rcases get_plCon (rest := strike (M ++ drop) base) hx k with h | h
    · exact .inl h
    · rw [h, get_strike]
      cases hm : mem k (M ++ drop) with
      | true => exact .inr rfl
      | false =>
        refine .inl (hch k fun hk => ?_).symm
        have h2 : mem k (M ++ drop) = true := mem_iff.2 hk
        rw [hm] at h2; cases h2
  · rcases hpin with h | h
    · exact .inl h
    · refine .inr fun hu => ?_
      have := hcl.2
      rw [h, hu] at this
      simp [isUndef] at this

theorem cut_keys {base : St} {s' : St} {M drop ch0 : List Nat} {pl : Pl} {x : (plTy pl).den} {M' : List Nat} (hM : ∀ k ∈ M', k ∈ M ++ drop) (hx : plAbsW M' pl s' = some x) (hch : ∀ k, k ∉ M ++ drop → get s' k = get base k) :
    ∀ k, k ∉ M ++ drop ++ ch0 → get (plCon pl x ++ strike (M ++ drop) base) k = get base k := by
  have hch : ∀ k, k ∉ M ++ drop → get (weakSt M' pl s') k = get base k := fun k hk => (weakSt_get (fun h => hk (hM k h))).trans (hch k hk)
  have hx : plAbs pl (weakSt M' pl s') = some x := hx
  intro k hk
  simp only [List.mem_append, not_or] at hk
  obtain ⟨⟨h1, h2⟩, h3⟩ := hk
  rcases get_plCon (rest := strike (M ++ drop) base) hx k with h | h
  · rw [h]
    exact hch k (by simp [h1, h2])
  · rw [h, get_strike]
    have : mem k (M ++ drop) = false := by
      cases hm : mem k (M ++ drop) with
      | false => rfl
      | true =>
        have := mem_iff.1 hm
        simp only [List.mem_append] at this
        exact absurd this (by simp [h1, h2])
    rw [this]; rfl
end

theorem ways_some {hp : Bool} {M M' ch : List Nat} {base s' : St} {e : Nat} {r : Lv} : ∀ {ws : List Way} {x : (waysTy ws).den}, waysAbs M' e s' ws = some x → (waysCon hp M ch base ws x).den = some r →
    ∃ (w : Way) (y : (plTy w.pl).den), w ∈ ws ∧ w.e = e ∧ plAbsW M' w.pl s' = some y ∧ closedSt hp (cutSt M base w y) = true ∧ r = ⟨e, M ++ w.drop ++ ch, cutSt M base w y⟩
  | [], _, h, _ => by cases h
  | [w], x, h, hr => by
    simp only [waysAbs] at h
    cases he : Nat.beq e w.e with
    | false => simp [he] at h
    | true =>
      simp only [he, cond_true] at h
      have he := Nat.eq_of_beq_eq_true he
      simp only [waysCon] at hr
      cases hc : closedSt hp (cutSt M base w x) with
      | false => rw [hc] at hr; cases hr
      | true =>
        rw [hc] at hr
        simp only [cond_true, Out.den, Option.some.injEq] at hr
        exact ⟨w, x, by simp, he.symm, h, hc, by rw [← hr, he]⟩
  | w :: w' :: ws, x, h, hr => by
    simp only [waysAbs] at h
    cases he : Nat.beq e w.e with
    | true =>
      simp only [he, cond_true] at h
      have he := Nat.eq_of_beq_eq_true he
      split at h
      · rename_i y hy
        simp only [Option.some.injEq] at h
        subst h
        simp only [waysCon, Out.den, cond_true] at hr
        cases hc : closedSt hp (cutSt M base w y) with
        | false => rw [hc] at hr; cases hr
        | true =>
          rw [hc] at hr
          simp only [cond_true, Out.den, Option.some.injEq] at hr
          exact ⟨w, y, by simp, he.symm, hy, hc, by rw [← hr, he]⟩
      · cases h
    | false =>
      simp only [he, cond_false] at h
      split at h
      · rename_i y hy
        simp only [Option.some.injEq] at h
        subst h
        simp only [waysCon, Out.den, cond_false] at hr
        obtain ⟨v, z, h1, h2⟩ := ways_some hy hr
        exact ⟨v, z, List.mem_cons_of_mem _ h1, h2⟩
      · cases h

end Go.Abs

namespace Go.Abs

def OpWp (P : Program) (E : Env) (C : Ctx) (o : Oper) (a : Act) (w : World) (s' : St) : Prop :=
  ∀ (K : Act → World → Prop) (Q : Exit → Act → World → Prop), (∀ a' w' G' pt', Rel E C s' a' w' G' pt' → K a' w') → o.wp P a w K Q

section
variable {P : Program} {E : Env} {C : Ctx} {s : St} {a : Act} {w : World} {G : Nat → Nat} {pt : Nat → Nat → Option Value} {o : Oper} {u : St}

theorem OpOk.wp {s' : St} (h : OpOk P E C o a w s') : OpWp P E C o a w s' := by
  intro K Q hK
  obtain ⟨v, w', G', pt', hr, hR⟩ := h
  unfold Oper.wp
  rcases hr with hr | ⟨hr, rfl⟩
  · rw [hr, Oper.upon_value]; exact hK _ _ _ _ hR
  · rw [hr, Oper.upon_skip]; exact hK _ _ _ _ hR

def OpsOk (P : Program) (E : Env) (Γ : Gam) (C : Ctx) : Prop :=
  ∀ kn o s a w G pt u, Rel E C s a w G pt → (opU E Γ kn o s).den = some u → OpWp P E C o a w (applyU u s)

theorem get_applyU_other : ∀ (u s : St) (k : Nat), k ∉ allKeys u → get (applyU u s) k = get s k
  | [], _, _, _ => rfl
  | (k0, d) :: r, s, k, h => by
    simp only [allKeys, List.mem_cons, not_or] at h
    show get (applyU r ((k0, d) :: s)) k = _
    rw [get_applyU_other r _ k h.2, get_cons, if_neg h.1]

theorem bbeq_eq {a b : Bool} (h : bbeq a b = true) : a = b := by cases a <;> cases b <;> first | rfl | cases h
theorem bbeq_ne {a b : Bool} (h : bbeq a b = false) : a = bnot b := by cases a <;> cases b <;> first | rfl | cases h
theorem bnot_ne (b : Bool) : bnot b ≠ b := by cases b <;> simp [bnot]

theorem yield_of (R : Rel E C s a w G pt) {ops : Array Oper} {j t : Nat} {b : Bool} (hj : dstAt ops.toList j = some t) (hb : get s (2 * t) = .bool b) : yielded ops a.tmps j = some b := by
  unfold dstAt at hj
  have hv := R.tm t
  rw [hb] at hv
  have hv : a.tmps.getD t undef = .bool b := hv
  have hopt : a.tmps[t]? = some (.bool b) := by
    rw [Array.getD_eq_getD_getElem?] at hv
    cases h : a.tmps[t]? with
    | none => rw [h] at hv; simp [undef] at hv
    | some x => rw [h] at hv; simpa using hv
  simp only [Array.getElem?_toList] at hj
  unfold yielded
  cases ho : ops[j]? with
  | none => rw [ho] at hj; cases hj
  | some o =>
    rw [ho] at hj
    simp only at hj
    simp [hj, hopt]

theorem Rel.told (R : Rel E C s a w G pt) {t : Nat} {b : Bool} (hb : get s (2 * t) = .bool b) : Rel E C ((2 * t, .bool b) :: s) a w G pt :=
  R.congr fun k => by
    rw [get_cons]
    by_cases hk : k = 2 * t
    · rw [if_pos hk, hk, hb]
    · rw [if_neg hk]

theorem Rel.skipped (R : Rel E C s a w G pt) (hd : dstOk E o = true) : Rel E C (applyU (skipU o) s) (a.put o.dst undef) w G pt :=
  R.dst0 o (fun t ht => by simpa [dstOk, ht, Nat.blt_eq] using hd) (d := .tup []) ⟨#[], rfl, rfl, fun j h => absurd h (Nat.not_lt_zero j)⟩ (fun b => rfl)

theorem yield_none (R : Rel E C s a w G pt) {ops : Array Oper} {j t : Nat} (hj : dstAt ops.toList j = some t) (hb : get s (2 * t) = .tup []) : yielded ops a.tmps j = none := by
  unfold dstAt at hj
  have hv := R.tm t
  rw [hb] at hv
  obtain ⟨arr, hv, hsz, _⟩ := hv
  have hopt : a.tmps[t]? = none ∨ a.tmps[t]? = some (.tuple arr) := by
    rw [Array.getD_eq_getD_getElem?] at hv
    cases h : a.tmps[t]? with
    | none => exact .inl rfl
    | some x => rw [h] at hv; right; simpa using hv
  simp only [Array.getElem?_toList] at hj
  unfold yielded
  cases ho : ops[j]? with
  | none => rw [ho] at hj; cases hj
  | some o =>
    rw [ho] at hj
    simp only at hj
    rcases hopt with hopt | hopt <;> simp [hj, hopt]

theorem keys_step {s0 s u : St} {ch : List Nat} (h : ∀ k, k ∉ ch → get s k = get s0 k) : ∀ k, k ∉ allKeys u ++ ch → get (applyU u s) k = get s0 k := by
  intro k hk
  simp only [List.mem_append, not_or] at hk
  rw [get_applyU_other u s k hk.1]; exact h k hk.2
theorem keys_told {s0 s : St} {ch : List Nat} {k0 : Nat} {d : D} (h : ∀ k, k ∉ ch → get s k = get s0 k) : ∀ k, k ∉ k0 :: ch → get ((k0, d) :: s) k = get s0 k := by
  intro k hk
  simp only [List.mem_cons, not_or] at hk
  rw [get_cons, if_neg hk.1]; exact h k hk.2

theorem evOps_stat (E : Env) (Γ : Gam) (all : List Oper) (s0 : St) : ∀ (l : List Oper) (kn : Kn) (ch : List Nat) (s : St) (r : Lv),
    (∀ k, k ∉ ch → get s k = get s0 k) → (evOps E Γ all l kn ch s).den = some r → r.e = 0 ∧ ∀ k, k ∉ r.ch → get r.s k = get s0 k
  | [], kn, ch, s, r, hch, h => by
    simp only [evOps, Out.den, Option.some.injEq] at h
    subst h
    exact ⟨rfl, hch⟩
  | o :: l, kn, ch, s, r, hch, h => by
    have IH := evOps_stat E Γ all s0 l
    simp only [evOps] at h
    split at h
    · obtain ⟨u, _, h2⟩ := bind_some h
      exact IH _ _ _ r (keys_step hch) h2
    · rename_i j want hg
      split at h
      · cases h
      · rename_i t ht
        split at h
        · rename_i b hb
          split at h
          · rename_i c hc
            cases hbc : bbeq b c with
            | false => rw [hbc] at h; cases h
            | true =>
              rw [hbc] at h
              simp only [cond_true] at h
              cases hcw : bbeq c want with
              | true =>
                rw [hcw] at h
                simp only [cond_true] at h
                obtain ⟨u, _, h2⟩ := bind_some h
                exact IH _ _ _ r (keys_step hch) h2
              | false =>
                rw [hcw] at h
                simp only [cond_false] at h
                cases hd : dstOk E o with
                | false => rw [hd] at h; cases h
                | true =>
                  rw [hd] at h
                  exact IH _ _ _ r (keys_step hch) h
          · cases hd : dstOk E o with
            | false => rw [hd] at h; cases h
            | true =>
              rw [hd] at h
              simp only [cond_true, Out.den] at h
              cases hbw : bbeq b want with
              | true =>
                rw [hbw] at h
                simp only [cond_true] at h
                obtain ⟨u, _, h2⟩ := bind_some h
                exact IH _ _ _ r (keys_step (keys_told hch)) h2
              | false =>
                rw [hbw] at h
                exact IH _ _ _ r (keys_step (keys_told hch)) h
        · cases hd : dstOk E o with
          | false => rw [hd] at h; cases h
          | true =>
            rw [hd] at h
            exact IH _ _ _ r (keys_step hch) h
        · cases h

theorem evOps_e (E : Env) (Γ : Gam) (all : List Oper) (l : List Oper) (kn : Kn) (ch : List Nat) (s : St) (r : Lv) (h : (evOps E Γ all l kn ch s).den = some r) : r.e = 0 := by
  -- every place may have turned
  exact (evOps_stat E Γ all s l kn ch s r (fun _ _ => rfl) h).1

theorem evOps_ok {Γ : Gam} {ops : Array Oper} {Q : Exit → Act → World → Prop} (H : OpsOk P E Γ C) : ∀ (l : List Oper) (i : Nat) (kn : Kn) (ch : List Nat) (s : St) (a : Act) (w : World) (G : Nat → Nat) (pt : Nat → Nat → Option Value) (r : Lv),
    ops.toList.drop i = l → Rel E C s a w G pt → (evOps E Γ ops.toList l kn ch s).den = some r →
    (∀ a' w' G' pt', Rel E C r.s a' w' G' pt' → Q .normal a' w') → wpOps P ops Q (List.range' i l.length) a w
  | [], i, kn, ch, s, a, w, G, pt, r, _, R, h, hQ => by
    simp only [evOps, Out.den, Option.some.injEq] at h
    subst h
    exact hQ _ _ _ _ R
  | o :: l, i, kn, ch, s, a, w, G, pt, r, hl, R, h, hQ => by
    have hi : ops[i]? = some o := by
      have : (ops.toList.drop i)[0]? = some o := by rw [hl]; rfl
      rw [List.getElem?_drop] at this
      simpa using this
    have hl' : ops.toList.drop (i + 1) = l := by
      rw [← List.drop_drop, hl]; rfl
    have hcons : List.range' i (o :: l).length = i :: List.range' (i + 1) l.length := by
      simp [List.range'_succ]
    rw [hcons]
    simp only [wpOps, hi]
    -- the operation is run
    have run : ∀ (kn' : Kn) (ch1 : List Nat) (s1 : St) (kn2 : Kn), Region.wanted o (yielded ops a.tmps) = true → Rel E C s1 a w G pt →
        ((opU E Γ kn' o s1).bind fun u => evOps E Γ ops.toList l kn2 (allKeys u ++ ch1) (applyU u s1)).den = some r →
        (if Region.wanted o (yielded ops a.tmps) then o.wp P a w (wpOps P ops Q (List.range' (i + 1) l.length)) Q ∨ (o.asks P a w ∧ LetsOut Q)
          else wpOps P ops Q (List.range' (i + 1) l.length) (a.put o.dst undef) w) := by
      intro kn' ch1 s1 kn2 hw R1 hb
      obtain ⟨u, h1, h2⟩ := bind_some hb
      rw [hw, if_pos rfl]
      exact .inl (H kn' o s1 a w G pt u R1 h1 _ _ fun a' w' G' pt' R' => evOps_ok H l (i + 1) _ _ _ a' w' G' pt' r hl' R' h2 hQ)
    have skip : ∀ (ch1 : List Nat) (s1 : St) (kn2 : Kn), Region.wanted o (yielded ops a.tmps) = false → Rel E C s1 a w G pt → dstOk E o = true →
        (evOps E Γ ops.toList l kn2 ch1 (applyU (skipU o) s1)).den = some r →
        (if Region.wanted o (yielded ops a.tmps) then o.wp P a w (wpOps P ops Q (List.range' (i + 1) l.length)) Q ∨ (o.asks P a w ∧ LetsOut Q)
          else wpOps P ops Q (List.range' (i + 1) l.length) (a.put o.dst undef) w) := by
      intro ch1 s1 kn2 hw R1 hd hb
      rw [hw]
      simp only [Bool.false_eq_true, if_false]
      exact evOps_ok H l (i + 1) _ _ _ _ w G pt r hl' (R1.skipped hd) hb hQ
    simp only [evOps] at h
    split at h
    · rename_i hg
      exact run _ _ _ _ (by simp [Region.wanted, hg]) R h
    · rename_i j want hg
      split at h
      · cases h
      · rename_i t ht
        split at h
        · rename_i b hb
          have hy := yield_of R ht hb
          have hwd : Region.wanted o (yielded ops a.tmps) = decide (b = want) := by
            simp only [Region.wanted, hg, hy]
            cases b <;> cases want <;> rfl
          split at h
          · rename_i c hc
            cases hbc : bbeq b c with
            | false => rw [hbc] at h; cases h
            | true =>
              rw [hbc] at h
              simp only [cond_true] at h
              have hbc := bbeq_eq hbc
              subst hbc
              cases hcw : bbeq b want with
              | true =>
                rw [hcw] at h
                have := bbeq_eq hcw
                exact run _ _ _ _ (by rw [hwd]; exact decide_eq_true this) R h
              | false =>
                rw [hcw] at h
                have hne := bbeq_ne hcw
                simp only [cond_false] at h
                cases hd : dstOk E o with
                | false => rw [hd] at h; cases h
                | true =>
                  rw [hd] at h
                  exact skip _ _ _ (by rw [hwd, hne]; exact decide_eq_false (bnot_ne _)) R hd h
          · cases hd : dstOk E o with
            | false => rw [hd] at h; cases h
            | true =>
              rw [hd] at h
              simp only [cond_true, Out.den] at h
              cases hbw : bbeq b want with
              | true =>
                rw [hbw] at h
                have := bbeq_eq hbw
                subst this
                exact run _ _ _ _ (by rw [hwd]; exact decide_eq_true rfl) (R.told hb) h
              | false =>
                rw [hbw] at h
                have hne := bbeq_ne hbw
                subst hne
                exact skip _ _ _ (by rw [hwd]; exact decide_eq_false (bnot_ne _)) (R.told hb) hd h
        · rename_i hb
          have hy := yield_none R ht hb
          have hwd : Region.wanted o (yielded ops a.tmps) = false := by
            simp only [Region.wanted, hg, hy]
            cases want <;> rfl
          cases hd : dstOk E o with
          | false => rw [hd] at h; cases h
          | true =>
            rw [hd] at h
            exact skip _ _ _ hwd R hd h
        · cases h
end
end Go.Abs

namespace Go.Abs

theorem Loop_some {τ ε : Type} {step : τ → Option (Sum τ ε)} {v : τ} {e : ε} (h : Loop step v = some e) : ∃ n, itN step n v = some e := by
  unfold Loop at h
  split at h
  · rename_i hx; exact ⟨_, h⟩
  · cases h

theorem itN_mono {τ ε : Type} {step : τ → Option (Sum τ ε)} : ∀ {n m : Nat} {v : τ} {e : ε}, itN step n v = some e → n ≤ m → itN step m v = some e
  | 0, _, _, _, h, _ => by cases h
  | n + 1, 0, _, _, _, hm => by omega
  | n + 1, m + 1, v, e, h, hm => by
    simp only [itN] at h ⊢
    split at h
    · rename_i v' hv; exact itN_mono h (by omega)
    · exact h
    · cases h

theorem Loop_of {τ ε : Type} {step : τ → Option (Sum τ ε)} {v : τ} {e : ε} {n : Nat} (h : itN step n v = some e) : Loop step v = some e := by
  have hx : ∃ n, (itN step n v).isSome = true := ⟨n, by rw [h]; rfl⟩
  unfold Loop
  rw [dif_pos hx]
  obtain ⟨e', he'⟩ := Option.isSome_iff_exists.1 hx.choose_spec
  rw [he']
  have h1 := itN_mono h (Nat.le_max_left n hx.choose)
  have h2 := itN_mono he' (Nat.le_max_right n hx.choose)
  rw [h1] at h2
  exact h2.symm

theorem Loop_step {τ ε : Type} {step : τ → Option (Sum τ ε)} {v : τ} : Loop step v = (match step v with
    | some (.inl v') => Loop step v'
    | some (.inr e) => some e
    | none => none) := by
  cases hs : step v with
  | none =>
    cases hl : Loop step v with
    | none => rfl
    | some e =>
      obtain ⟨n, hn⟩ := Loop_some hl
      cases n with
      | zero => cases hn
      | succ n => simp only [itN, hs] at hn; cases hn
  | some r =>
    cases r with
    | inr e => exact Loop_of (n := 1) (by simp only [itN, hs])
    | inl v' =>
      show Loop step v = Loop step v'
      cases hl : Loop step v' with
      | some e =>
        obtain ⟨n, hn⟩ := Loop_some hl
        exact Loop_of (n := n + 1) (by simp only [itN, hs]; exact hn)
      | none =>
        cases hl2 : Loop step v with
        | none => rfl
        | some e =>
          obtain ⟨n, hn⟩ := Loop_some hl2
          cases n with
          | zero => cases hn
          | succ n =>
            simp only [itN, hs] at hn
            rw [Loop_of hn] at hl; cases hl

def InLoop (P : Program) (c : Code) (Q : Exit → Act → World → Prop) (a : Act) (w : World) : Prop :=
  ∀ (b : Frame) (k : List Item) (cs : List Frame), ∃ e a' w', Q e a' w' ∧ Arrives P (lone (b.at a (.inLoop c :: k)) cs w) b k cs e a' w'

theorem round_inLoop {P : Program} {c : Code} {Q : Exit → Act → World → Prop} {a : Act} {w : World} (h : c.wp P (Exit.then (InLoop P c Q) Q) a w) :
    ∀ (b : Frame) (k : List Item) (cs : List Frame), ∃ e a' w', Q e a' w' ∧ Arrives P (lone (b.at a (.code c :: .inLoop c :: k)) cs w) b k cs e a' w' := by
  intro b k cs
  obtain ⟨e, a₁, w₁, hq, harr⟩ := h b (.inLoop c :: k) cs
  cases e with
  | normal =>
    obtain ⟨e₂, a₂, w₂, hq₂, harr₂⟩ := hq b k cs
    exact ⟨e₂, a₂, w₂, hq₂, .of_steps harr harr₂⟩
  | exit id => exact ⟨_, a₁, w₁, hq, .pass (x := .inLoop c) rfl (fun _ _ => .inl (by simp)) harr⟩
  | goto l => exact ⟨_, a₁, w₁, hq, .pass (x := .inLoop c) rfl (fun _ _ => .inl (by simp)) harr⟩
  | ret => exact ⟨_, a₁, w₁, hq, .pass (x := .inLoop c) rfl (fun _ _ => .inl (by simp)) harr⟩
  | panic ch => exact ⟨_, a₁, w₁, hq, .pass (x := .inLoop c) rfl (fun _ _ => .inl (by simp)) harr⟩
  | outgrown => exact ⟨_, a₁, w₁, hq, .pass (x := .inLoop c) rfl (fun _ _ => .inl (by simp)) harr⟩

theorem wp_of_round {P : Program} {c : Code} {Q : Exit → Act → World → Prop} {a : Act} {w : World} (h : c.wp P (Exit.then (InLoop P c Q) Q) a w) : (Code.loop c).wp P Q a w :=
  fun b k cs => let ⟨e, a', w', hq, harr⟩ := round_inLoop h b k cs
    ⟨e, a', w', hq, .of_steps (.one step_loop) harr⟩
theorem in_of_round {P : Program} {c : Code} {Q : Exit → Act → World → Prop} {a : Act} {w : World} (h : c.wp P (Exit.then (InLoop P c Q) Q) a w) : InLoop P c Q a w :=
  fun b k cs => let ⟨e, a', w', hq, harr⟩ := round_inLoop h b k cs
    ⟨e, a', w', hq, .of_steps (.one step_inLoop) harr⟩

def exOf : Nat → Exit
  | 0 => .normal
  | 1 => .ret
  | n + 2 => .exit n

def Post (E : Env) (C : Ctx) (r : Lv) : Exit → Act → World → Prop :=
  fun x a w => x = exOf r.e ∧ ∃ G pt, Rel E C r.s a w G pt

def Stat (s : St) (ch : List Nat) (r : Lv) : Prop :=
  ∀ s0, (∀ k, k ∉ ch → get s k = get s0 k) → ∀ k, k ∉ r.ch → get r.s k = get s0 k

def DrawnOk (P : Program) (E : Env) (Γ : Gam) (C : Ctx) : Prop :=
  ∀ (id : Nat) (ops : Array Oper) ch s r, (evDrawn E Γ ops.toList ops.toList [] [] ch s).den = some r → Stat s ch r ∧
    ∀ a w G pt, Rel E C s a w G pt → (Code.region id ops true).wp P (Post E C r) a w

section
variable {P : Program} {E : Env} {C : Ctx} {s : St} {a : Act} {w : World} {G : Nat → Nat} {pt : Nat → Nat → Option Value}

theorem outM {r : Lv} {M drop : List Nat} (hs : subset r.ch M = true) (H : Stat s [] r) : ∀ k, k ∉ M ++ drop → get r.s k = get s k :=
  fun k hk => H s (fun _ _ => rfl) k fun h => hk (List.mem_append.2 (.inl (subset_iff hs k h)))

theorem cut_stat {M drop ch : List Nat} {base s' : St} {pl : Pl} {x : (plTy pl).den} {M' : List Nat} (hM : ∀ k ∈ M', k ∈ M ++ drop) (hx : plAbsW M' pl s' = some x) (hch : ∀ k, k ∉ M ++ drop → get s' k = get base k) (e : Nat) :
    Stat base ch ⟨e, M ++ drop ++ ch, plCon pl x ++ strike (M ++ drop) base⟩ := by
  intro s0 h0 k hk
  rw [cut_keys (ch0 := ch) hM hx hch k hk]
  refine h0 k fun hc => hk ?_
  exact List.mem_append.2 (.inr hc)

theorem wrap_stat {hp : Bool} {p : Plan} {ch : List Nat} {run : List Nat → Out Lv} {r : Lv} (H : ∀ ch r, (run ch).den = some r → Stat s ch r) (h : (wrap hp p ch s run).den = some r) : Stat s ch r := by
  unfold wrap at h
  split at h
  · rename_i M ws q
    obtain ⟨x, hx, h⟩ := call_some h
    obtain ⟨r', h1, h2⟩ := toData_some hx
    simp only [leafO] at h2
    cases hs : subset r'.ch M with
    | false => rw [hs] at h2; cases h2
    | true =>
      rw [hs] at h2
      obtain ⟨v, y, _, _, hy, _, rfl⟩ := ways_some h2 h
      exact cut_stat (fun k h => List.mem_append.2 (.inl h)) hy (outM hs (H [] r' h1)) _
  · exact H ch r h

theorem wrap_ok {c : Code} {p : Plan} {ch : List Nat} {run : List Nat → Out Lv} {r : Lv} (hpin : C.pin = none ∨ E.hp = true) (H : ∀ ch r, (run ch).den = some r → Stat s ch r)
    (H2 : ∀ ch r, (run ch).den = some r → c.wp P (Post E C r) a w) (h : (wrap E.hp p ch s run).den = some r) : c.wp P (Post E C r) a w := by
  unfold wrap at h
  split at h
  · rename_i M ws q
    obtain ⟨x, hx, h⟩ := call_some h
    obtain ⟨r', h1, h2⟩ := toData_some hx
    simp only [leafO] at h2
    cases hs : subset r'.ch M with
    | false => rw [hs] at h2; cases h2
    | true =>
      rw [hs] at h2
      obtain ⟨v, y, _, _, hy, hc, rfl⟩ := ways_some h2 h
      refine wp_mono (H2 [] r' h1) fun e a' w' hpost => ?_
      obtain ⟨he, G', pt', R'⟩ := hpost
      obtain ⟨G2, pt2, R2⟩ := R'.cut hpin (outM hs (H [] r' h1)) (fun k h => List.mem_append.2 (.inl h)) hy hc
      exact ⟨he, G2, pt2, R2⟩
  · exact H2 ch r h

theorem mem_plCon {rest : St} : ∀ {pl : Pl} {x : (plTy pl).den} {k : Nat}, k ∉ plKeys pl → get (plCon pl x ++ rest) k = get rest k
  | [], _, _, _ => rfl
  | p :: r, x, k, h => by
    simp only [plKeys, List.mem_cons, not_or] at h
    simp only [plCon, List.cons_append]
    rw [get_cons, if_neg h.1]
    exact mem_plCon h.2

theorem head_get {M drop : List Nat} {pl : Pl} {v : (plTy pl).den} (hsub : subset (plKeys pl) M = true) {k : Nat} (hk : k ∉ M ++ drop) : get (headSt M pl drop s v) k = get s k := by
  unfold headSt
  have h1 : k ∉ plKeys pl := fun h => hk (List.mem_append.2 (.inl (subset_iff hsub k h)))
  rw [mem_plCon h1, get_strike]
  cases hm : mem k (M ++ drop) with
  | false => rfl
  | true => exact absurd (mem_iff.1 hm) hk

theorem leafL_some {hp : Bool} {M drop : List Nat} {pl : Pl} {ws : List Way} {r : Lv} {y : Sum (plTy pl).den (waysTy ws).den} (h : leafL hp M pl drop s ws r = some y) :
    subset r.ch M = true ∧ ((∃ v, y = .inl v ∧ r.e = 0 ∧ plAbsW M pl r.s = some v ∧ closedSt hp (headSt M pl drop s v) = true) ∨ (∃ x, y = .inr x ∧ r.e ≠ 0 ∧ waysAbs M r.e r.s ws = some x)) := by
  unfold leafL at h
  cases hs : subset r.ch M with
  | false => rw [hs] at h; cases h
  | true =>
    rw [hs] at h
    simp only [cond_true] at h
    refine ⟨rfl, ?_⟩
    cases he : Nat.beq r.e 0 with
    | true =>
      rw [he] at h
      simp only [cond_true] at h
      split at h
      · rename_i v hv
        cases hc : closedSt hp (headSt M pl drop s v) with
        | false => rw [hc] at h; cases h
        | true =>
          rw [hc] at h
          simp only [cond_true, Option.some.injEq] at h
          exact .inl ⟨v, h.symm, Nat.eq_of_beq_eq_true he, hv, hc⟩
      · cases h
    | false =>
      rw [he] at h
      simp only [cond_false] at h
      split at h
      · rename_i x hx
        simp only [Option.some.injEq] at h
        refine .inr ⟨x, h.symm, fun h0 => ?_, hx⟩
        rw [h0] at he; cases he
      · cases h

theorem loop_ok {c : Code} {M drop ch : List Nat} {pl : Pl} {ws : List Way} {body : St → Out Lv} {r : Lv} (hpin : C.pin = none ∨ E.hp = true)
    (hbs : ∀ s r, (body s).den = some r → Stat s [] r) (hbo : ∀ s a w G pt r, Rel E C s a w G pt → (body s).den = some r → c.wp P (Post E C r) a w)
    (h : (loopO (fun _ _ => Loop) E.hp M pl drop ws ch s body).den = some r) : Stat s ch r ∧ ∀ a w G pt, Rel E C s a w G pt → (Code.loop c).wp P (Post E C r) a w := by
  unfold loopO at h
  cases hsub : subset (plKeys pl) M with
  | false => rw [hsub] at h; cases h
  | true =>
    rw [hsub] at h
    simp only [cond_true] at h
    split at h
    · rename_i v0 hv0
      cases hc0 : closedSt E.hp (headSt M pl drop s v0) with
      | false => rw [hc0] at h; cases h
      | true =>
        rw [hc0] at h
        simp only [cond_true] at h
        obtain ⟨x, hx, h⟩ := call_some h
        obtain ⟨n, hn⟩ := Loop_some hx
        have key : ∀ n v, itN (fun v => ((body (headSt M pl drop s v)).toData (leafL E.hp M pl drop s ws)).den) n v = some x →
            (∀ a w G pt, Rel E C (headSt M pl drop s v) a w G pt → c.wp P (Exit.then (InLoop P c (Post E C r)) (Post E C r)) a w) ∧ Stat s ch r := by
          intro n
          induction n with
          | zero => intro v h; cases h
          | succ n ih =>
            intro v hv
            simp only [itN] at hv
            split at hv
            · rename_i v' hst
              obtain ⟨r1, h1, h2⟩ := toData_some hst
              obtain ⟨hs1, h3⟩ := leafL_some h2
              obtain ⟨v2, e2, he, hp, hcl⟩ : ∃ v2, (Sum.inl v' : Sum _ (waysTy ws).den) = .inl v2 ∧ r1.e = 0 ∧ plAbsW M pl r1.s = some v2 ∧ closedSt E.hp (headSt M pl drop s v2) = true := by
                rcases h3 with h3 | ⟨x', hx', _⟩
                · exact h3
                · cases hx'
              cases e2
              obtain ⟨k1, k2⟩ := ih v' hv
              refine ⟨fun a w G pt R1 => wp_mono (hbo _ a w G pt r1 R1 h1) fun e a' w' hpost => ?_, k2⟩
              obtain ⟨he', G', pt', R'⟩ := hpost
              rw [he] at he'
              subst he'
              obtain ⟨G2, pt2, R2⟩ := R'.cut (base := s) (M := M) (drop := drop) hpin (fun k hk => by
                rw [hbs _ r1 h1 (headSt M pl drop s v) (fun _ _ => rfl) k (fun hk2 => hk (List.mem_append.2 (.inl (subset_iff hs1 k hk2))))]
                exact head_get hsub hk) (fun k h => List.mem_append.2 (.inl h)) hp hcl
              exact in_of_round (k1 a' w' G2 pt2 R2)
            · rename_i x' hst
              simp only [Option.some.injEq] at hv
              subst hv
              obtain ⟨r1, h1, h2⟩ := toData_some hst
              obtain ⟨hs1, h3⟩ := leafL_some h2
              obtain ⟨x2, e2, he, hw⟩ : ∃ x2, (Sum.inr x' : Sum (plTy pl).den _) = .inr x2 ∧ r1.e ≠ 0 ∧ waysAbs M r1.e r1.s ws = some x2 := by
                rcases h3 with ⟨v2, hv2, _⟩ | h3
                · cases hv2
                · exact h3
              cases e2
              obtain ⟨wy, y, _, _, hy, hcl, rfl⟩ := ways_some hw h
              have hk : ∀ k, k ∉ M ++ drop ++ wy.drop → get r1.s k = get s k := by
                intro k hk
                simp only [List.mem_append, not_or] at hk
                rw [hbs _ r1 h1 (headSt M pl drop s v) (fun _ _ => rfl) k (fun hk2 => hk.1.1 (subset_iff hs1 k hk2))]
                exact head_get hsub (by simp [hk.1.1, hk.1.2])
              refine ⟨fun a w G pt R1 => wp_mono (hbo _ a w G pt r1 R1 h1) fun e a' w' hpost => ?_, cut_stat (fun k h => by simp [h]) hy hk _⟩
              obtain ⟨he', G', pt', R'⟩ := hpost
              obtain ⟨G2, pt2, R2⟩ := R'.cut (base := s) (M := M ++ drop) (drop := wy.drop) hpin hk (fun k h => by simp [h]) hy hcl
              have hpo : Post E C ⟨r1.e, M ++ drop ++ wy.drop ++ ch, cutSt (M ++ drop) s wy y⟩ e a' w' := ⟨he', G2, pt2, R2⟩
              cases e with
              | normal =>
                match hre : r1.e, he with
                | 0, h0 => exact absurd rfl h0
                | 1, _ => rw [hre] at he'; cases he'
                | n + 2, _ => rw [hre] at he'; cases he'
              | _ => exact hpo
            · cases hv
        obtain ⟨k1, k2⟩ := key n v0 hn
        refine ⟨k2, fun a w G pt R => ?_⟩
        obtain ⟨G0, pt0, R0⟩ := R.cut (base := s) (M := M) (drop := drop) hpin (fun _ _ => rfl) (fun k h => List.mem_append.2 (.inl h)) hv0 hc0
        exact wp_of_round (k1 a w G0 pt0 R0)
    · cases h

theorem den_bind_some {R S : Type} {f : R → Out S} {o : Out R} {y : S} (h : (o.bind f).den = some y) : ∃ r, o.den = some r ∧ (f r).den = some y := by
  rw [den_bind] at h
  cases ho : o.den with
  | none => rw [ho] at h; cases h
  | some r => rw [ho] at h; exact ⟨r, rfl, h⟩
theorem open_stat {n : Nat} {p : Plan} {ch : List Nat} {s : St} {r : Lv} {run : List Nat → St → Out Lv} (H : ∀ ch s r, (run ch s).den = some r → Stat s ch r)
    (h : (openO n p ch s run).den = some r) : Stat s ch r := by
  unfold openO at h
  split at h
  · rename_i l
    refine openK_some (fun o : Out Lv => o.den = some r → Stat s ch r) (fun ch' s' => ∀ s0, (∀ k, k ∉ ch → get s k = get s0 k) → ∀ k, k ∉ ch' → get s' k = get s0 k)
      (fun ch' s' k j X hI s0 h0 m hm => ?_) l ch s _ (fun s0 h0 => h0) (fun ch' s' hI h => ?_) h
    · simp only [List.mem_append, not_or] at hm
      rw [get_app_other _ _ _ hm.1]
      exact hI s0 h0 m hm.2
    · obtain ⟨r1, h1, h2⟩ := den_bind_some h
      have h3 : sealK l r1 = r := by simpa [Out.den] using h2
      subst h3
      exact fun s0 h0 => sealK_stat l r1 s0 (H ch' s' r1 h1 s0 (hI s0 h0))
  · rename_i l
    refine openK_some (fun o : Out Lv => o.den = some r → Stat s ch r) (fun ch' s' => ∀ s0, (∀ k, k ∉ ch → get s k = get s0 k) → ∀ k, k ∉ ch' → get s' k = get s0 k)
      (fun ch' s' k j X hI s0 h0 m hm => ?_) l ch s _ (fun s0 h0 => h0) (fun ch' s' hI h => ?_) h
    · simp only [List.mem_append, not_or] at hm
      rw [get_app_other _ _ _ hm.1]
      exact hI s0 h0 m hm.2
    · exact fun s0 h0 => H ch' s' r h s0 (hI s0 h0)
  · rename_i l
    obtain ⟨r1, h1, h2⟩ := den_bind_some h
    have h3 : sealK l r1 = r := by simpa [Out.den] using h2
    subst h3
    exact fun s0 h0 => sealK_stat l r1 s0 (H ch s r1 h1 s0 h0)
  · exact H ch s r h

theorem open_rel {c : Code} {p : Plan} {ch : List Nat} {s : St} {r : Lv} {run : List Nat → St → Out Lv} {a : Act} {w : World} {G : Nat → Nat} {pt : Nat → Nat → Option Value} (hm : E.n ≤ C.m)
    (H : ∀ ch s r, (run ch s).den = some r → ∀ a w G pt, Rel E C s a w G pt → c.wp P (Post E C r) a w)
    (h : (openO E.n p ch s run).den = some r) (R : Rel E C s a w G pt) : c.wp P (Post E C r) a w := by
  unfold openO at h
  split at h
  · rename_i l
    refine openK_some (fun o : Out Lv => o.den = some r → c.wp P (Post E C r) a w) (fun _ s' => ∃ G' pt', Rel E C s' a w G' pt')
      (fun ch' s' k j X hI => ?_) l ch s _ ⟨G, pt, R⟩ (fun ch' s' hI h => ?_) h
    · obtain ⟨G', pt', R'⟩ := hI
      exact R'.open1 hm k j X
    · obtain ⟨r1, h1, h2⟩ := den_bind_some h
      have h3 : sealK l r1 = r := by simpa [Out.den] using h2
      subst h3
      obtain ⟨G1, pt', R'⟩ := hI
      refine wp_mono (H ch' s' r1 h1 a w G1 pt' R') fun e a' w' hpost => ?_
      obtain ⟨he, G', pt2, R2⟩ := hpost
      exact ⟨by rw [sealK_e]; exact he, G', pt2, sealK_rel l r1 a' w' G' pt2 R2⟩
  · rename_i l
    refine openK_some (fun o : Out Lv => o.den = some r → c.wp P (Post E C r) a w) (fun _ s' => ∃ G' pt', Rel E C s' a w G' pt')
      (fun ch' s' k j X hI => ?_) l ch s _ ⟨G, pt, R⟩ (fun ch' s' hI h => ?_) h
    · obtain ⟨G', pt', R'⟩ := hI
      exact R'.open1 hm k j X
    · obtain ⟨G1, pt', R'⟩ := hI
      exact H ch' s' r h a w G1 pt' R'
  · rename_i l
    obtain ⟨r1, h1, h2⟩ := den_bind_some h
    have h3 : sealK l r1 = r := by simpa [Out.den] using h2
    subst h3
    refine wp_mono (H ch s r1 h1 a w G pt R) fun e a' w' hpost => ?_
    obtain ⟨he, G', pt2, R2⟩ := hpost
    exact ⟨by rw [sealK_e]; exact he, G', pt2, sealK_rel l r1 a' w' G' pt2 R2⟩
  · exact H ch s r h a w G pt R

theorem unroll_ok {c : Code} {run : List Nat → St → Out Lv} (H1 : ∀ ch s r, (run ch s).den = some r → Stat s ch r)
    (H2 : ∀ ch s r, (run ch s).den = some r → ∀ a w G pt, Rel E C s a w G pt → c.wp P (Post E C r) a w) :
    ∀ (n : Nat) (ch : List Nat) (s : St) (r : Lv), (unrollO run n ch s).den = some r → Stat s ch r ∧ ∀ a w G pt, Rel E C s a w G pt → c.wp P (Exit.then (InLoop P c (Post E C r)) (Post E C r)) a w
  | 0, ch, s, r, h => by cases h
  | n + 1, ch, s, r, h => by
    simp only [unrollO] at h
    obtain ⟨r1, h1, h2⟩ := den_bind_some h
    cases he : Nat.beq r1.e 0 with
    | true =>
      rw [he] at h2
      simp only [cond_true] at h2
      obtain ⟨k1, k2⟩ := unroll_ok H1 H2 n r1.ch r1.s r h2
      refine ⟨fun s0 h0 => k1 s0 (H1 ch s r1 h1 s0 h0), fun a w G pt R => wp_mono (H2 ch s r1 h1 a w G pt R) fun e a' w' hp => ?_⟩
      obtain ⟨rfl, G', pt', R'⟩ := hp
      have he := Nat.eq_of_beq_eq_true he
      rw [he]
      exact in_of_round (k2 a' w' G' pt' R')
    | false =>
      rw [he] at h2
      simp only [cond_false, Out.den, Option.some.injEq] at h2
      subst h2
      refine ⟨H1 ch s r1 h1, fun a w G pt R => wp_mono (H2 ch s r1 h1 a w G pt R) fun e a' w' hp => ?_⟩
      have hpo := hp
      obtain ⟨rfl, G', pt', R'⟩ := hp
      match hre : r1.e with
      | 0 => rw [hre] at he; simp [beq_nat] at he
      | 1 => rw [hre] at hpo; exact hpo
      | n + 2 => rw [hre] at hpo; exact hpo

theorem ev_ok {Γ : Gam} (hm : E.n ≤ C.m) (hpin : C.pin = none ∨ E.hp = true) (H : OpsOk P E Γ C) (D : DrawnOk P E Γ C) : ∀ (c : Code) (p : Plan) (ch : List Nat) (s : St) (r : Lv),
    (ev (fun _ _ => Loop) E Γ c p ch s).den = some r → Stat s ch r ∧ ∀ a w G pt, Rel E C s a w G pt → c.wp P (Post E C r) a w
  | .skip, p, ch, s, r, h => by
    simp only [ev, Out.den, Option.some.injEq] at h
    subst h
    exact ⟨fun _ h => h, fun a w G pt R => wp_skip ⟨rfl, G, pt, R⟩⟩
  | .ret, p, ch, s, r, h => by
    simp only [ev, Out.den, Option.some.injEq] at h
    subst h
    exact ⟨fun _ h => h, fun a w G pt R => wp_ret ⟨rfl, G, pt, R⟩⟩
  | .exit id, p, ch, s, r, h => by
    simp only [ev, Out.den, Option.some.injEq] at h
    subst h
    exact ⟨fun _ h => h, fun a w G pt R => wp_exit ⟨rfl, G, pt, R⟩⟩
  | .region id ops draw, p, ch, s, r, h => by
    simp only [ev] at h
    have HS0 : ∀ ch s r, (bif draw then evDrawn E Γ ops.toList ops.toList [] [] ch s else evOps E Γ ops.toList ops.toList [] ch s).den = some r → Stat s ch r := by
      intro ch s r h
      cases draw with
      | true => exact (D id ops ch s r h).1
      | false => exact fun s0 h0 => (evOps_stat E Γ ops.toList s0 ops.toList [] ch s r h0 h).2
    have HR0 : ∀ ch s r, (bif draw then evDrawn E Γ ops.toList ops.toList [] [] ch s else evOps E Γ ops.toList ops.toList [] ch s).den = some r →
        ∀ a w G pt, Rel E C s a w G pt → (Code.region id ops draw).wp P (Post E C r) a w := by
      intro ch s r h a w G pt R
      cases draw with
      | true => exact (D id ops ch s r h).2 a w G pt R
      | false =>
        refine wp_region ?_
        have h0 : r.e = 0 := evOps_e E Γ ops.toList ops.toList [] ch s r h
        have := evOps_ok (Q := Post E C r) H ops.toList 0 [] ch s a w G pt r rfl R h (fun a' w' G' pt' R' => ⟨by rw [h0]; rfl, G', pt', R'⟩)
        rw [List.range_eq_range']
        simpa using this
    have HS : ∀ ch r, (openO E.n p.inner ch s fun ch s => bif draw then evDrawn E Γ ops.toList ops.toList [] [] ch s else evOps E Γ ops.toList ops.toList [] ch s).den = some r → Stat s ch r :=
      fun ch r h => open_stat HS0 h
    exact ⟨wrap_stat HS h, fun a w G pt R => wrap_ok hpin HS (fun ch r h => open_rel hm HR0 h R) h⟩
  | .seq x y, p, ch, s, r, h => by
    simp only [ev] at h
    have HS : ∀ ch r, ((ev (fun _ _ => Loop) E Γ x p.inner.left ch s).bind fun r => bif Nat.beq r.e 0 then ev (fun _ _ => Loop) E Γ y p.inner.right r.ch r.s else .ret r).den = some r → Stat s ch r := by
      intro ch r h
      obtain ⟨r1, h1, h2⟩ := bind_some h
      have k1 := (ev_ok hm hpin H D x _ ch s r1 h1).1
      cases he : Nat.beq r1.e 0 with
      | true =>
        rw [he] at h2
        have k2 := (ev_ok hm hpin H D y _ _ _ r h2).1
        exact fun s0 h0 => k2 s0 (k1 s0 h0)
      | false =>
        rw [he] at h2
        simp only [cond_false, Out.den, Option.some.injEq] at h2
        subst h2; exact k1
    refine ⟨wrap_stat HS h, fun a w G pt R => wrap_ok hpin HS (fun ch r h => ?_) h⟩
    obtain ⟨r1, h1, h2⟩ := bind_some h
    refine wp_seq (wp_mono ((ev_ok hm hpin H D x _ ch s r1 h1).2 a w G pt R) fun e a' w' hp => ?_)
    obtain ⟨rfl, G', pt', R'⟩ := hp
    cases he : Nat.beq r1.e 0 with
    | true =>
      rw [he] at h2
      have he := Nat.eq_of_beq_eq_true he
      rw [he]
      exact (ev_ok hm hpin H D y _ _ _ r h2).2 a' w' G' pt' R'
    | false =>
      rw [he] at h2
      simp only [cond_false, Out.den, Option.some.injEq] at h2
      subst h2
      have hpo : Post E C r1 (exOf r1.e) a' w' := ⟨rfl, G', pt', R'⟩
      match hre : r1.e with
      | 0 => rw [hre] at he; cases he
      | 1 => rw [hre] at hpo; exact hpo
      | n + 2 => rw [hre] at hpo; exact hpo
  | .cond c x y, p, ch, s, r, h => by
    simp only [ev] at h
    have HS : ∀ ch r, (match opd s c with
      | .bool b => Out.ite b (ev (fun _ _ => Loop) E Γ x p.inner.left ch s) (ev (fun _ _ => Loop) E Γ y p.inner.right ch s)
      | _ => .fail).den = some r → ∃ b, opd s c = .bool b ∧ ((b = true ∧ (ev (fun _ _ => Loop) E Γ x p.inner.left ch s).den = some r) ∨ (b = false ∧ (ev (fun _ _ => Loop) E Γ y p.inner.right ch s).den = some r)) := by
      intro ch r h
      split at h
      · rename_i b hb
        refine ⟨b, hb, ?_⟩
        cases b with
        | true => exact .inl ⟨rfl, h⟩
        | false => exact .inr ⟨rfl, h⟩
      · cases h
    refine ⟨wrap_stat (fun ch r h => ?_) h, fun a w G pt R => wrap_ok hpin (fun ch r h => ?_) (fun ch r h => ?_) h⟩
    · obtain ⟨b, hb, ⟨_, h⟩ | ⟨_, h⟩⟩ := HS ch r h
      · exact (ev_ok hm hpin H D x _ ch s r h).1
      · exact (ev_ok hm hpin H D y _ ch s r h).1
    · obtain ⟨b, hb, ⟨_, h⟩ | ⟨_, h⟩⟩ := HS ch r h
      · exact (ev_ok hm hpin H D x _ ch s r h).1
      · exact (ev_ok hm hpin H D y _ ch s r h).1
    · obtain ⟨b, hb, ⟨rfl, h⟩ | ⟨rfl, h⟩⟩ := HS ch r h
      · have hv := opd_rep R c
        rw [hb] at hv
        exact wp_cond_true hv ((ev_ok hm hpin H D x _ ch s r h).2 a w G pt R)
      · have hv := opd_rep R c
        rw [hb] at hv
        exact wp_cond_false hv ((ev_ok hm hpin H D y _ ch s r h).2 a w G pt R)
  | .block id c, p, ch, s, r, h => by
    simp only [ev] at h
    refine ⟨wrap_stat (fun ch r h => ?_) h, fun a w G pt R => wrap_ok hpin (fun ch r h => ?_) (fun ch r h => ?_) h⟩
    · obtain ⟨r1, h1, h2⟩ := bind_some h
      simp only [Out.den, Option.some.injEq] at h2
      subst h2
      exact (ev_ok hm hpin H D c _ ch s r1 h1).1
    · obtain ⟨r1, h1, h2⟩ := bind_some h
      simp only [Out.den, Option.some.injEq] at h2
      subst h2
      exact (ev_ok hm hpin H D c _ ch s r1 h1).1
    · obtain ⟨r1, h1, h2⟩ := bind_some h
      simp only [Out.den, Option.some.injEq] at h2
      subst h2
      refine wp_block (wp_mono ((ev_ok hm hpin H D c _ ch s r1 h1).2 a w G pt R) fun e a' w' hp => ?_)
      obtain ⟨rfl, G', pt', R'⟩ := hp
      match hre : r1.e with
      | 0 => exact ⟨by simp [hre, exOf, beq_nat], G', pt', R'⟩
      | 1 => exact ⟨by simp [hre, exOf, beq_nat], G', pt', R'⟩
      | n + 2 =>
        simp only [exOf, Exit.inBlock]
        by_cases hn : n = id
        · rw [if_pos hn]; exact ⟨by simp [hre, exOf, beq_nat, hn], G', pt', R'⟩
        · rw [if_neg hn]; exact ⟨by simp [hre, exOf, beq_nat, hn], G', pt', R'⟩
  | .loop c, p, ch, s, r, h => by
    simp only [ev] at h
    have HS : ∀ ch r, (match p.inner with
      | .loop M pl drop ws q => loopO (fun _ _ => Loop) E.hp M pl drop ws ch s (fun st => ev (fun _ _ => Loop) E Γ c q [] st)
      | .unr n q => unrollO (fun ch st => ev (fun _ _ => Loop) E Γ c q ch st) n ch s
      | _ => .fail).den = some r → Stat s ch r ∧ ∀ a w G pt, Rel E C s a w G pt → (Code.loop c).wp P (Post E C r) a w := by
      intro ch r h
      split at h
      · rename_i M pl drop ws q hq
        exact loop_ok hpin (fun s r h => (ev_ok hm hpin H D c q [] s r h).1) (fun s a w G pt r R h => (ev_ok hm hpin H D c q [] s r h).2 a w G pt R) h
      · rename_i n q hq
        obtain ⟨k1, k2⟩ := unroll_ok (fun ch s r h => (ev_ok hm hpin H D c q ch s r h).1) (fun ch s r h => (ev_ok hm hpin H D c q ch s r h).2) n ch s r h
        exact ⟨k1, fun a w G pt R => wp_of_round (k2 a w G pt R)⟩
      · cases h
    exact ⟨wrap_stat (fun ch r h => (HS ch r h).1) h, fun a w G pt R => wrap_ok hpin (fun ch r h => (HS ch r h).1) (fun ch r h => (HS ch r h).2 a w G pt R) h⟩
  | .goto l, p, ch, s, r, h => by cases h
  | .label l, p, ch, s, r, h => by
    simp only [ev, Out.den, Option.some.injEq] at h
    subst h
    exact ⟨fun _ h => h, fun a w G pt R => wp_label ⟨rfl, G, pt, R⟩⟩
  | .scope c, p, ch, s, r, h => by
    simp only [ev] at h
    refine ⟨(ev_ok hm hpin H D c p ch s r h).1, fun a w G pt R => wp_scope_straight (wp_mono ((ev_ok hm hpin H D c p ch s r h).2 a w G pt R) fun e a' w' hp => ?_)⟩
    obtain ⟨rfl, G', pt', R'⟩ := hp
    have hpo : Post E C r (exOf r.e) a' w' := ⟨rfl, G', pt', R'⟩
    match hre : r.e with
    | 0 => rw [hre] at hpo; exact hpo
    | 1 => rw [hre] at hpo; exact hpo
    | n + 2 => rw [hre] at hpo; exact hpo
  | .refuse w, p, ch, s, r, h => by cases h
  | .rangeFunc f ps a b, p, ch, s, r, h => by cases h
end
end Go.Abs

namespace Go.Abs
section
variable {P : Program} {E : Env} {C : Ctx} {s : St} {a : Act} {w : World} {G : Nat → Nat} {pt : Nat → Nat → Option Value} {o : Oper} {u : St}

theorem guarded_some {x : Option (Bool × St)} (h : (guarded o s x).den = some u) : x = some (true, u) := by
  unfold guarded at h
  split at h
  · rename_i g v
    cases hn : needsG o s with
    | true =>
      rw [hn] at h
      simp only [cond_true, Out.den] at h
      cases g with
      | true => simp only [cond_true, Out.den, Option.some.injEq] at h; rw [h]
      | false => cases h
    | false =>
      rw [hn] at h
      cases g with
      | true => simp only [cond_true, cond_false, Out.den, Option.some.injEq] at h; rw [h]
      | false => cases h
  · cases h

theorem outU_some {x : Option (Bool × St)} (h : (outU x).den = some u) : x = some (true, u) := by
  unfold outU at h
  split at h
  · rename_i g v
    cases g with
    | true => simp only [cond_true, Out.den, Option.some.injEq] at h; rw [h]
    | false => cases h
  · cases h

def Hits (s : St) (con : Con) (c : Call) (f : Nat) : Prop := c.callee = .value (.func f) ∨ ((∃ x, c.callee = .value x ∧ opd s x = .fnc f) ∧ con.xf = none)
def ClosOk (P : Program) (E : Env) (Γ : Gam) (C : Ctx) : Prop :=
  ∀ f t v con o c s a w G pt u x, f < 1000000 → Γ (ckey E o f) = some con → con.xf = none → o.op = .call c → c.callee = .value x → opd s x = .clo f t v → Rel E C s a w G pt → (callC E con o s c.args.toList (.vptr t [v] 0 0)).den = some u → OpWp P E C o a w (applyU u s)
def CallsOk (P : Program) (E : Env) (Γ : Gam) (C : Ctx) : Prop := ClosOk P E Γ C ∧
  ∀ f con o c s a w G pt u, f < 1000000 → Γ (ckey E o f) = some con → o.op = .call c → Hits s con c f → Rel E C s a w G pt → (callU E con o s c.args.toList).den = some u → OpWp P E C o a w (applyU u s)

theorem applyU_rev : ∀ (l s : St), applyU l s = l.reverse ++ s
  | [], _ => rfl
  | p :: r, s => by
    show applyU r (p :: s) = _
    rw [applyU_rev r, List.reverse_cons, List.append_assoc]
    rfl
theorem Rel.preSeal (R : Rel E C s a w G pt) {o : Oper} (args : List Operand) : Rel E C (preSeal E o s args ++ s) a w G pt := by
  unfold Abs.preSeal
  cases Nat.beq (tag E o) 10 with
  | false => exact R
  | true =>
    simp only [cond_true]
    split
    · split
      · exact R.seal1 _ 0 _
      · exact R
    · exact R
theorem ops_ok {Γ : Gam} (HP : POk P E) (hm : E.n ≤ C.m) (HC : CallsOk P E Γ C) : OpsOk P E Γ C := by
  intro kn o s a w G pt u R h
  unfold opU at h
  split at h
  · rename_i c x y hop
    cases hd : dstOk E o with
    | false => rw [hd] at h; cases h
    | true =>
      rw [hd] at h
      simp only [cond_true] at h
      split at h
      · rename_i b hb
        have fin : (outU (aMove E o s (bif b then x else y))).den = some u → OpWp P E C o a w (applyU u s) :=
          fun h => (pick_ok R hd c x y b hop hb (outU_some h)).wp
        split at h
        · rename_i b' _
          simp only [Out.den] at h
          cases hbb : bbeq b b' with
          | false => rw [hbb] at h; cases h
          | true =>
            rw [hbb] at h
            have := bbeq_eq hbb
            subst this
            exact fin h
        · simp only [Out.den] at h
          cases b with
          | true => exact fin h
          | false => exact fin h
      · cases h
  · rename_i c hop
    split at h
    · rename_i f hf
      cases hlt : Nat.blt f 1000000 with
      | false => rw [hlt] at h; cases h
      | true =>
      rw [hlt] at h
      simp only [cond_true] at h
      split at h
      · rename_i con hcon
        exact HC.2 f con o c s a w G pt u (by simpa [Nat.blt_eq] using hlt) hcon hop (.inl hf) R h
      · cases h
    · rename_i x _ hf
      split at h
      · rename_i f hx
        cases hlt : Nat.blt f 1000000 with
        | false => rw [hlt] at h; cases h
        | true =>
        rw [hlt] at h
        simp only [cond_true] at h
        split at h
        · rename_i con hcon
          split at h
          · rename_i hxf
            refine HC.2 f con o c s a w G pt u (by simpa [Nat.blt_eq] using hlt) hcon hop (.inr ⟨⟨x, hf, hx⟩, hxf⟩) R ?_
            unfold callU
            rw [hxf]
            exact h
          · cases h
        · cases h
      · rename_i f t v hx
        cases hlt : Nat.blt f 1000000 with
        | false => rw [hlt] at h; cases h
        | true =>
        rw [hlt] at h
        simp only [cond_true] at h
        split at h
        · rename_i con hcon
          split at h
          · rename_i hxf
            exact HC.1 f t v con o c s a w G pt u _ (by simpa [Nat.blt_eq] using hlt) hcon hxf hop hf hx R h
          · cases h
        · cases h
      · cases h
    · unfold guardedS at h
      obtain ⟨u1, h1, h2⟩ := den_bind_some h
      have h2 : (preSeal E o s c.args.toList).reverse ++ u1 = u := by simpa [Out.den] using h2
      subst h2
      rw [applyU_append, applyU_rev (preSeal E o s c.args.toList).reverse s, List.reverse_reverse]
      exact (act_ok HP hm (R.preSeal _) (guarded_some h1)).wp
  · exact (act_ok HP hm R (guarded_some h)).wp
end
end Go.Abs

namespace Go.Abs
section
variable {E : Env} {s s' : St} {o : Oper}

theorem opd_eq {x : Operand} (h : ∀ k ∈ shallowXs [x], get s' k = get s k) : opd s' x = opd s x := by
  cases x with
  | tmp t => exact h (2 * t) (by simp [shallowXs])
  | _ => rfl
theorem srcU_eq {x : Operand} (f : D → D) (g : D → Bool) (h : ∀ k ∈ shallowXs [x], get s' k = get s k) : srcU s' x f g = srcU s x f g := by
  cases x with
  | tmp t =>
    have := h (2 * t) (by simp [shallowXs])
    simp only [srcU, this]
  | _ => rfl

theorem shallow_mem {x : Operand} : ∀ {xs : List Operand}, x ∈ xs → ∀ k ∈ shallowXs [x], k ∈ shallowXs xs
  | y :: r, h, k, hk => by
    rcases List.mem_cons.1 h with rfl | h
    · cases x with
      | tmp t => simp only [shallowXs, List.mem_cons, List.not_mem_nil, or_false] at hk ⊢; exact .inl hk
      | _ => simp [shallowXs] at hk
    · have := shallow_mem h k hk
      cases y with
      | tmp t => simp only [shallowXs, List.mem_cons]; exact .inr this
      | _ => simpa only [shallowXs] using this

theorem reads_shallow {x : Operand} {xs : List Operand} (hx : x ∈ xs) : ∀ k ∈ shallowXs [x], k ∈ readsXs s xs := by
  induction xs with
  | nil => simp at hx
  | cons y r ih =>
    intro k hk
    simp only [readsXs, List.mem_append]
    rcases List.mem_cons.1 hx with rfl | hx
    · left
      cases x with
      | tmp t =>
        simp only [shallowXs, List.mem_cons, List.not_mem_nil, or_false] at hk
        subst hk
        simp only [readsX]
        split <;> simp
      | _ => simp [shallowXs] at hk
    · exact .inr (ih hx k hk)

theorem mem_boxKs {i : Nat} : ∀ {l : List Nat}, i ∈ l → 2 * i + 1 ∈ boxKs l
  | j :: r, h => by
    simp only [boxKs, List.mem_cons]
    rcases List.mem_cons.1 h with rfl | h
    · exact .inl rfl
    · exact .inr (mem_boxKs h)
theorem refsL_sub {d : D} {i : Nat} (h : i ∈ refsL d) : i ∈ refs1 d := by
  cases d <;> first | exact h | (simp [refsL] at h; done)
theorem ofV_refs (v : Value) : refs1 (ofV v) = [] := by
  unfold ofV
  split
  · rfl
  · rename_i k n; cases inR k n <;> rfl
  · rename_i b; cases Nat.ble (sby b).length mlen <;> rfl
  · rfl
  · rfl
theorem readsX_box {x : Operand} {id : Nat} (h : id ∈ refs1 (opd s x)) : 2 * id + 1 ∈ readsX s x := by
  cases x with
  | tmp t =>
    simp only [opd] at h
    simp only [readsX]
    cases hd : get s (2 * t) with
    | agg cs =>
      rw [hd] at h
      exact List.mem_cons_of_mem _ (mem_boxKs h)
    | _ =>
      rw [hd] at h
      simp only [refs1, refsL, List.mem_cons, List.not_mem_nil, or_false] at h
      all_goals (subst h; simp)
  | const v =>
    exfalso
    simp only [opd, ofV_refs, List.not_mem_nil] at h
  | _ => simp [opd, refs1, refsL] at h
theorem content_eq {d : D} (h : ∀ id ∈ refsL d, get s' (2 * id + 1) = get s (2 * id + 1)) : content s' d = content s d := by
  cases d <;> first | rfl | skip
  rename_i id st
  simp only [content, h id (by simp [refsL])]
theorem tail_eq {t : Ty} {d : D} (h : ∀ id ∈ refsL d, get s' (2 * id + 1) = get s (2 * id + 1)) : tail s' t d = tail s t d := by
  unfold tail
  split <;> first | rfl | skip
  rw [content_eq h]

theorem aMove_eq {x : Operand} (h : ∀ k ∈ shallowXs [x], get s' k = get s k) : aMove E o s' x = aMove E o s x := by
  have e6 : aMove6 o s' x = aMove6 o s x := by
    have e1 := opd_eq h
    cases x with
    | tmp t =>
      have e2 : get s' (2 * t) = get s (2 * t) := e1
      simp only [aMove6, e2, srcU_eq _ _ h, e1]
    | _ => simp only [aMove6, srcU_eq _ _ h, e1]
  simp only [aMove, aMove0, e6, opd_eq h, srcU_eq _ _ h]
theorem aMove9_eq {x : Operand} (h : ∀ k ∈ shallowXs [x], get s' k = get s k) (hd : ∀ t, o.dst = some t → get s' (2 * t + 1) = get s (2 * t + 1)) : aMove9 E o s' x = aMove9 E o s x := by
  unfold aMove9
  cases ho : o.dst with
  | none => rfl
  | some t => simp only [opd_eq h, srcU_eq _ _ h, hd t ho]
theorem aNilCheck_eq {x : Operand} (h : ∀ k ∈ shallowXs [x], get s' k = get s k) : aNilCheck o s' x = aNilCheck o s x := by
  simp only [aNilCheck, opd_eq h]
theorem aUn_eq {op : UnOp} {x : Operand} (h : ∀ k ∈ shallowXs [x], get s' k = get s k) : aUn o s' op x = aUn o s op x := by
  simp only [aUn, opd_eq h]
theorem aBin_eq {op : BinOp} {T : Nat} {x y : Operand} (h : ∀ k ∈ shallowXs [x], get s' k = get s k) (h2 : ∀ k ∈ shallowXs [y], get s' k = get s k) : aBin E o s' op T x y = aBin E o s op T x y := by
  simp only [aBin, opd_eq h, opd_eq h2]
theorem aFieldAddr_eq {T f : Nat} {x : Operand} (h : ∀ k ∈ shallowXs [x], get s' k = get s k) : aFieldAddr E o s' T x f = aFieldAddr E o s T x f := by
  simp only [aFieldAddr, opd_eq h]
theorem aField_eq {T f : Nat} {x : Operand} (h : ∀ k ∈ shallowXs [x], get s' k = get s k) : aField E o s' T x f = aField E o s T x f := by
  simp only [aField, opd_eq h, srcU_eq _ _ h]
theorem aMakeFunc_eq {fn : Fn} {first caps : List Operand} (h : ∀ x ∈ caps, ∀ k ∈ shallowXs [x], get s' k = get s k) : aMakeFunc o s' fn first caps = aMakeFunc o s fn first caps := by
  unfold aMakeFunc
  split
  · rename_i x
    rw [opd_eq (h x (by simp))]
  · rfl
theorem aExtract_eq {i : Nat} {x : Operand} (h : ∀ k ∈ shallowXs [x], get s' k = get s k) : aExtract o s' x i = aExtract o s x i := by
  simp only [aExtract, opd_eq h]
theorem aMakeSlice_eq {T : Nat} {x y : Operand} (h : ∀ k ∈ shallowXs [x], get s' k = get s k) (h2 : ∀ k ∈ shallowXs [y], get s' k = get s k) : aMakeSlice E o s' T x y = aMakeSlice E o s T x y := by
  simp only [aMakeSlice, opd_eq h, opd_eq h2]
theorem aAssign_eq {x : Operand} (h : ∀ k ∈ shallowXs [x], get s' k = get s k) (hd : ∀ t, o.dst = some t → get s' (2 * t + 1) = get s (2 * t + 1)) : aAssign E o s' x = aAssign E o s x := by
  cases ho : o.dst with
  | none =>
    simp only [aAssign, opd_eq h, srcU_eq _ _ h, ho]
    generalize retype (tyOf E o.type) (opd s x) = d
    cases d <;> rfl
  | some t =>
    simp only [aAssign, opd_eq h, srcU_eq _ _ h, ho]
    generalize retype (tyOf E o.type) (opd s x) = d
    cases d <;> first | rfl | simp only [hd t ho]
theorem aAlloc_eq {T : Nat} (hd : ∀ t, o.dst = some t → get s' (2 * t + 1) = get s (2 * t + 1)) : aAlloc E o s' T = aAlloc E o s T := by
  cases ho : o.dst with
  | none =>
    simp only [aAlloc, ho]
    cases E.T T <;> rfl
  | some t =>
    simp only [aAlloc, ho]
    cases E.T T <;> first | rfl | simp only [hd t ho]
theorem aBox_eq {T : Nat} {x : Operand} (h : ∀ k ∈ shallowXs [x], get s' k = get s k) (hd : ∀ t, o.dst = some t → get s' (2 * t + 1) = get s (2 * t + 1)) : aBox E o s' T x = aBox E o s T x := by
  cases ho : o.dst with
  | none =>
    simp only [aBox, opd_eq h, srcU_eq _ _ h, ho]
    cases E.T T <;> rfl
  | some t =>
    simp only [aBox, opd_eq h, srcU_eq _ _ h, ho]
    cases E.T T <;> first | rfl | simp only [hd t ho]

theorem aLoad_eq {T : Nat} {x : Operand} (h : ∀ k ∈ shallowXs [x], get s' k = get s k) (hb : ∀ id ∈ refsL (opd s x), get s' (2 * id + 1) = get s (2 * id + 1))
    (hd : ∀ t, o.dst = some t → get s' (2 * t + 1) = get s (2 * t + 1)) : aLoad E o s' T x = aLoad E o s T x := by
  have hd' : ∀ t, o.dst = some t → curSt (get s' (2 * t + 1)) = curSt (get s (2 * t + 1)) := fun t ht => by rw [hd t ht]
  unfold aLoad
  rw [opd_eq h]
  cases E.T T with
  | none => rfl
  | some i =>
    simp only
    cases hx : opd s x <;> first | rfl | skip
    · rename_i id st off
      rw [hx] at hb
      simp only [hb id (by simp [refsL])]
      cases get s (2 * id + 1) <;> first | rfl | skip
      · rename_i st' live cs
        cases live <;> first | rfl | skip
        dsimp only
        generalize (List.take i.size (List.drop off cs)) = ds
        generalize tag E o = tg
        match tg with
        | 0 => rfl
        | 1 => rfl
        | 2 => rfl
        | n + 4 => rfl
        | 3 =>
          match ds with
          | [] => rfl
          | [d] =>
            cases ho : o.dst with
            | none => cases d <;> rfl
            | some t => cases d <;> first | rfl | (simp only [hd' t ho]; try rfl)
          | d :: _ :: _ => cases d <;> rfl
      · rename_i st' live ar t l
        cases live <;> cases ar <;> rfl
    · rename_i id st i0 off es
      rw [hx] at hb
      simp only [hb id (by simp [refsL])]
end
end Go.Abs

namespace Go.Abs
section
variable {E : Env} {s s' : St} {o : Oper}

theorem aStore0_eq {T : Nat} {a x : Operand} (ha : ∀ k ∈ shallowXs [a], get s' k = get s k) (h : ∀ k ∈ shallowXs [x], get s' k = get s k)
    (hb : ∀ id ∈ refsL (opd s a), get s' (2 * id + 1) = get s (2 * id + 1)) : aStore0 E o s' T a x = aStore0 E o s T a x := by
  unfold aStore0
  rw [opd_eq h, opd_eq ha]
  cases E.T T with
  | none => rfl
  | some i =>
    simp only [srcU_eq _ _ h]
    cases hx : opd s a <;> first | rfl | skip
    · rename_i id st off
      rw [hx] at hb
      simp only [hb id (by simp [refsL])]
    · rename_i id st i0 off es
      rw [hx] at hb
      simp only [hb id (by simp [refsL])]

theorem aStore_eq {T : Nat} {a x : Operand} (ha : ∀ k ∈ shallowXs [a], get s' k = get s k) (h : ∀ k ∈ shallowXs [x], get s' k = get s k)
    (hb : ∀ id ∈ refsL (opd s a), get s' (2 * id + 1) = get s (2 * id + 1)) : aStore E o s' T a x = aStore E o s T a x := by
  have hav : ∀ k l, aStoreAv E s' T a k l = aStoreAv E s T a k l := by
    intro k l
    unfold aStoreAv
    rw [opd_eq ha]
    cases E.T T with
    | none => rfl
    | some i =>
      cases hx : opd s a <;> first | rfl | skip
      rename_i id st off
      rw [hx] at hb
      simp only [hb id (by simp [refsL])]
  unfold aStore
  rw [opd_eq h, aStore0_eq ha h hb]
  simp only [hav]

theorem bound_eq {x : Option Operand} {z : Nat} (h : ∀ y, x = some y → ∀ k ∈ shallowXs [y], get s' k = get s k) : bound s' x z = bound s x z := by
  cases x with
  | none => rfl
  | some y => simp only [bound, opd_eq (h y rfl)]

theorem aSlice_eq {T : Nat} {x : Operand} {lo hi : Option Operand} (h : ∀ k ∈ shallowXs [x], get s' k = get s k) (h1 : ∀ y, lo = some y → ∀ k ∈ shallowXs [y], get s' k = get s k)
    (h2 : ∀ y, hi = some y → ∀ k ∈ shallowXs [y], get s' k = get s k) : aSlice E o s' T x lo hi = aSlice E o s T x lo hi := by
  simp only [aSlice, opd_eq h, bound_eq h1, bound_eq h2, srcU_eq _ _ h]

theorem aSlice3_eq {T : Nat} {x : Operand} {lo : Option Operand} {hi mx : Operand} (h : ∀ k ∈ shallowXs [x], get s' k = get s k) (h1 : ∀ y, lo = some y → ∀ k ∈ shallowXs [y], get s' k = get s k)
    (h2 : ∀ k ∈ shallowXs [hi], get s' k = get s k) (h3 : ∀ k ∈ shallowXs [mx], get s' k = get s k) : aSlice3 E o s' T x lo hi mx = aSlice3 E o s T x lo hi mx := by
  have e1 : ∀ z, bound s' (some hi) z = bound s (some hi) z := fun _ => bound_eq (s := s) (s' := s') (x := some hi) (fun y hy => by cases hy; exact h2)
  have e2 : ∀ z, bound s' (some mx) z = bound s (some mx) z := fun _ => bound_eq (s := s) (s' := s') (x := some mx) (fun y hy => by cases hy; exact h3)
  simp only [aSlice3, opd_eq h, bound_eq h1, e1, e2, srcU_eq _ _ h]

theorem aSliceR_eq {T : Nat} {x : Operand} {lo hi : Option Operand} (h : ∀ k ∈ shallowXs [x], get s' k = get s k)
    (h2 : ∀ y, hi = some y → ∀ k ∈ shallowXs [y], get s' k = get s k) (hb : ∀ id ∈ refsL (opd s x), get s' (2 * id + 1) = get s (2 * id + 1)) : aSliceR E o s' T x lo hi = aSliceR E o s T x lo hi := by
  unfold aSliceR
  rw [opd_eq h]
  simp only [bound_eq h2]
  cases E.T T with
  | none => rfl
  | some i =>
    cases lo with
    | some y => cases opd s x <;> rfl
    | none =>
      cases hx : opd s x with
      | rsl id st =>
        rw [hx] at hb
        simp only [hb id (by simp [refsL])]
      | _ => rfl

theorem aIndexAddr_eq {T : Nat} {x i : Operand} (h : ∀ k ∈ shallowXs [x], get s' k = get s k) (h1 : ∀ k ∈ shallowXs [i], get s' k = get s k)
    (hb : ∀ id ∈ refsL (opd s x), get s' (2 * id + 1) = get s (2 * id + 1)) : aIndexAddr E o s' T x i = aIndexAddr E o s T x i := by
  simp only [aIndexAddr, opd_eq h, opd_eq h1, srcU_eq _ _ h]
  cases hx : opd s x <;> first | rfl | skip
  · rename_i id st off
    rw [hx] at hb
    simp only [hb id (by simp [refsL])]
  · rename_i id st
    rw [hx] at hb
    simp only [hb id (by simp [refsL])]
  · rename_i id st n
    rw [hx] at hb
    simp only [hb id (by simp [refsL])]

theorem aIndex_eq {T : Nat} {x i : Operand} (h : ∀ k ∈ shallowXs [x], get s' k = get s k) (h1 : ∀ k ∈ shallowXs [i], get s' k = get s k) : aIndex E o s' T x i = aIndex E o s T x i := by
  simp only [aIndex, opd_eq h, opd_eq h1]

theorem aConv_eq {T U : Nat} {x : Operand} (h : ∀ k ∈ shallowXs [x], get s' k = get s k)
    (hb : ∀ id ∈ refsL (opd s x), get s' (2 * id + 1) = get s (2 * id + 1)) : aConv E o s' T U x = aConv E o s T U x := by
  have hc := content_eq hb
  unfold aConv
  rw [opd_eq h]
  cases E.T T with
  | none => rfl
  | some a =>
    cases E.T U with
    | none => rfl
    | some b =>
      dsimp only
      generalize opd s x = d at hc
      split <;> first | rfl | (rw [hc])

theorem lenD_eq {T : Nat} {d : D} (hb : ∀ id ∈ refsL d, get s' (2 * id + 1) = get s (2 * id + 1)) : lenD E s' T d = lenD E s T d := by
  have hc := content_eq hb
  unfold lenD
  cases E.T T with
  | none => rfl
  | some a =>
    dsimp only
    split <;> first | rfl | (rw [hc])

theorem aAppend_eq {T : Nat} {x y : Operand} (h : ∀ k ∈ shallowXs [x], get s' k = get s k) (h1 : ∀ k ∈ shallowXs [y], get s' k = get s k)
    (hb : ∀ id ∈ refsL (opd s x), get s' (2 * id + 1) = get s (2 * id + 1)) (hb1 : ∀ id ∈ refsL (opd s y), get s' (2 * id + 1) = get s (2 * id + 1)) :
    aAppend E o s' T x y = aAppend E o s T x y := by
  unfold aAppend
  rw [opd_eq h, opd_eq h1]
  simp only [tail_eq hb1]
  cases hx : opd s x <;> first | rfl | skip
  rename_i id st
  rw [hx] at hb
  simp only [hb id (by simp [refsL])]

theorem aCopy_eq {T : Nat} {x y : Operand} (h : ∀ k ∈ shallowXs [x], get s' k = get s k) (h1 : ∀ k ∈ shallowXs [y], get s' k = get s k)
    (hb : ∀ id ∈ refsL (opd s x), get s' (2 * id + 1) = get s (2 * id + 1)) (hb1 : ∀ id ∈ refsL (opd s y), get s' (2 * id + 1) = get s (2 * id + 1)) :
    aCopy E o s' T x y = aCopy E o s T x y := by
  unfold aCopy
  rw [opd_eq h, opd_eq h1]
  simp only [tail_eq hb1]
  cases hx : opd s x <;> first | rfl | skip
  rename_i id st
  rw [hx] at hb
  simp only [hb id (by simp [refsL])]

theorem mapOpd_eq : ∀ {xs : List Operand}, (∀ k ∈ shallowXs xs, get s' k = get s k) → xs.map (opd s') = xs.map (opd s)
  | [], _ => rfl
  | x :: r, h => by
    rw [List.map_cons, List.map_cons, opd_eq fun k hk => h k (shallow_mem List.mem_cons_self k hk), mapOpd_eq fun k hk => h k ?_]
    cases x with
    | tmp t => simp only [shallowXs, List.mem_cons]; exact .inr hk
    | _ => simpa only [shallowXs] using hk

theorem aMin_eq {lt : Int → Int → Bool} {xs : List Operand} (h : ∀ k ∈ shallowXs xs, get s' k = get s k) : aMin o s' lt xs = aMin o s lt xs := by
  simp only [aMin, mapOpd_eq h]

structure Agree (s s' : St) (xs : List Operand) : Prop where
  sh : ∀ k ∈ shallowXs xs, get s' k = get s k
  bx : ∀ x ∈ xs, ∀ id ∈ refs1 (opd s x), get s' (2 * id + 1) = get s (2 * id + 1)

theorem Agree.one {xs : List Operand} (h : Agree s s' xs) {x : Operand} (hx : x ∈ xs) : ∀ k ∈ shallowXs [x], get s' k = get s k :=
  fun k hk => h.sh k (shallow_mem hx k hk)

theorem Agree.bxL {xs : List Operand} (h : Agree s s' xs) {x : Operand} (hx : x ∈ xs) : ∀ id ∈ refsL (opd s x), get s' (2 * id + 1) = get s (2 * id + 1) :=
  fun id hid => h.bx x hx id (refsL_sub hid)

theorem aBuiltin_eq {b : Builtin} {xs : List Operand} {ts : List Nat} (h : Agree s s' xs) : aBuiltin E o s' b xs ts = aBuiltin E o s b xs ts := by
  unfold aBuiltin
  split <;> first | rfl | skip
  · rw [opd_eq (h.one (by simp)), lenD_eq (h.bxL (by simp))]
  · rw [aAppend_eq (h.one (by simp)) (h.one (by simp)) (h.bxL (by simp)) (h.bxL (by simp))]
  · rw [aCopy_eq (h.one (by simp)) (h.one (by simp)) (h.bxL (by simp)) (h.bxL (by simp))]
  · rw [aMin_eq h.sh]
  · rw [aMin_eq h.sh]

theorem placeAll_eq {pl : Nat → Option (Nat × Nat)} {f : D → D} : ∀ {ps : List (Nat × Operand)} {cs : List D}, (∀ p ∈ ps, ∀ k ∈ shallowXs [p.2], get s' k = get s k) →
    placeAll pl s' f cs ps = placeAll pl s f cs ps
  | [], _, _ => rfl
  | (j, x) :: r, cs, h => by
    simp only [placeAll]
    rw [opd_eq (h (j, x) (by simp))]
    cases pl j with
    | none => rfl
    | some q =>
      have hr : ∀ cs, placeAll pl s' f cs r = placeAll pl s f cs r := fun cs => placeAll_eq fun p hp => h p (List.mem_cons_of_mem _ hp)
      simp only [hr]

theorem srcAll_eq {f : D → D} {g : D → Bool} : ∀ {ps : List (Nat × Operand)}, (∀ p ∈ ps, ∀ k ∈ shallowXs [p.2], get s' k = get s k) →
    srcAll s' f g ps = srcAll s f g ps
  | [], _ => rfl
  | (j, x) :: r, h => by
    simp only [srcAll]
    rw [srcU_eq f g (h (j, x) (by simp)), srcAll_eq fun p hp => h p (List.mem_cons_of_mem _ hp)]

theorem noDup_eq : ∀ {ps : List (Nat × Operand)}, (∀ p ∈ ps, ∀ k ∈ shallowXs [p.2], get s' k = get s k) → noDup s' ps = noDup s ps
  | [], _ => rfl
  | (j, x) :: r, h => by
    have hr := noDup_eq (ps := r) fun p hp => h p (List.mem_cons_of_mem _ hp)
    cases x with
    | tmp t =>
      simp only [noDup, hr]
      rw [h (j, .tmp t) (by simp) (2 * t) (by simp [shallowXs])]
    | _ => simp only [noDup, hr]

theorem aBuild_eq {T : Nat} {ps : List (Nat × Operand)} (h : ∀ p ∈ ps, ∀ k ∈ shallowXs [p.2], get s' k = get s k) : aBuild E o s' T ps = aBuild E o s T ps := by
  simp only [aBuild, placeAll_eq h, srcAll_eq h, noDup_eq h]
theorem aBuildBox_eq {T n : Nat} {ps : List (Nat × Operand)} (h : ∀ p ∈ ps, ∀ k ∈ shallowXs [p.2], get s' k = get s k) (hd : ∀ t, o.dst = some t → get s' (2 * t + 1) = get s (2 * t + 1)) :
    aBuildBox E o s' T n ps = aBuildBox E o s T n ps := by
  cases ho : o.dst with
  | none =>
    simp only [aBuildBox, placeAll_eq h, srcAll_eq h, ho]
    cases E.T T <;> rfl
  | some t =>
    simp only [aBuildBox, placeAll_eq h, srcAll_eq h, ho]
    cases E.T T <;> first | rfl | simp only [hd t ho]
theorem aBuildSlice_eq {T n : Nat} {ps : List (Nat × Operand)} (h : ∀ p ∈ ps, ∀ k ∈ shallowXs [p.2], get s' k = get s k) : aBuildSlice E o s' T n ps = aBuildSlice E o s T n ps := by
  simp only [aBuildSlice, placeAll_eq h, srcAll_eq h]

theorem argS_eq {l : Lf} {d : D} (hb : ∀ id ∈ refsL d, get s' (2 * id + 1) = get s (2 * id + 1)) : l.argS s' d = l.argS s d := by
  unfold Lf.argS
  split <;> first | rfl | (rw [hb _ (by simp only [refsL, List.mem_cons, List.not_mem_nil, or_false])])
theorem lfArgS_eq : ∀ {ls : List Lf} {ds : List D}, (∀ id ∈ refsLs ds, get s' (2 * id + 1) = get s (2 * id + 1)) → lfArgS s' ls ds = lfArgS s ls ds
  | [], [], _ => rfl
  | [], _ :: _, _ => rfl
  | _ :: _, [], _ => rfl
  | l :: r, d :: ds, h => by
    simp only [lfArgS]
    rw [argS_eq (fun id hid => h id (by simp only [refsLs, List.mem_append]; exact .inl hid)), lfArgS_eq (fun id hid => h id (by simp only [refsLs, List.mem_append]; exact .inr hid))]
theorem arg_eq {p : Sh} {d : D} (hb : ∀ id ∈ refs1 d, get s' (2 * id + 1) = get s (2 * id + 1)) : p.arg s' d = p.arg s d := by
  cases p with
  | lf l =>
    simp only [Sh.arg]
    exact argS_eq fun id hid => hb id (refsL_sub hid)
  | agg ls =>
    cases d with
    | agg cs =>
      simp only [Sh.arg]
      exact lfArgS_eq hb
    | _ => rfl
  | _ => rfl

theorem argG_eq {p : Sh} {d : D} (hb : ∀ id ∈ refs1 d, get s' (2 * id + 1) = get s (2 * id + 1)) : p.argG s' d = p.argG s d := by
  unfold Sh.argG
  rw [arg_eq hb]

theorem argsIn_eq : ∀ {ps : List Sh} {xs : List Operand}, Agree s s' xs → argsIn s' ps xs = argsIn s ps xs
  | [], [], _ => rfl
  | [], _ :: _, _ => rfl
  | _ :: _, [], _ => rfl
  | p :: r, x :: xs, h => by
    have h1 : Agree s s' xs := ⟨fun k hk => h.sh k (by cases x <;> simp only [shallowXs, List.mem_cons] <;> first | exact .inr hk | exact hk), fun y hy => h.bx y (List.mem_cons_of_mem _ hy)⟩
    simp only [argsIn]
    rw [opd_eq (h.one List.mem_cons_self), argG_eq (h.bx x List.mem_cons_self), argsIn_eq h1]

theorem lent_eq : ∀ {xs : List Operand}, (∀ x ∈ xs, ∀ k ∈ shallowXs [x], get s' k = get s k) → lent s' xs = lent s xs
  | [], _ => rfl
  | x :: r, h => by
    simp only [lent]
    rw [opd_eq (h x (by simp)), lent_eq fun y hy => h y (List.mem_cons_of_mem _ hy)]

theorem retU_eq {rs : RS} {x : rs.ty.den} (hd : ∀ t, o.dst = some t → get s' (2 * t + 1) = get s (2 * t + 1)) : retU o s' rs x = retU o s rs x := by
  cases rs with
  | newp ls =>
    simp only [retU]
    cases ho : o.dst with
    | none => rfl
    | some t => simp only [hd t ho]
  | _ => rfl

theorem sharesOf_eq {xs : List Operand} (h : ∀ x ∈ xs, ∀ k ∈ shallowXs [x], get s' k = get s k) : sharesOf s' xs = sharesOf s xs := by
  unfold sharesOf
  refine srcAll_eq fun p hp => ?_
  obtain ⟨x, hx, rfl⟩ := List.mem_map.1 hp
  exact h x hx

theorem mem_viewsOf : ∀ {ps : List Sh} {xs : List Operand} {x : Operand}, x ∈ viewsOf ps xs → x ∈ xs
  | [], _, _, h => by simp [viewsOf] at h
  | _ :: _, [], _, h => by simp [viewsOf] at h
  | p :: ps, x :: xs, y, h => by
    simp only [viewsOf] at h
    cases hp : ownSh p with
    | true =>
      rw [hp] at h
      exact List.mem_cons_of_mem _ (mem_viewsOf h)
    | false =>
      rw [hp] at h
      simp only [cond_false, List.mem_cons] at h
      rcases h with h | h
      · exact List.mem_cons.2 (.inl h)
      · exact List.mem_cons_of_mem _ (mem_viewsOf h)
theorem passU_eq {nv : Bool} {ps : List Sh} {xs : List Operand} (h : ∀ x ∈ xs, ∀ k ∈ shallowXs [x], get s' k = get s k) : passU nv s' ps xs = passU nv s ps xs := by
  unfold passU
  rw [sharesOf_eq fun y hy => h y (mem_viewsOf hy)]

theorem callU0_eq {c : Con} {xs : List Operand} (h : Agree s s' xs) (hd : ∀ t, o.dst = some t → get s' (2 * t + 1) = get s (2 * t + 1)) : callU0 E c o s' xs = callU0 E c o s xs := by
  have tl : ∀ {x : Operand} {ys : List Operand}, xs = x :: ys → Agree s s' ys := by
    intro x ys he
    subst he
    exact ⟨fun k hk => h.sh k (by cases x <;> simp only [shallowXs, List.mem_cons] <;> first | exact .inr hk | exact hk), fun y hy => h.bx y (List.mem_cons_of_mem _ hy)⟩
  unfold callU0
  split
  · rename_i x ys hc
    have h2 := tl rfl
    rw [opd_eq (h.one List.mem_cons_self)]
    cases hx : opd s x <;> first | rfl | skip
    rename_i id st off
    have hb := h.bx x List.mem_cons_self id (by rw [hx]; simp [refs1, refsL])
    simp only [hb, lent_eq fun y hy => h2.one hy, argsIn_eq h2, passU_eq fun y hy => h2.one hy, retU_eq hd]
  · simp only [lent_eq fun y hy => h.one hy, argsIn_eq h, passU_eq fun y hy => h.one hy, retU_eq hd]
  · rfl
theorem callU_eq {c : Con} {xs : List Operand} (h : Agree s s' xs) (hd : ∀ t, o.dst = some t → get s' (2 * t + 1) = get s (2 * t + 1)) : callU E c o s' xs = callU E c o s xs := by
  unfold callU
  split
  · rename_i x hx
    have hm : xs.map (opdX s') = xs.map (opdX s) := by
      refine List.map_congr_left fun y hy => ?_
      unfold opdX
      rw [opd_eq (h.one hy)]
      have hb := h.bx y hy
      congr 1
      cases hd : opd s y <;> first | rfl | skip
      · rw [hd] at hb
        exact hb _ (by simp [refs1, refsL])
      · rw [hd] at hb
        exact hb _ (by simp [refs1, refsL])
    unfold callX
    rw [hm]
    cases ho : o.dst with
    | none => rfl
    | some t => simp only [hd t ho]
  · exact callU0_eq h hd
end
end Go.Abs

namespace Go.Abs
section
variable {E : Env} {s s' : St} {o : Oper}

theorem odd_ne (a b : Nat) : ¬ 2 * a + 1 = 2 * b := by omega
theorem dbl_ne {a b : Nat} (h : ¬ a = b) : ¬ 2 * a = 2 * b := by omega
structure Agr (o : Oper) (s s' : St) : Prop where
  sh : ∀ x ∈ o.op.operands.toList, ∀ k ∈ shallowXs [x], get s' k = get s k
  bx : deep o.op = true → ∀ x ∈ o.op.operands.toList, ∀ id ∈ refs1 (opd s x), get s' (2 * id + 1) = get s (2 * id + 1)
  dt : ∀ t, o.dst = some t → get s' (2 * t + 1) = get s (2 * t + 1)

theorem act_eq (h : Agr o s s') : act E o s' = act E o s := by
  obtain ⟨h1, h2', h3⟩ := h
  have h2 : deep o.op = true → ∀ x ∈ o.op.operands.toList, ∀ id ∈ refsL (opd s x), get s' (2 * id + 1) = get s (2 * id + 1) := fun hd x hx id hid => h2' hd x hx id (refsL_sub hid)
  unfold act
  split <;> (try (rename_i hop; rw [hop] at h1 h2 h2'; simp only [Op.operands, deep] at h1 h2 h2'))
  · rw [aMove9_eq (h1 _ (by simp)) h3, aMove_eq (h1 _ (by simp))]
  · exact aAssign_eq (h1 _ (by simp)) h3
  · exact aAlloc_eq h3
  · exact aBox_eq (h1 _ (by simp)) h3
  · exact aBuild_eq fun p hp => h1 _ (by simp only [List.mem_map]; exact ⟨p, hp, rfl⟩)
  · rw [aBuildBox_eq (fun p hp => h1 _ (by simp only [List.mem_map]; exact ⟨p, hp, rfl⟩)) h3, aBuildSlice_eq fun p hp => h1 _ (by simp only [List.mem_map]; exact ⟨p, hp, rfl⟩)]
  · exact aLoad_eq (h1 _ (by simp)) (h2 trivial _ (by simp)) h3
  · exact aStore_eq (h1 _ (by simp)) (h1 _ (by simp)) (h2 trivial _ (by simp))
  · exact aNilCheck_eq (h1 _ (by simp))
  · exact aBin_eq (h1 _ (by simp)) (h1 _ (by simp))
  · exact aUn_eq (h1 _ (by simp))
  · exact aConv_eq (h1 _ (by simp)) (h2 trivial _ (by simp))
  · exact aMakeSlice_eq (h1 _ (by simp)) (h1 _ (by simp))
  · rw [opd_eq (h1 _ (by simp))]
    split
    · exact aSliceR_eq (h1 _ (by simp)) (fun y hy => h1 _ (by simp [hy])) (h2 trivial _ (by simp))
    · exact aSlice_eq (h1 _ (by simp)) (fun y hy => h1 _ (by simp [hy])) (fun y hy => h1 _ (by simp [hy]))
  · exact aSlice3_eq (h1 _ (by simp)) (fun y hy => h1 _ (by simp [hy])) (h1 _ (by simp)) (h1 _ (by simp))
  · exact aFieldAddr_eq (h1 _ (by simp))
  · exact aField_eq (h1 _ (by simp))
  · exact aIndexAddr_eq (h1 _ (by simp)) (h1 _ (by simp)) (h2 trivial _ (by simp))
  · exact aIndex_eq (h1 _ (by simp)) (h1 _ (by simp))
  · exact aExtract_eq (h1 _ (by simp))
  · exact aMakeFunc_eq fun x hx => h1 x (by simp only [Array.toList_append, List.mem_append]; exact .inr hx)
  · rename_i c
    split <;> first | rfl | skip
    rename_i b hb
    refine aBuiltin_eq ⟨?_, ?_⟩
    · intro k hk
      obtain ⟨x, hx, hkx⟩ : ∃ x ∈ c.args.toList, k ∈ shallowXs [x] := by
        generalize c.args.toList = l at hk
        clear h1 h2 h2' h3
        induction l with
        | nil => simp [shallowXs] at hk
        | cons y r ih =>
          cases y with
          | tmp t =>
            simp only [shallowXs, List.mem_cons] at hk
            rcases hk with hk | hk
            · exact ⟨.tmp t, by simp, by simp [shallowXs, hk]⟩
            · obtain ⟨x, hx, hkx⟩ := ih hk
              exact ⟨x, by simp [hx], hkx⟩
          | _ =>
            simp only [shallowXs] at hk
            obtain ⟨x, hx, hkx⟩ := ih hk
            exact ⟨x, by simp [hx], hkx⟩
      exact h1 x (by simp only [Call.operands, Array.toList_append, List.mem_append]; exact .inr hx) k hkx
    · intro x hx
      exact h2' trivial x (by simp only [Call.operands, Array.toList_append, List.mem_append]; exact .inr hx)
  · rfl

theorem rowPtr_eq {x : Operand} (h : ∀ k ∈ shallowXs [x], get s' k = get s k) (hb : ∀ id ∈ refsL (opd s x), get s' (2 * id + 1) = get s (2 * id + 1)) : rowPtr s' x = rowPtr s x := by
  unfold rowPtr
  rw [opd_eq h]
  cases hx : opd s x <;> first | rfl | skip
  rename_i id st off
  simp only [hb id (by rw [hx]; simp [refsL])]

theorem needsG_eq (h : Agr o s s') : needsG o s' = needsG o s := by
  obtain ⟨h1, h2', _⟩ := h
  have h2 : deep o.op = true → ∀ x ∈ o.op.operands.toList, ∀ id ∈ refsL (opd s x), get s' (2 * id + 1) = get s (2 * id + 1) := fun hd x hx id hid => h2' hd x hx id (refsL_sub hid)
  unfold needsG
  split <;> (try (rename_i hop; rw [hop] at h1 h2; simp only [Op.operands, deep] at h1 h2))
  · split <;> first | rfl | skip
    rw [opd_eq (h1 _ (by simp))]
  · exact rowPtr_eq (h1 _ (by simp)) (h2 trivial _ (by simp))
  · exact rowPtr_eq (h1 _ (by simp)) (h2 trivial _ (by simp))
  · rw [opd_eq (h1 _ (by simp))]
  · rfl
  · rfl
  · rw [opd_eq (h1 _ (by simp))]
  · rw [opd_eq (h1 _ (by simp))]
  · rfl
  · rfl

theorem guarded_eq (h : Agr o s s') : guarded o s' (actS E o s') = guarded o s (actS E o s) := by
  simp only [actS, act_eq h, guarded, needsG_eq h]

theorem shallow_one : ∀ {l : List Operand} {k : Nat}, k ∈ shallowXs l → ∃ x ∈ l, k ∈ shallowXs [x]
  | y :: r, k, hk => by
    cases y with
    | tmp t =>
      simp only [shallowXs, List.mem_cons] at hk
      rcases hk with hk | hk
      · exact ⟨.tmp t, by simp, by simp [shallowXs, hk]⟩
      · obtain ⟨x, hx, hkx⟩ := shallow_one hk
        exact ⟨x, by simp [hx], hkx⟩
    | _ =>
      simp only [shallowXs] at hk
      obtain ⟨x, hx, hkx⟩ := shallow_one hk
      exact ⟨x, by simp [hx], hkx⟩

theorem get_app_congr : ∀ (u : St) {s s' : St} {k : Nat}, get s' k = get s k → get (u ++ s') k = get (u ++ s) k
  | [], _, _, _, h => h
  | (k0, d) :: r, s, s', k, h => by
    show get ((k0, d) :: (r ++ s')) k = get ((k0, d) :: (r ++ s)) k
    rw [get_cons, get_cons, get_app_congr r h]
theorem id_imp {p : Prop} : p → p := fun h => h
theorem seal_refs {s : St} {u X st : Nat} {x : Operand} {id : Nat} (hX : get s (2 * u) = .rsl X st) (h : id ∈ refs1 (opd (seal1 s (2 * u) 0 X ++ s) x)) : id ∈ refs1 (opd s x) := by
  cases x with
  | tmp t =>
    have key : get (seal1 s (2 * u) 0 X ++ s) (2 * t) = get s (2 * t) ∨ refs1 (get (seal1 s (2 * u) 0 X ++ s) (2 * t)) = [] := by
      unfold seal1
      split
      · rename_i st' t' l hb
        have ho : odd (2 * u) = false := by
          unfold odd
          rw [Nat.mul_mod_right]
          rfl
        rw [ho]
        simp only [cond_false, hX]
        cases (Nat.beq X X && Nat.beq st st') with
        | false => exact .inl rfl
        | true =>
          show get ((2 * u, _) :: (2 * X + 1, _) :: s) (2 * t) = _ ∨ refs1 (get ((2 * u, _) :: (2 * X + 1, _) :: s) (2 * t)) = []
          rw [get_cons, get_cons]
          by_cases htu : 2 * t = 2 * u
          · rw [if_pos htu]; exact .inr rfl
          · rw [if_neg htu, if_neg (fun e => odd_ne X t e.symm)]; exact .inl rfl
      · exact .inl rfl
    rcases key with k | k
    · have h : id ∈ refs1 (get (seal1 s (2 * u) 0 X ++ s) (2 * t)) := h
      rw [k] at h
      exact h
    · have h : id ∈ refs1 (get (seal1 s (2 * u) 0 X ++ s) (2 * t)) := h
      rw [k] at h
      cases h
  | _ => exact h
theorem opU_eq {Γ : Gam} {kn : Kn} (h : Agr o s s') : opU E Γ kn o s' = opU E Γ kn o s := by
  have h0 := h
  obtain ⟨h1, h2, h3⟩ := h0
  unfold opU
  split <;> (try (rename_i hop; rw [hop] at h1 h2; simp only [Op.operands, deep] at h1 h2))
  · rename_i c x y
    rw [opd_eq (h1 c (by simp)), aMove_eq (h1 x (by simp)), aMove_eq (h1 y (by simp))]
    have hm : ∀ b : Bool, aMove E o s' (bif b then x else y) = aMove E o s (bif b then x else y) := by
      intro b
      cases b
      · exact aMove_eq (h1 y (by simp))
      · exact aMove_eq (h1 x (by simp))
    simp only [hm]
  · split <;> first | rfl | skip
    · split <;> first | rfl | skip
      congr 1
      refine callU_eq ⟨fun k hk => ?_, fun x hx => h2 trivial x (by simp only [Call.operands, Array.toList_append, List.mem_append]; exact .inr hx)⟩ h3
      obtain ⟨x, hx, hkx⟩ := shallow_one hk
      exact h1 x (by simp only [Call.operands, Array.toList_append, List.mem_append]; exact .inr hx) k hkx
    · rename_i c _ x _ hf
      have hx : opd s' x = opd s x := opd_eq (h1 x (by simp only [Call.operands, hf]; simp))
      have key : ∀ con : Con, (match con.xf with | none => callU0 E con o s' c.args.toList | some _ => .fail) = (match con.xf with | none => callU0 E con o s c.args.toList | some _ => .fail) := by
        intro con
        cases hxf : con.xf with
        | none =>
          have hc : callU E con o s' c.args.toList = callU E con o s c.args.toList := by
            refine callU_eq ⟨fun k hk => ?_, fun x hx => h2 trivial x (by simp only [Call.operands, Array.toList_append, List.mem_append]; exact .inr hx)⟩ h3
            obtain ⟨x, hx, hkx⟩ := shallow_one hk
            exact h1 x (by simp only [Call.operands, Array.toList_append, List.mem_append]; exact .inr hx) k hkx
          unfold callU at hc
          rw [hxf] at hc
          exact hc
        | some _ => rfl
      rw [hx]
      cases opd s x <;> first | rfl | skip
      · rename_i f
        simp only
        cases Γ (ckey E o f) with
        | none => rfl
        | some con =>
          cases Nat.blt f 1000000 with
          | false => rfl
          | true => exact key con
      · rename_i f t v
        have hc : ∀ con : Con, callC E con o s' c.args.toList (.vptr t [v] 0 0) = callC E con o s c.args.toList (.vptr t [v] 0 0) := by
          intro con
          unfold callC
          rw [callU0_eq (s := (2 * E.n, .vptr t [v] 0 0) :: s) (s' := (2 * E.n, .vptr t [v] 0 0) :: s') ⟨fun k hk => ?_, fun y hy id hid => ?_⟩ (fun tt ht => ?_)]
          · obtain ⟨y, hy, hky⟩ := shallow_one hk
            rw [get_cons, get_cons]
            by_cases hkn : k = 2 * E.n
            · rw [if_pos hkn, if_pos hkn]
            · rw [if_neg hkn, if_neg hkn]
              rcases List.mem_append.1 hy with hy | hy
              · exact h1 y (by simp only [Call.operands, Array.toList_append, List.mem_append]; exact .inr hy) k hky
              · rw [List.mem_singleton.1 hy] at hky
                simp only [shallowXs, List.mem_cons, List.not_mem_nil, or_false] at hky
                exact absurd hky hkn
          · have ek : ¬ 2 * id + 1 = 2 * E.n := by omega
            rw [get_cons, get_cons, if_neg ek, if_neg ek]
            have hy' : opd ((2 * E.n, .vptr t [v] 0 0) :: s) y = .vptr t [v] 0 0 ∨ (y ∈ c.args.toList ∧ opd ((2 * E.n, .vptr t [v] 0 0) :: s) y = opd s y) := by
              cases y with
              | tmp u =>
                by_cases hu : u = E.n
                · left
                  subst hu
                  show get ((2 * E.n, _) :: s) (2 * E.n) = _
                  rw [get_cons, if_pos rfl]
                · right
                  rcases List.mem_append.1 hy with hy | hy
                  · refine ⟨hy, ?_⟩
                    show get ((2 * E.n, _) :: s) (2 * u) = get s (2 * u)
                    rw [get_cons, if_neg (dbl_ne hu)]
                  · have := List.mem_singleton.1 hy
                    injection this with this
                    exact absurd this hu
              | _ =>
                right
                rcases List.mem_append.1 hy with hy | hy
                · exact ⟨hy, rfl⟩
                · cases List.mem_singleton.1 hy
            rcases hy' with he | ⟨hm, he⟩
            · rw [he] at hid
              simp [refs1, refsL] at hid
            · rw [he] at hid
              exact h2 trivial y (by simp only [Call.operands, Array.toList_append, List.mem_append]; exact .inr hm) id hid
          · have ek : ¬ 2 * tt + 1 = 2 * E.n := odd_ne _ _
            rw [get_cons, get_cons, if_neg ek, if_neg ek]
            exact h3 tt ht
        simp only
        cases Γ (ckey E o f) with
        | none => rfl
        | some con =>
          simp only [hc]
    · rename_i c _ _ _
      have h2' : ∀ x ∈ c.args.toList, ∀ id ∈ refs1 (opd s x), get s' (2 * id + 1) = get s (2 * id + 1) := fun x hx => h2 trivial x (by simp only [Call.operands, Array.toList_append, List.mem_append]; exact .inr hx)
      have h1' : ∀ x ∈ c.args.toList, ∀ k ∈ shallowXs [x], get s' k = get s k := fun x hx => h1 x (by simp only [Call.operands, Array.toList_append, List.mem_append]; exact .inr hx)
      have hp : preSeal E o s' c.args.toList = preSeal E o s c.args.toList := by
        unfold preSeal
        cases Nat.beq (tag E o) 10 with
        | false => rfl
        | true =>
          simp only [cond_true]
          generalize c.args.toList = l at h1' h2'
          cases l with
          | nil => rfl
          | cons x r =>
            cases x <;> first | rfl | skip
            rename_i u
            have hu : get s' (2 * u) = get s (2 * u) := h1' (.tmp u) List.mem_cons_self _ (by simp [shallowXs])
            simp only [hu]
            cases hx : get s (2 * u) <;> first | rfl | skip
            rename_i X st
            have hX : get s' (2 * X + 1) = get s (2 * X + 1) := h2' (.tmp u) List.mem_cons_self X (by
              show X ∈ refs1 (get s (2 * u))
              rw [hx]
              simp [refs1, refsL])
            unfold seal1
            simp only [hX, hx, hu]
      unfold guardedS
      rw [hp]
      have hA : Agr o (preSeal E o s c.args.toList ++ s) (preSeal E o s c.args.toList ++ s') := by
        refine ⟨fun x hx k hk => get_app_congr _ (h.sh x hx k hk), fun hd x hx id hid => get_app_congr _ ?_, fun t ht => get_app_congr _ (h.dt t ht)⟩
        refine h.bx hd x hx id ?_
        revert hid
        unfold preSeal
        cases Nat.beq (tag E o) 10 with
        | false => exact id_imp
        | true =>
          simp only [cond_true]
          split
          · rename_i u _
            split
            · rename_i X st hX
              intro hid
              exact seal_refs hX hid
            · exact id_imp
          · exact id_imp
      rw [guarded_eq hA]
  · exact guarded_eq h

theorem readsX_mem {x : Operand} {k : Nat} : ∀ {xs : List Operand}, x ∈ xs → k ∈ readsX s x → k ∈ readsXs s xs
  | y :: r, h, hk => by
    simp only [readsXs, List.mem_append]
    rcases List.mem_cons.1 h with rfl | h
    · exact .inl hk
    · exact .inr (readsX_mem h hk)

theorem agr_of {all : List Oper} (h : ∀ k ∈ reads all o s, get s' k = get s k) : Agr o s s' := by
  simp only [reads, List.mem_append] at h
  refine ⟨fun x hx k hk => h k (.inr (.inr ?_)), fun hd x hx id hid => h _ (.inr (.inr ?_)), fun t ht => h _ (.inr (.inl ?_))⟩
  · cases deep o.op with
    | true => exact reads_shallow hx k hk
    | false => exact shallow_mem hx k hk
  · rw [hd]
    exact readsX_mem hx (readsX_box hid)
  · rw [ht]; simp

theorem opG_eq {Γ : Gam} {all : List Oper} (h : ∀ k ∈ reads all o s, get s' k = get s k) : opG E Γ all o s' = opG E Γ all o s := by
  have hA := agr_of h
  unfold opG
  split
  · exact opU_eq hA
  · rename_i j want hg
    split
    · rfl
    · rename_i t ht
      have : get s' (2 * t) = get s (2 * t) := h _ (by simp [reads, hg, ht])
      rw [this]
      split
      · rw [opU_eq hA]
      · rfl
      · rfl
end
end Go.Abs

namespace Go.Abs

def stS (us : Nat → St) (S : Nat → Bool) (s0 : St) : Nat → St
  | 0 => s0
  | i + 1 => bif S i then applyU (us i) (stS us S s0 i) else stS us S s0 i

theorem get_applyU_in : ∀ (u s s' : St) (k : Nat), k ∈ allKeys u → get (applyU u s) k = get (applyU u s') k
  | [], _, _, _, h => by simp [allKeys] at h
  | (k0, d) :: r, s, s', k, h => by
    show get (applyU r ((k0, d) :: s)) k = get (applyU r ((k0, d) :: s')) k
    by_cases hk : k ∈ allKeys r
    · exact get_applyU_in r _ _ k hk
    · rw [get_applyU_other r _ k hk, get_applyU_other r _ k hk]
      have : k = k0 := by
        simp only [allKeys, List.mem_cons] at h
        exact h.resolve_right hk
      rw [get_cons, get_cons, if_pos this, if_pos this]

theorem stS_get {us : Nat → St} {S S' : Nat → Bool} {s0 : St} {k : Nat} : ∀ {n : Nat}, (∀ j, j < n → k ∈ allKeys (us j) → S j = S' j) →
    get (stS us S s0 n) k = get (stS us S' s0 n) k
  | 0, _ => rfl
  | n + 1, h => by
    have ih := stS_get (s0 := s0) (n := n) fun j hj => h j (by omega)
    simp only [stS]
    by_cases hk : k ∈ allKeys (us n)
    · have := h n (by omega) hk
      rw [this]
      cases S' n with
      | true => exact get_applyU_in _ _ _ k hk
      | false => exact ih
    · have h1 : ∀ (b : Bool) (s : St), get (bif b then applyU (us n) s else s) k = get s k := by
        intro b s
        cases b with
        | true => exact get_applyU_other _ _ k hk
        | false => rfl
      rw [h1, h1]; exact ih

theorem stS_lt {us : Nat → St} {s0 : St} {i : Nat} : ∀ {n : Nat}, i ≤ n → stS us (fun j => Nat.blt j i) s0 n = stS us (fun _ => true) s0 i
  | 0, h => by
    have : i = 0 := by omega
    subst this; rfl
  | n + 1, h => by
    by_cases hi : i = n + 1
    · subst hi
      have : ∀ m, m ≤ n + 1 → stS us (fun j => Nat.blt j (n + 1)) s0 m = stS us (fun _ => true) s0 m := by
        intro m
        induction m with
        | zero => intro _; rfl
        | succ m ih =>
          intro hm
          simp only [stS]
          have : Nat.blt m (n + 1) = true := by simp [Nat.blt_eq]; omega
          rw [this, ih (by omega)]
      exact this _ (Nat.le_refl _)
    · have : Nat.blt n i = false := by
        cases hb : Nat.blt n i with
        | false => rfl
        | true => rw [Nat.blt_eq] at hb; omega
      simp only [stS, this, cond_false]
      exact stS_lt (by omega)

structure Told (E : Env) (Γ : Gam) (all : List Oper) (s0 : St) (us : Nat → St) (fs : List Foot) (i : Nat) (o : Oper) : Prop where
  bl : below i (befores o) = true
  un : (opG E Γ all o (stS us (fun _ => true) s0 i)).den = some (us i)
  ft : fs[i]? = some { rd := reads all o (stS us (fun _ => true) s0 i), wr := allKeys (us i), bf := closure (fs.take i) (befores o) }
  ap : apartAll (closure (fs.take i) (befores o)) { rd := reads all o (stS us (fun _ => true) s0 i), wr := allKeys (us i), bf := closure (fs.take i) (befores o) } 0 (fs.take i) = true

theorem opU_kn {E : Env} {Γ : Gam} {kn : Kn} {o : Oper} {s u : St} (h : (opU E Γ kn o s).den = some u) : (opU E Γ [] o s).den = some u := by
  unfold opU at h ⊢
  split at h
  · rename_i c x y hop
    cases hd : dstOk E o with
    | false => rw [hd] at h; cases h
    | true =>
      rw [hd] at h
      simp only [cond_true] at h ⊢
      split at h
      · rename_i b hb
        have nil : knO [] c = none ∨ ∃ b', c = .const (.bool b') ∧ knO [] c = some b' ∧ b' = b := by
          cases c with
          | const v =>
            cases v <;> first | exact .inl rfl | skip
            rename_i b'
            refine .inr ⟨b', rfl, rfl, ?_⟩
            simpa [opd, ofV] using hb
          | _ => exact .inl rfl
        have key : (outU (aMove E o s (bif b then x else y))).den = some u := by
          split at h
          · rename_i b' _
            simp only [Out.den] at h
            cases hbb : bbeq b b' with
            | false => rw [hbb] at h; cases h
            | true =>
              rw [hbb] at h
              have := bbeq_eq hbb
              subst this
              exact h
          · simp only [Out.den] at h
            cases b <;> exact h
        rcases nil with nil | ⟨b', _, nil, rfl⟩
        · rw [nil]
          simp only [Out.den]
          cases b <;> exact key
        · rw [nil]
          have : bbeq b' b' = true := by cases b' <;> rfl
          simp only [Out.den, this, cond_true]
          exact key
      · cases h
  · exact h
  · exact h

theorem evDrawn_step {E : Env} {Γ : Gam} {all : List Oper} {o : Oper} {l : List Oper} {kn : Kn} {fs : List Foot} {ch : List Nat} {s : St} {r : Lv} (h : (evDrawn E Γ all (o :: l) kn fs ch s).den = some r) :
    below fs.length (befores o) = true ∧ ∃ u kn', (opG E Γ all o s).den = some u ∧ apartAll (closure fs (befores o)) (footOf all o fs s u) 0 fs = true ∧
      (evDrawn E Γ all l kn' (fs ++ [footOf all o fs s u]) (allKeys u ++ ch) (applyU u s)).den = some r := by
  simp only [evDrawn] at h
  cases hb : below fs.length (befores o) with
  | false => rw [hb] at h; cases h
  | true =>
    rw [hb] at h
    simp only [cond_true] at h
    refine ⟨rfl, ?_⟩
    have cont : ∀ (u : St) (kn' : Kn), (opG E Γ all o s).den = some u → (bif apartAll (closure fs (befores o)) (footOf all o fs s u) 0 fs then evDrawn E Γ all l kn' (fs ++ [footOf all o fs s u]) (allKeys u ++ ch) (applyU u s) else .fail).den = some r →
        ∃ u kn', (opG E Γ all o s).den = some u ∧ apartAll (closure fs (befores o)) (footOf all o fs s u) 0 fs = true ∧
          (evDrawn E Γ all l kn' (fs ++ [footOf all o fs s u]) (allKeys u ++ ch) (applyU u s)).den = some r := by
      intro u kn' h1 h2
      cases ha : apartAll (closure fs (befores o)) (footOf all o fs s u) 0 fs with
      | false => rw [ha] at h2; cases h2
      | true =>
        rw [ha] at h2
        exact ⟨u, kn', h1, ha, h2⟩
    split at h
    · rename_i hg
      obtain ⟨u, hu, h⟩ := bind_some h
      exact cont u _ (by unfold opG; rw [hg]; exact opU_kn hu) h
    · rename_i j want hg
      split at h
      · cases h
      · rename_i t ht
        split at h
        · rename_i b hbo
          cases hd : dstOk E o with
          | false => rw [hd] at h; cases h
          | true =>
            rw [hd] at h
            simp only [cond_true] at h
            have eG : opG E Γ all o s = .ite (bbeq b want) (opU E Γ [] o s) (.ret (skipU o)) := by
              unfold opG
              simp only [hg, ht, hbo, hd, cond_true]
            have run : ∀ (kn1 kn2 : Kn), b = want → ((opU E Γ kn1 o s).bind fun u => bif apartAll (closure fs (befores o)) (footOf all o fs s u) 0 fs then evDrawn E Γ all l kn2 (fs ++ [footOf all o fs s u]) (allKeys u ++ ch) (applyU u s) else .fail).den = some r →
                ∃ u kn', (opG E Γ all o s).den = some u ∧ apartAll (closure fs (befores o)) (footOf all o fs s u) 0 fs = true ∧
                  (evDrawn E Γ all l kn' (fs ++ [footOf all o fs s u]) (allKeys u ++ ch) (applyU u s)).den = some r := by
              intro kn1 kn2 hw h
              obtain ⟨u, hu, h⟩ := bind_some h
              refine cont u _ ?_ h
              rw [eG]
              subst hw
              have : bbeq b b = true := by cases b <;> rfl
              simp only [Out.den, this, cond_true]
              exact opU_kn hu
            have skip : ∀ (kn2 : Kn), bbeq b want = false → (bif apartAll (closure fs (befores o)) (footOf all o fs s (skipU o)) 0 fs then evDrawn E Γ all l kn2 (fs ++ [footOf all o fs s (skipU o)]) (allKeys (skipU o) ++ ch) (applyU (skipU o) s) else .fail).den = some r →
                ∃ u kn', (opG E Γ all o s).den = some u ∧ apartAll (closure fs (befores o)) (footOf all o fs s u) 0 fs = true ∧
                  (evDrawn E Γ all l kn' (fs ++ [footOf all o fs s u]) (allKeys u ++ ch) (applyU u s)).den = some r := by
              intro kn2 hw h
              refine cont (skipU o) _ ?_ h
              rw [eG]
              simp only [Out.den, hw, cond_false]
            split at h
            · rename_i c _
              simp only [Out.den] at h
              cases hbc : bbeq b c with
              | false => rw [hbc] at h; cases h
              | true =>
                rw [hbc] at h
                simp only [cond_true] at h
                have := bbeq_eq hbc
                subst this
                cases hcw : bbeq b want with
                | true =>
                  rw [hcw] at h
                  exact run _ _ (bbeq_eq hcw) h
                | false =>
                  rw [hcw] at h
                  exact skip _ hcw h
            · simp only [Out.den] at h
              cases hbw : bbeq b want with
              | true =>
                rw [hbw] at h
                exact run _ _ (bbeq_eq hbw) h
              | false =>
                rw [hbw] at h
                exact skip _ hbw h
        · rename_i hbo
          cases hd : dstOk E o with
          | false => rw [hd] at h; cases h
          | true =>
            rw [hd] at h
            simp only [cond_true] at h
            refine cont (skipU o) _ ?_ h
            unfold opG
            simp only [hg, ht, hbo, hd, cond_true]
            rfl
        · cases h

theorem told_all {E : Env} {Γ : Gam} {all : List Oper} {s0 : St} : ∀ (l : List Oper) (kn : Kn) (fs0 : List Foot) (us0 : Nat → St) (ch : List Nat) (r : Lv),
    (evDrawn E Γ all l kn fs0 ch (stS us0 (fun _ => true) s0 fs0.length)).den = some r →
    ∃ us fs, (∀ j, j < fs0.length → us j = us0 j) ∧ (∀ j, j < fs0.length → fs[j]? = fs0[j]?) ∧ fs.length = fs0.length + l.length ∧
      (∀ j o, l[j]? = some o → Told E Γ all s0 us fs (fs0.length + j) o) ∧ r.e = 0 ∧ r.s = stS us (fun _ => true) s0 fs.length ∧
      (∀ k, k ∉ r.ch → k ∉ ch ∧ get r.s k = get (stS us0 (fun _ => true) s0 fs0.length) k)
  | [], kn, fs0, us0, ch, r, h => by
    simp only [evDrawn, Out.den, Option.some.injEq] at h
    subst h
    exact ⟨us0, fs0, fun _ _ => rfl, fun _ _ => rfl, rfl, fun j o hj => by simp at hj, rfl, rfl, fun k hk => ⟨hk, rfl⟩⟩
  | o :: l, kn, fs0, us0, ch, r, h => by
    obtain ⟨hb, u, kn', hu, ha, h⟩ := evDrawn_step h
    generalize hg : footOf all o fs0 (stS us0 (fun _ => true) s0 fs0.length) u = g at h ha
    have hst : ∀ (us1 : Nat → St), (∀ j, j < fs0.length → us1 j = us0 j) → ∀ m, m ≤ fs0.length → stS us1 (fun _ => true) s0 m = stS us0 (fun _ => true) s0 m := by
      intro us1 h1 m
      induction m with
      | zero => intro _; rfl
      | succ m ih =>
        intro hm
        simp only [stS, cond_true]
        rw [ih (by omega), h1 m (by omega)]
    have key := told_all l kn' (fs0 ++ [g]) (fun j => if j = fs0.length then u else us0 j) (allKeys u ++ ch) r (by
      simp only [List.length_append, List.length_cons, List.length_nil, stS, cond_true, if_true]
      rw [hst _ (fun j hj => if_neg (by omega)) _ (Nat.le_refl _)]
      exact h)
    obtain ⟨us, fs, k1, k2, k3, k4, k5, k6, k7⟩ := key
    simp only [List.length_append, List.length_cons, List.length_nil] at k1 k2 k3 k4 k7
    have e1 : ∀ j, j < fs0.length → us j = us0 j := fun j hj => by rw [k1 j (by omega), if_neg (by omega)]
    have e2 : us fs0.length = u := by rw [k1 _ (by omega), if_pos rfl]
    have e3 : ∀ j, j < fs0.length → fs[j]? = fs0[j]? := fun j hj => by rw [k2 j (by omega), List.getElem?_append_left hj]
    have e4 : fs.take fs0.length = fs0 := by
      apply List.ext_getElem?
      intro j
      by_cases hj : j < fs0.length
      · rw [List.getElem?_take_of_lt hj]; exact e3 j hj
      · rw [List.getElem?_eq_none (by simp; omega), List.getElem?_eq_none (by omega)]
    have e5 := hst us e1 _ (Nat.le_refl _)
    refine ⟨us, fs, e1, e3, by simp only [List.length_cons]; omega, ?_, k5, k6, ?_⟩
    · intro j o' hj
      cases j with
      | zero =>
        simp only [List.getElem?_cons_zero, Option.some.injEq] at hj
        subst hj
        refine ⟨hb, ?_, ?_, ?_⟩
        · rw [Nat.add_zero, e5, e2]; exact hu
        · rw [Nat.add_zero, e5, e2, e4]
          have hg' : ({ rd := reads all o (stS us0 (fun _ => true) s0 fs0.length), wr := allKeys u, bf := closure fs0 (befores o) } : Foot) = g := hg
          rw [hg', k2 _ (by omega), List.getElem?_append_right (Nat.le_refl _)]; simp
        · rw [Nat.add_zero, e5, e2, e4]
          have hg' : ({ rd := reads all o (stS us0 (fun _ => true) s0 fs0.length), wr := allKeys u, bf := closure fs0 (befores o) } : Foot) = g := hg
          rw [hg']
          exact ha
      | succ j =>
        have := k4 j o' (by simpa using hj)
        rw [show fs0.length + (j + 1) = fs0.length + (0 + 1) + j from by omega]
        simpa using this
    · intro k hk
      obtain ⟨q1, q2⟩ := k7 k hk
      simp only [List.mem_append, not_or] at q1
      refine ⟨q1.2, ?_⟩
      rw [q2]
      simp only [stS, cond_true, if_true]
      rw [hst _ (fun j hj => if_neg (by omega)) _ (Nat.le_refl _)]
      exact get_applyU_other _ _ k q1.1

theorem below_iff {i : Nat} : ∀ {l : List Nat}, below i l = true → ∀ j ∈ l, j < i
  | [], _, j, h => by simp at h
  | x :: r, hb, j, h => by
    simp only [below, Bool.and_eq_true, Nat.blt_eq] at hb
    rcases List.mem_cons.1 h with rfl | h
    · exact hb.1
    · exact below_iff hb.2 j h

theorem mem_union {k : Nat} : ∀ {xs ys : List Nat}, k ∈ union xs ys ↔ k ∈ xs ∨ k ∈ ys
  | [], ys => by simp [union]
  | x :: xs, ys => by
    simp only [union]
    cases hm : mem x ys with
    | true =>
      have := mem_iff.1 hm
      simp only [cond_true, mem_union, List.mem_cons]
      constructor
      · rintro (h | h)
        · exact .inl (.inr h)
        · exact .inr h
      · rintro ((rfl | h) | h)
        · exact .inr this
        · exact .inl h
        · exact .inr h
    | false =>
      simp only [cond_false, mem_union, List.mem_cons]
      constructor
      · rintro (h | rfl | h)
        · exact .inl (.inr h)
        · exact .inl (.inl rfl)
        · exact .inr h
      · rintro ((rfl | h) | h)
        · exact .inr (.inl rfl)
        · exact .inl h
        · exact .inr (.inr h)

theorem closure_iff {fs : List Foot} {j : Nat} : ∀ {l : List Nat}, j ∈ closure fs l → ∃ x ∈ l, j = x ∨ ∃ f, fs[x]? = some f ∧ j ∈ f.bf
  | [], h => by simp [closure] at h
  | x :: r, h => by
    simp only [closure] at h
    split at h
    · rename_i f hf
      rcases mem_union.1 h with h | h
      · rcases List.mem_cons.1 h with h | h
        · exact ⟨x, by simp, .inl h⟩
        · exact ⟨x, by simp, .inr ⟨f, hf, h⟩⟩
      · obtain ⟨y, h1, h2⟩ := closure_iff h
        exact ⟨y, by simp [h1], h2⟩
    · rcases mem_union.1 h with h | h
      · simp only [List.mem_cons, List.not_mem_nil, or_false] at h
        exact ⟨x, by simp, .inl h⟩
      · obtain ⟨y, h1, h2⟩ := closure_iff h
        exact ⟨y, by simp [h1], h2⟩

theorem meets_iff {k : Nat} : ∀ {xs ys : List Nat}, meets xs ys = false → k ∈ xs → k ∈ ys → False
  | x :: r, ys, h, h1, h2 => by
    simp only [meets, Bool.or_eq_false_iff] at h
    rcases List.mem_cons.1 h1 with rfl | h1
    · have := mem_iff.2 h2
      rw [h.1] at this; cases this
    · exact meets_iff h.2 h1 h2

theorem apartAll_iff {bf : List Nat} {g : Foot} : ∀ {l : List Foot} {i j : Nat} {f : Foot}, apartAll bf g i l = true → l[j]? = some f → (i + j) ∈ bf ∨ apart f g = true
  | [], i, j, f, _, h => by simp at h
  | x :: r, i, 0, f, h, hf => by
    simp only [apartAll, Bool.and_eq_true, Bool.or_eq_true] at h
    simp only [List.getElem?_cons_zero, Option.some.injEq] at hf
    subst hf
    rcases h.1 with h | h
    · exact .inl (mem_iff.1 h)
    · exact .inr h
  | x :: r, i, j + 1, f, h, hf => by
    simp only [apartAll, Bool.and_eq_true] at h
    rw [show i + (j + 1) = i + 1 + j from by omega]
    exact apartAll_iff h.2 (by simpa using hf)

theorem filter_lt {p q : Nat → Bool} {x : Nat} : ∀ {l : List Nat}, l.Nodup → (∀ j, q j = true → p j = true) → x ∈ l → p x = true → q x = false → (l.filter q).length < (l.filter p).length
  | [], _, _, h, _, _ => by simp at h
  | y :: r, hn, hs, hx, hp, hq => by
    have hn' := List.nodup_cons.1 hn
    have le : (r.filter q).length ≤ (r.filter p).length := by
      clear hn hn' hx
      induction r with
      | nil => simp
      | cons z r ih =>
        simp only [List.filter_cons]
        by_cases hz : q z = true
        · rw [if_pos hz, if_pos (hs z hz)]; simpa using ih
        · rw [if_neg hz]
          split
          · simp only [List.length_cons]; omega
          · exact ih
    simp only [List.filter_cons]
    rcases List.mem_cons.1 hx with rfl | hx
    · rw [hp, hq]
      simp only [Bool.false_eq_true, if_false, if_true, List.length_cons]
      omega
    · have ih := filter_lt hn'.2 hs hx hp hq
      by_cases hz : q y = true
      · rw [if_pos hz, if_pos (hs y hz)]; simpa using ih
      · rw [if_neg hz]
        split
        · simp only [List.length_cons]; omega
        · exact ih

section
variable {P : Program} {E : Env} {C : Ctx}

theorem Rel.world {s : St} {a : Act} {w w' : World} {G : Nat → Nat} {pt : Nat → Nat → Option Value} (R : Rel E C s a w G pt) (hh : w'.heap = w.heap) (ho : w'.os = w.os)
    (hp : w'.output = w.output) (ht : w'.tape = w.tape) : Rel E C s a w' G pt := by
  have hc : ∀ b o, w'.cell? ⟨b, o, none⟩ = w.cell? ⟨b, o, none⟩ := fun b o => cell_of_heap (by rw [hh]) o
  refine R.step (fun _ => False) (fun _ => False) (fun _ => False) rfl R.df (fun _ _ => ⟨rfl, rfl⟩) (fun _ _ => ⟨rfl, rfl⟩) ⟨fun b o _ => hc b o, fun b => Nat.le_refl _⟩
    (fun _ _ _ h => h) (fun b _ _ => ⟨by rw [hh], rfl⟩) (fun _ h => h.elim) (fun _ h => h.elim) (fun _ h => h.elim) (fun _ h => h.elim) (fun _ h => h.elim) ?_
    (fun b hb => R.gz b (by rw [← hh]; exact hb)) ho hp ht (by rw [hh]; exact Nat.le_refl _)
  intro c1 c2 b
  have : TC E.n C.m s a w' pt b = TC E.n C.m s a w pt b := by
    unfold TC
    rw [sumN_congr fun i _ => c1 i id b, sumN_congr fun i _ => c2 i id b]
  rw [this, hh]
  exact ⟨R.ct b, R.cb b⟩

theorem drawn_ok {Γ : Gam} (hmix : P.follows .mixedOrders = true) (H : OpsOk P E Γ C) : DrawnOk P E Γ C := by
  intro id ops ch s0 r hr
  obtain ⟨us, fs, -, -, hlen, htold, he, hs, hst⟩ := told_all (E := E) (Γ := Γ) (all := ops.toList) (s0 := s0) ops.toList [] [] (fun _ => []) ch r hr
  simp only [List.length_nil, Nat.zero_add, stS] at hlen htold hst
  have hn : fs.length = ops.size := by simpa using hlen
  refine ⟨fun s' h0 k hk => ?_, ?_⟩
  · obtain ⟨h1, h2⟩ := hst k hk
    rw [h2]; exact h0 k h1
  intro a w G pt R
  refine wp_region_any hmix ?_
  have R : Rel E C s0 a { w with drawn := w.drawn + 1 } G pt := R.world rfl rfl rfl rfl
  generalize { w with drawn := w.drawn + 1 } = w at R
  -- one operation's facts
  have T : ∀ i o, ops[i]? = some o → Told E Γ ops.toList s0 us fs i o := fun i o h => htold i o (by simpa using h)
  have bfS : ∀ (S : Nat → Bool), (∀ i o, ops[i]? = some o → S i = true → ∀ j ∈ befores o, S j = true) → ∀ i f, fs[i]? = some f → S i = true → ∀ j ∈ f.bf, S j = true := by
    intro S hS i
    induction i using Nat.strongRecOn with
    | _ i ih =>
      intro f hf hi j hj
      have hlt : i < ops.size := by
        have := (List.getElem?_eq_some_iff.1 hf).1
        omega
      have ho : ops[i]? = some ops[i] := by simp [hlt]
      have t := T i _ ho
      rw [t.ft] at hf
      simp only [Option.some.injEq] at hf
      subst hf
      obtain ⟨x, hx, hj⟩ := closure_iff hj
      have hSx := hS i _ ho hi x hx
      rcases hj with rfl | ⟨f, hf, hj⟩
      · exact hSx
      · have hlt := below_iff t.bl x hx
        rw [List.getElem?_take_of_lt hlt] at hf
        exact ih x hlt f hf hSx j hj
  have gd : ∀ {L : Array Bool} {j : Nat}, L.size = ops.size → j < ops.size → L.getD j false = L.getD j true := by
    intro L j h1 h2
    simp [h1, h2]
  have fin : ∀ (L : Array Bool) (a : Act) (w : World) (G : Nat → Nat) (pt : Nat → Nat → Option Value), L.size = ops.size → (∀ i, i < ops.size → L.getD i true = true) →
      Rel E C (stS us (fun i => L.getD i false) s0 ops.size) a w G pt → Post E C r .normal a w := by
    intro L a w G pt hL hall R
    refine ⟨by rw [he]; rfl, G, pt, ?_⟩
    rw [hs, hn]
    refine R.congr fun k => stS_get fun j hj _ => ?_
    rw [gd hL hj, hall j hj]
  have key : ∀ (fuel : Nat) (L : Array Bool) (a : Act) (w : World) (G : Nat → Nat) (pt : Nat → Nat → Option Value), L.size = ops.size →
      (∀ i o, ops[i]? = some o → L.getD i false = true → ∀ j ∈ befores o, L.getD j false = true) →
      ((List.range ops.size).filter fun i => !L.getD i true).length ≤ fuel →
      Rel E C (stS us (fun i => L.getD i false) s0 ops.size) a w G pt → wpAny P .any ops (Post E C r) fuel L a w := by
    intro fuel
    induction fuel with
    | zero =>
      intro L a w G pt hL hS hf R
      have all : ∀ i, i < ops.size → L.getD i true = true := by
        intro i hi
        have hnil := List.length_eq_zero_iff.1 (Nat.le_zero.1 hf)
        cases hb : L.getD i true with
        | true => rfl
        | false =>
          have : i ∈ (List.range ops.size).filter fun i => !L.getD i true := by
            rw [List.mem_filter, List.mem_range, hb]; exact ⟨hi, rfl⟩
          rw [hnil] at this
          simp at this
      refine ⟨?_, fin L a w G pt hL all R⟩
      apply List.eq_nil_iff_forall_not_mem.2
      intro i hi
      obtain ⟨h1, o, h2, _⟩ := mem_ready.1 hi
      have := all i (Array.getElem?_eq_some_iff.1 h2).1
      rw [h1] at this; cases this
    | succ fuel ih =>
      intro L a w G pt hL hS hf R
      refine ⟨fun hnil => fin L a w G pt hL (fun i hi => ?_) R, fun i hi => ?_⟩
      · induction i using Nat.strongRecOn with
        | _ i ih2 =>
          cases hb : L.getD i true with
          | true => rfl
          | false =>
            exfalso
            have ho : ops[i]? = some ops[i] := by simp [hi]
            have : i ∈ Region.ready .any ops L := by
              refine mem_ready.2 ⟨hb, ops[i], ho, fun e he hbe => ?_⟩
              have hm : e.on ∈ befores ops[i] := by
                simp only [befores, List.mem_map, List.mem_filter]
                exact ⟨e, ⟨by simpa using he, hbe⟩, rfl⟩
              have hlt := below_iff (T i _ ho).bl _ hm
              rw [gd hL (by omega)]
              exact ih2 e.on hlt (by omega)
            rw [hnil] at this
            simp at this
      · obtain ⟨hi0, o, ho, hed⟩ := mem_ready.1 hi
        have hlt := (Array.getElem?_eq_some_iff.1 ho).1
        have t := T i o ho
        have hbS : ∀ j ∈ befores o, L.getD j false = true := by
          intro j hj
          simp only [befores, List.mem_map, List.mem_filter] at hj
          obtain ⟨e, ⟨h1, h2⟩, rfl⟩ := hj
          exact hed e (by simpa using h1) h2
        have hi1 : L.getD i false = false := by rw [gd hL hlt]; exact hi0
        have cl := bfS (fun j => L.getD j false) hS
        -- what comes before for sure is done
        have cb : ∀ j ∈ closure (fs.take i) (befores o), L.getD j false = true := by
          intro j hj
          obtain ⟨x, hx, hj⟩ := closure_iff hj
          rcases hj with rfl | ⟨f, hf, hj⟩
          · exact hbS j hx
          · have hxl := below_iff t.bl x hx
            rw [List.getElem?_take_of_lt hxl] at hf
            exact cl x f hf (hbS x hx) j hj
        -- an earlier one that is not done is apart
        have early : ∀ j, j < i → L.getD j false = false → ∀ f, fs[j]? = some f → ∀ k ∈ f.wr, k ∈ reads ops.toList o (stS us (fun _ => true) s0 i) ∨ k ∈ allKeys (us i) → False := by
          intro j hj hb f hf k hk h
          rcases apartAll_iff t.ap (by rw [List.getElem?_take_of_lt hj]; exact hf) with h1 | h1
          · have := cb _ h1
            rw [Nat.zero_add, hb] at this; cases this
          · simp only [apart, Bool.and_eq_true, Bool.not_eq_true'] at h1
            rcases h with h | h
            · exact meets_iff h1.1.1 hk h
            · exact meets_iff h1.1.2 hk h
        -- a later one that is done is apart
        have late : ∀ j, i < j → L.getD j false = true → ∀ f, fs[j]? = some f → ∀ k ∈ f.wr, k ∈ reads ops.toList o (stS us (fun _ => true) s0 i) ∨ k ∈ allKeys (us i) → False := by
          intro j hj hb f hf k hk h
          have hjn : j < ops.size := by
            have := (List.getElem?_eq_some_iff.1 hf).1
            omega
          have hoj : ops[j]? = some ops[j] := by simp [hjn]
          have tj := T j _ hoj
          have hf' := tj.ft
          rw [hf] at hf'
          simp only [Option.some.injEq] at hf'
          subst hf'
          rcases apartAll_iff tj.ap (by rw [List.getElem?_take_of_lt hj]; exact t.ft) with h1 | h1
          · have := cl j _ hf hb i (by simpa using h1)
            rw [hi1] at this; cases this
          · simp only [apart, Bool.and_eq_true, Bool.not_eq_true'] at h1
            rcases h with h | h
            · exact meets_iff h1.2 hk h
            · exact meets_iff h1.1.2 h hk
        have wr : ∀ j, j < ops.size → ∃ f, fs[j]? = some f ∧ f.wr = allKeys (us j) := by
          intro j hj
          exact ⟨_, (T j ops[j] (by simp [hj])).ft, rfl⟩
        -- it reads what it reads in order
        have rd : ∀ k ∈ reads ops.toList o (stS us (fun _ => true) s0 i), get (stS us (fun j => L.getD j false) s0 ops.size) k = get (stS us (fun _ => true) s0 i) k := by
          intro k hk
          rw [← stS_lt (n := ops.size) (Nat.le_of_lt hlt)]
          refine stS_get fun j hj hkj => ?_
          obtain ⟨f, hf, hw⟩ := wr j hj
          rw [← hw] at hkj
          by_cases hji : j < i
          · have hbl : Nat.blt j i = true := by rw [Nat.blt_eq]; exact hji
            rw [hbl]
            cases hb : L.getD j false with
            | true => rfl
            | false => exact (early j hji hb f hf k hkj (.inl hk)).elim
          · have hbl : Nat.blt j i = false := by
              cases hb : Nat.blt j i with
              | false => rfl
              | true => rw [Nat.blt_eq] at hb; omega
            rw [hbl]
            cases hb : L.getD j false with
            | false => rfl
            | true =>
              rcases Nat.lt_or_ge i j with h | h
              · exact (late j h hb f hf k hkj (.inl hk)).elim
              · have : j = i := by omega
                subst this
                rw [hi1] at hb; cases hb
        have un := t.un
        rw [← opG_eq rd] at un
        -- behind it
        have after : ∀ k, get (applyU (us i) (stS us (fun j => L.getD j false) s0 ops.size)) k = get (stS us (fun j => (L.setIfInBounds i true).getD j false) s0 ops.size) k := by
          intro k
          by_cases hk : k ∈ allKeys (us i)
          · have h1 : get (stS us (fun j => (L.setIfInBounds i true).getD j false) s0 ops.size) k = get (stS us (fun j => Nat.blt j (i + 1)) s0 ops.size) k := by
              refine stS_get fun j hj hkj => ?_
              obtain ⟨f, hf, hw⟩ := wr j hj
              rw [← hw] at hkj
              by_cases hji : j = i
              · subst hji
                have : Nat.blt j (j + 1) = true := by rw [Nat.blt_eq]; omega
                rw [this]
                simp [hL, hj]
              · rw [getD_set_ne false (Ne.symm hji)]
                by_cases hlt2 : j < i
                · have hbl : Nat.blt j (i + 1) = true := by rw [Nat.blt_eq]; omega
                  rw [hbl]
                  cases hb : L.getD j false with
                  | true => rfl
                  | false => exact (early j hlt2 hb f hf k hkj (.inr hk)).elim
                · have hbl : Nat.blt j (i + 1) = false := by
                    cases hb : Nat.blt j (i + 1) with
                    | false => rfl
                    | true => rw [Nat.blt_eq] at hb; omega
                  rw [hbl]
                  cases hb : L.getD j false with
                  | false => rfl
                  | true => exact (late j (by omega) hb f hf k hkj (.inr hk)).elim
            rw [h1, stS_lt (by omega)]
            simp only [stS, cond_true]
            exact get_applyU_in _ _ _ k hk
          · rw [get_applyU_other _ _ k hk]
            refine stS_get fun j hj hkj => ?_
            by_cases hji : j = i
            · subst hji; exact (hk hkj).elim
            · rw [getD_set_ne false (Ne.symm hji)]
        have IH : ∀ a' w' G' pt', Rel E C (applyU (us i) (stS us (fun j => L.getD j false) s0 ops.size)) a' w' G' pt' → wpAny P .any ops (Post E C r) fuel (L.setIfInBounds i true) a' w' := by
          intro a' w' G' pt' R'
          refine ih (L.setIfInBounds i true) a' w' G' pt' (by simpa using hL) ?_ ?_ (R'.congr fun k => (after k).symm)
          · intro j oj hoj hj j' hj'
            by_cases hji : j = i
            · subst hji
              rw [ho] at hoj
              simp only [Option.some.injEq] at hoj
              subst hoj
              exact getD_set_true (hbS j' hj')
            · rw [getD_set_ne false (Ne.symm hji)] at hj
              exact getD_set_true (hS j oj hoj hj j' hj')
          · refine Nat.le_of_lt_succ (Nat.lt_of_lt_of_le ?_ hf)
            refine filter_lt (List.nodup_range) (x := i) (fun j hj => ?_) (by simpa using hlt) (by rw [hi0]; rfl) (by simp [hL, hlt])
            by_cases hji : j = i
            · subst hji; simp [hL, hlt] at hj
            · rw [getD_set_ne true (Ne.symm hji)] at hj; exact hj
        -- the operation itself
        unfold wpOp
        rw [ho]
        simp only
        unfold opG at un
        split at un
        · rename_i hg
          rw [if_pos (by simp [Region.wanted, hg])]
          exact .inl (H [] o _ a w G pt _ R un _ _ fun a' w' G' pt' R' => IH a' w' G' pt' R')
        · rename_i j want hg
          split at un
          · cases un
          · rename_i tt ht
            split at un
            · rename_i b hb
              have hy := yield_of R ht hb
              have hwd : Region.wanted o (yielded ops a.tmps) = decide (b = want) := by
                simp only [Region.wanted, hg, hy]
                cases b <;> cases want <;> rfl
              cases hd : dstOk E o with
              | false => rw [hd] at un; cases un
              | true =>
                rw [hd] at un
                simp only [cond_true, Out.den] at un
                cases hbw : bbeq b want with
                | true =>
                  rw [hbw] at un
                  rw [hwd, if_pos (by simpa using bbeq_eq hbw)]
                  exact .inl (H [] o _ a w G pt _ R un _ _ fun a' w' G' pt' R' => IH a' w' G' pt' R')
                | false =>
                  rw [hbw] at un
                  simp only [cond_false, Option.some.injEq] at un
                  have hne := bbeq_ne hbw
                  rw [hwd, if_neg (by rw [hne]; simp [bnot_ne])]
                  refine IH _ w G pt ?_
                  rw [← un]
                  exact R.skipped hd
            · rename_i hb
              have hy := yield_none R ht hb
              have hwd : Region.wanted o (yielded ops a.tmps) = false := by
                simp only [Region.wanted, hg, hy]
                cases want <;> rfl
              cases hd : dstOk E o with
              | false => rw [hd] at un; cases un
              | true =>
                rw [hd] at un
                simp only [cond_true, Out.den, Option.some.injEq] at un
                rw [hwd, if_neg (by simp)]
                refine IH _ w G pt ?_
                rw [← un]
                exact R.skipped hd
            · cases un
  refine key ops.size _ a w G pt (by simp) (fun i o _ hi => ?_) ?_ ?_
  · exfalso
    rw [Array.getD_eq_getD_getElem?, Array.getElem?_replicate] at hi
    split at hi <;> simp at hi
  · refine Nat.le_trans (List.length_filter_le _ _) ?_
    simp
  · have h0 : ∀ n, stS us (fun i => (Array.replicate ops.size false).getD i false) s0 n = s0 := by
      intro n
      induction n with
      | zero => rfl
      | succ n ih =>
        simp only [stS]
        have : (Array.replicate ops.size false).getD n false = false := by
          rw [Array.getD_eq_getD_getElem?, Array.getElem?_replicate]
          split <;> rfl
        rw [this]; exact ih
    rw [h0]; exact R
end
end Go.Abs
