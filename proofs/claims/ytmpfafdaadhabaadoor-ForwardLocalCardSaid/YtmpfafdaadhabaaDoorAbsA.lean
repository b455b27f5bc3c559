/- The abstract evaluator, part 1: proved is that each operation of the model that it runs keeps the relation between abstract values and memory (values, moves, tables of types, numbers, strings); no conditions but those that each theorem states. -/
import Derived.WalkKit
import Derived.Deep.MidRow
set_option linter.unusedVariables false
set_option linter.unusedSimpArgs false
namespace Go.Abs

inductive Ty where
  | int (k : IntKind) | bool | str | sl (t : Ty) | unit | cons (a b : Ty) | st (by_ : Nat) (c : Ty) | clo (f : Nat) (t : Ty)
  deriving Inhabited

@[reducible] def Ty.den : Ty → Type
  | .int _ => Int
  | .bool => Bool
  | .str => List Int
  | .sl t => List t.den
  | .unit => Unit
  | .cons a b => a.den × b.den
  | .st _ c => c.den
  | .clo _ t => t.den

def Ty.nc : Ty → Nat
  | .unit => 0
  | .cons a b => a.nc + b.nc
  | .st _ c => c.nc
  | _ => 1

def Ty.bsz : Ty → Nat
  | .int k => k.bits / 8
  | .bool => 1
  | .str => 16
  | .sl _ => 24
  | .st b _ => b
  | .clo _ _ => 8
  | _ => 0

def Ty.dflt : (t : Ty) → t.den
  | .int _ => (0 : Int)
  | .bool => false
  | .str => []
  | .sl _ => []
  | .unit => ()
  | .cons a b => (a.dflt, b.dflt)
  | .st _ c => c.dflt
  | .clo _ t => t.dflt

def kbeq : IntKind → IntKind → Bool
  | .i8, .i8 | .i16, .i16 | .i32, .i32 | .i64, .i64 | .u8, .u8 | .u16, .u16 | .u32, .u32 | .u64, .u64 => true
  | _, _ => false

theorem eq_of_kbeq {a b : IntKind} (h : kbeq a b = true) : a = b := by
  cases a <;> cases b <;> first | rfl | (simp [kbeq] at h)

def Ty.beq : Ty → Ty → Bool
  | .int k, .int k' => kbeq k k'
  | .bool, .bool => true
  | .str, .str => true
  | .sl a, .sl b => a.beq b
  | .unit, .unit => true
  | .cons a b, .cons c d => a.beq c && b.beq d
  | .st n a, .st m b => Nat.beq n m && a.beq b
  | .clo n a, .clo m b => Nat.beq n m && a.beq b
  | _, _ => false

theorem Ty.eq_of_beq : ∀ {a b : Ty}, a.beq b = true → a = b
  | .int k, .int k', h => by rw [eq_of_kbeq (show kbeq k k' = true from h)]
  | .bool, .bool, _ => rfl
  | .str, .str, _ => rfl
  | .unit, .unit, _ => rfl
  | .sl a, .sl b, h => by rw [Ty.eq_of_beq (show a.beq b = true from h)]
  | .cons a b, .cons c d, h => by
    have h' : (a.beq c && b.beq d) = true := h
    rw [Bool.and_eq_true] at h'
    rw [Ty.eq_of_beq h'.1, Ty.eq_of_beq h'.2]
  | .st n a, .st m b, h => by
    have h' : (Nat.beq n m && a.beq b) = true := h
    rw [Bool.and_eq_true] at h'
    rw [Nat.eq_of_beq_eq_true h'.1, Ty.eq_of_beq h'.2]
  | .clo n a, .clo m b, h => by
    have h' : (Nat.beq n m && a.beq b) = true := h
    rw [Bool.and_eq_true] at h'
    rw [Nat.eq_of_beq_eq_true h'.1, Ty.eq_of_beq h'.2]
  | .clo _ _, .int _, h | .clo _ _, .bool, h | .clo _ _, .str, h | .clo _ _, .sl _, h | .clo _ _, .unit, h | .clo _ _, .cons _ _, h | .clo _ _, .st _ _, h
  | .int _, .clo _ _, h | .bool, .clo _ _, h | .str, .clo _ _, h | .sl _, .clo _ _, h | .unit, .clo _ _, h | .cons _ _, .clo _ _, h | .st _ _, .clo _ _, h
  | .int _, .bool, h | .int _, .str, h | .int _, .sl _, h | .int _, .unit, h | .int _, .cons _ _, h | .int _, .st _ _, h
  | .bool, .int _, h | .bool, .str, h | .bool, .sl _, h | .bool, .unit, h | .bool, .cons _ _, h | .bool, .st _ _, h
  | .str, .int _, h | .str, .bool, h | .str, .sl _, h | .str, .unit, h | .str, .cons _ _, h | .str, .st _ _, h
  | .sl _, .int _, h | .sl _, .bool, h | .sl _, .str, h | .sl _, .unit, h | .sl _, .cons _ _, h | .sl _, .st _ _, h
  | .unit, .int _, h | .unit, .bool, h | .unit, .str, h | .unit, .sl _, h | .unit, .cons _ _, h | .unit, .st _ _, h
  | .cons _ _, .int _, h | .cons _ _, .bool, h | .cons _ _, .str, h | .cons _ _, .sl _, h | .cons _ _, .unit, h | .cons _ _, .st _ _, h
  | .st _ _, .int _, h | .st _ _, .bool, h | .st _ _, .str, h | .st _ _, .sl _, h | .st _ _, .unit, h | .st _ _, .cons _ _, h => by
    exact absurd (show false = true from h) (by decide)

inductive D where
  | undef
  | bool (b : Bool)
  | int (k : IntKind) (n : Int)
  | str (s : List Int)
  | nils
  | sl (fl : Nat) (t : Ty) (l : List t.den)
  | ptr (id st off : Nat)
  | eptr (id st i off es : Nat)
  | gptr (g off : Nat)
  | vptr (t : Ty) (l : List t.den) (i off : Nat)
  | csl (t : Ty) (l : List t.den)
  | rsl (id st : Nat)
  | agg (cs : List D)
  | tup (vs : List D)
  | fn (f : Nat) (caps : List D)
  | boxv (st : Nat) (live : Bool) (cs : List D)
  | arrv (st : Nat) (live : Bool) (ar : Bool) (t : Ty) (l : List t.den)
  | wnd (id st n : Nat)
  | fnc (f : Nat)
  | clo (f : Nat) (t : Ty) (x : t.den)
  | av (k : IntKind) (l : List Int)
  | vpa (k : IntKind) (l : List Int)
  deriving Inhabited

def enc : (t : Ty) → t.den → List D
  | .int k, n => [.int k n]
  | .bool, b => [.bool b]
  | .str, s => [.str s]
  | .sl t, l => [.sl 0 t l]
  | .unit, _ => []
  | .cons a b, x => enc a x.1 ++ enc b x.2
  | .st _ c, x => enc c x
  | .clo f t, x => [.clo f t x]

def fixN : Nat → List Int → List Int
  | 0, _ => []
  | n + 1, l => l.headD 0 :: fixN n l.tail
theorem fixN_eq : ∀ {n : Nat} {l : List Int}, l.length = n → fixN n l = l
  | 0, [], _ => rfl
  | 0, _ :: _, h => by simp at h
  | n + 1, [], h => by simp at h
  | n + 1, x :: r, h => by rw [fixN]; simp only [List.headD_cons, List.tail_cons]; rw [fixN_eq (by simpa using h)]

def castX {a b : Ty} (h : a = b) (x : a.den) : b.den := h ▸ x
def castL {a b : Ty} (h : a = b) (l : List a.den) : List b.den := h ▸ l

def dec : (t : Ty) → List D → Option (t.den × List D)
  | .int k, .int k' n :: r => bif kbeq k k' then some (n, r) else none
  | .bool, .bool b :: r => some (b, r)
  | .str, .str s :: r => some (s, r)
  | .sl _, .nils :: r => some ([], r)
  | .sl t, .sl _ t' l :: r => if h : t'.beq t = true then some (castL (Ty.eq_of_beq h) l, r) else none
  | .unit, r => some ((), r)
  | .cons a b, r => match dec a r with
    | some (x, r') => match dec b r' with
      | some (y, r'') => some ((x, y), r'')
      | none => none
    | none => none
  | .st _ c, r => dec c r
  | .clo f t, .clo f' t' x :: r => if h : (Ty.clo f' t').beq (.clo f t) = true then some (castX (Ty.eq_of_beq h) x, r) else none
  | _, _ => none

structure TI where
  size : Nat
  bytes : Nat
  agg : Bool
  ty : Ty
  desc : TypeDesc
  zero : List D
  arr : Option Ty
  cmp : Option (List Nat)
  deriving Inhabited

abbrev St := List (Nat × D)

def get : St → Nat → D
  | [], _ => .undef
  | (l, d) :: r, m => bif Nat.beq m l then d else get r m

def viewL : D → D
  | .sl _ t l => .sl 0 t l
  | d => d
def shareL : D → D
  | .sl f t l => .sl (bif Nat.beq f 2 then 1 else f) t l
  | d => d
def stripL : D → D
  | .sl f t l => bif Nat.beq f 0 then .sl 0 t l else .undef
  | d => d
def hasXL : D → Bool
  | .sl f _ _ => !Nat.beq f 0
  | _ => false
def hasUL : D → Bool
  | .sl f _ _ => Nat.beq f 2
  | _ => false

def view : D → D
  | .agg cs => .agg (cs.map viewL)
  | d => viewL d
def share : D → D
  | .agg cs => .agg (cs.map shareL)
  | d => shareL d
def strip : D → D
  | .agg cs => .agg (cs.map stripL)
  | .tup _ => .undef
  | d => stripL d
def hasX : D → Bool
  | .agg cs => cs.any hasXL
  | .tup _ => true
  | d => hasXL d
def hasU : D → Bool
  | .agg cs => cs.any hasUL
  | .tup _ => true
  | d => hasUL d
def retype (t : Ty) : D → D
  | .nils => match t with
    | .sl e => .sl 2 e []
    | _ => .nils
  | d => d

def sby (s : ByteArray) : List Int := s.data.toList.map fun b => (b.toNat : Int)

def inR (k : IntKind) (n : Int) : Bool := decide (k.min ≤ n) && decide (n ≤ k.max)

def mlen : Nat := 9223372036854775807

def ofV : Value → D
  | .bool b => .bool b
  | .int k n => bif inR k n then .int k n else .undef
  | .string s => bif Nat.ble (sby s).length mlen then .str (sby s) else .undef
  | .slice none 0 0 => .nils
  | _ => .undef

end Go.Abs

namespace Go.Abs

def big : Nat := 140737488355328

def RepC (w : World) (G : Nat → Nat) : (t : Ty) → t.den → Nat → Nat → Prop
  | .int k, n, b, o => w.cell? ⟨b, o, none⟩ = some (.int k n) ∧ k.has n
  | .bool, x, b, o => w.cell? ⟨b, o, none⟩ = some (.bool x)
  | .str, l, b, o => ∃ s, w.cell? ⟨b, o, none⟩ = some (.string s) ∧ sby s = l ∧ l.length ≤ mlen
  | .sl t, l, b, o => ∃ a n c, w.cell? ⟨b, o, none⟩ = some (.slice a n c) ∧ n = l.length ∧ n * t.bsz ≤ big ∧ n ≤ c ∧
      (l = [] ∨ ∃ b' o', a = some ⟨b', o', none⟩ ∧ o' + n * t.nc ≤ G b' ∧ ∀ i (h : i < l.length), RepC w G t l[i] b' (o' + i * t.nc))
  | .unit, _, _, _ => True
  | .cons a c, x, b, o => RepC w G a x.1 b o ∧ RepC w G c x.2 b (o + a.nc)
  | .st _ c, x, b, o => RepC w G c x b o
  | .clo f t, x, b, o => ∃ b' o', w.cell? ⟨b, o, none⟩ = some (.func (.func f) #[] #[.pointer (some ⟨b', o', none⟩)]) ∧ o' + t.nc ≤ G b' ∧ RepC w G t x b' o'

def RepE (w : World) (G : Nat → Nat) (t : Ty) (l : List t.den) (b o : Nat) : Prop :=
  ∀ i (h : i < l.length), RepC w G t l[i] b (o + i * t.nc)

structure Ext (w : World) (G : Nat → Nat) (w' : World) (G' : Nat → Nat) : Prop where
  cell : ∀ b o, o < G b → w'.cell? ⟨b, o, none⟩ = w.cell? ⟨b, o, none⟩
  le : ∀ b, G b ≤ G' b

theorem Ext.refl (w : World) (G : Nat → Nat) : Ext w G w G := ⟨fun _ _ _ => rfl, fun _ => Nat.le_refl _⟩
theorem Ext.trans {w1 w2 w3 : World} {G1 G2 G3 : Nat → Nat} (h : Ext w1 G1 w2 G2) (k : Ext w2 G2 w3 G3) : Ext w1 G1 w3 G3 :=
  ⟨fun b o ho => (k.cell b o (Nat.lt_of_lt_of_le ho (h.le b))).trans (h.cell b o ho), fun b => Nat.le_trans (h.le b) (k.le b)⟩

theorem RepC.mono {w w' : World} {G G' : Nat → Nat} (hE : Ext w G w' G') :
    ∀ {t : Ty} {x : t.den} {b o : Nat}, RepC w G t x b o →
      (∀ j, o ≤ j → j < o + t.nc → w'.cell? ⟨b, j, none⟩ = w.cell? ⟨b, j, none⟩) → RepC w' G' t x b o
  | .int k, n, b, o, h, hc => by
    simp only [RepC] at h ⊢
    rw [hc o (Nat.le_refl _) (by simp [Ty.nc])]; exact h
  | .bool, n, b, o, h, hc => by
    simp only [RepC] at h ⊢
    rw [hc o (Nat.le_refl _) (by simp [Ty.nc])]; exact h
  | .str, n, b, o, h, hc => by
    simp only [RepC] at h ⊢
    rw [hc o (Nat.le_refl _) (by simp [Ty.nc])]; exact h
  | .sl t, l, b, o, h, hc => by
    simp only [RepC] at h ⊢
    rw [hc o (Nat.le_refl _) (by simp [Ty.nc])]
    obtain ⟨a, n, c, h1, h2, h3, h3', h4⟩ := h
    refine ⟨a, n, c, h1, h2, h3, h3', ?_⟩
    rcases h4 with h4 | ⟨b', o', h5, h6, h7⟩
    · exact .inl h4
    · refine .inr ⟨b', o', h5, Nat.le_trans h6 (hE.le b'), fun i hi => (h7 i hi).mono hE fun j hj1 hj2 => hE.cell _ _ ?_⟩
      have : (i + 1) * t.nc ≤ n * t.nc := Nat.mul_le_mul_right _ (by omega)
      rw [Nat.add_mul] at this
      omega
  | .unit, _, _, _, _, _ => trivial
  | .cons a c, x, b, o, h, hc => by
    simp only [RepC] at h ⊢
    simp only [Ty.nc] at hc
    exact ⟨h.1.mono hE fun j h1 h2 => hc j h1 (by omega), h.2.mono hE fun j h1 h2 => hc j (by omega) (by omega)⟩
  | .st _ c, x, b, o, h, hc => by
    simp only [RepC] at h ⊢
    exact RepC.mono hE h hc
  | .clo f t, x, b, o, h, hc => by
    simp only [RepC] at h ⊢
    rw [hc o (Nat.le_refl _) (by simp [Ty.nc])]
    obtain ⟨b', o', h1, h2, h3⟩ := h
    exact ⟨b', o', h1, Nat.le_trans h2 (hE.le b'), h3.mono hE fun j hj1 hj2 => hE.cell _ _ (by omega)⟩

theorem RepE.mono {w w' : World} {G G' : Nat → Nat} (hE : Ext w G w' G') {t : Ty} {l : List t.den} {b o : Nat} (h : RepE w G t l b o)
    (hc : ∀ j, o ≤ j → j < o + l.length * t.nc → w'.cell? ⟨b, j, none⟩ = w.cell? ⟨b, j, none⟩) : RepE w' G' t l b o := by
  intro i hi
  refine (h i hi).mono hE fun j hj1 hj2 => hc j (by omega) ?_
  have : (i + 1) * t.nc ≤ l.length * t.nc := Nat.mul_le_mul_right _ (by omega)
  rw [Nat.add_mul] at this
  omega

def Room (w : World) (b k : Nat) : Prop :=
  ∃ cur e fr, w.heap[b]? = some (.cells cur e fr) ∧ k ≤ cur.size ∧ ∀ o, o < cur.size → ¬ (fr.1 ≤ o ∧ o < fr.2)

def SlR (w : World) (G : Nat → Nat) (f : Nat) (t : Ty) (l : List t.den) (a : Option Addr) (c : Nat) : Prop :=
  match f with
  | 0 => l.length ≤ c ∧ (l = [] ∨ ∃ b o, a = some ⟨b, o, none⟩ ∧ o + l.length * t.nc ≤ G b ∧ RepE w G t l b o)
  | 1 => (a = none ∧ l = [] ∧ c = 0) ∨ ∃ b, a = some ⟨b, 0, none⟩ ∧ G b = l.length * t.nc ∧ Room w b (c * t.nc) ∧ l.length ≤ c ∧ RepE w G t l b 0 ∧ 0 < t.nc
  | 2 => (a = none ∧ l = [] ∧ c = 0) ∨ ∃ b, a = some ⟨b, 0, none⟩ ∧ G b = 0 ∧ Room w b (c * t.nc) ∧ l.length ≤ c ∧ RepE w G t l b 0 ∧ 0 < t.nc
  | _ => False

def blkOf : Option Value → Option Nat
  | some (.pointer (some ⟨b, 0, none⟩)) => some b
  | some (.slice (some ⟨b, 0, none⟩) _ _) => some b
  | _ => none

def RepL (w : World) (G : Nat → Nat) (pt : Nat → Nat → Option Value) : D → Value → Prop
  | .undef, _ => True
  | .bool b, v => v = .bool b
  | .int k n, v => v = .int k n ∧ k.has n
  | .str l, v => ∃ s, v = .string s ∧ sby s = l ∧ l.length ≤ mlen
  | .nils, v => v = .slice none 0 0
  | .sl f t l, v => ∃ a n c, v = .slice a n c ∧ n = l.length ∧ n * t.bsz ≤ big ∧ SlR w G f t l a c
  | .ptr id st off, v => ∃ b, blkOf (pt id st) = some b ∧ v = .pointer (some ⟨b, off, none⟩)
  | .eptr id st i off es, v => ∃ b, blkOf (pt id st) = some b ∧ v = .pointer (some ⟨b, i * es + off, none⟩)
  | .gptr g off, v => v = .pointer (some ⟨g, off, none⟩)
  | .vptr t l i off, v => ∃ b o, v = .pointer (some ⟨b, o + i * t.nc + off, none⟩) ∧ i < l.length ∧ o + l.length * t.nc ≤ G b ∧ RepE w G t l b o
  | .csl t l, v => ∃ a n, v = .slice a n n ∧ n = l.length ∧ n * t.bsz ≤ big ∧ SlR w G 0 t l a n
  | .rsl id st, v => pt id st = some v
  | .fnc f, v => v = .func (.func f) #[] #[]
  | .clo f t x, v => ∃ b o, v = .func (.func f) #[] #[.pointer (some ⟨b, o, none⟩)] ∧ o + t.nc ≤ G b ∧ RepC w G t x b o
  | .av k l, v => ∃ arr, v = .agg arr ∧ arr.size = l.length ∧ ∀ j (h : j < l.length), arr.getD j undef = .int k l[j] ∧ k.has l[j]
  | .vpa k l, v => ∃ b o, v = .pointer (some ⟨b, o, none⟩) ∧ o + l.length ≤ G b ∧ RepE w G (.int k) l b o
  | .wnd id st n, v => ((∃ b c, blkOf (pt id st) = some b ∧ v = .slice (some ⟨b, 0, none⟩) n c) ∨ (n = 0 ∧ v = .slice none 0 0)) ∧ n ≤ mlen
  | _, _ => False

def RepLs (w : World) (G : Nat → Nat) (pt : Nat → Nat → Option Value) (ds : List D) (f : Nat → Value) : Prop :=
  ∀ j (h : j < ds.length), RepL w G pt ds[j] (f j) ∧ (f j).oneCell' = true

def arrF (arr : Array Value) (j : Nat) : Value := arr.getD j undef

def Rep1 (w : World) (G : Nat → Nat) (pt : Nat → Nat → Option Value) (d : D) (v : Value) : Prop :=
  match d with
  | .agg cs => ∃ arr, v = .agg arr ∧ arr.size = cs.length ∧ RepLs w G pt cs (arrF arr)
  | d => RepL w G pt d v

def ctL (b : Nat) : D → Value → Nat
  | .sl f _ _, .slice (some a) _ _ => if f ≠ 0 ∧ a.block = b then 1 else 0
  | _, _ => 0
def ctLs (b : Nat) (ds : List D) (f : Nat → Value) : Nat :=
  match ds with
  | [] => 0
  | d :: r => ctL b d (f 0) + ctLs b r (fun i => f (i + 1))
def RepV (w : World) (G : Nat → Nat) (pt : Nat → Nat → Option Value) (d : D) (v : Value) : Prop :=
  match d with
  | .agg cs => ∃ arr, v = .agg arr ∧ arr.size = cs.length ∧ RepLs w G pt cs (arrF arr)
  | .tup vs => ∃ arr, v = .tuple arr ∧ arr.size = vs.length ∧ ∀ j (h : j < vs.length), Rep1 w G pt vs[j] (arrF arr j)
  | .fn f caps => ∃ arr, v = .func (.func f) #[] arr ∧ arr.size = caps.length ∧ RepLs w G pt caps (arrF arr) ∧ ∀ b, ctLs b caps (arrF arr) = 0
  | d => RepL w G pt d v

def bcell (w : World) (b j : Nat) : Value := (w.cell? ⟨b, j, none⟩).getD undef

def RepB (w : World) (G : Nat → Nat) (pt : Nat → Nat → Option Value) (id : Nat) (d : D) : Prop :=
  match d with
  | .undef => True
  | .boxv st live cs => live = true → ∃ b, pt id st = some (.pointer (some ⟨b, 0, none⟩)) ∧ Room w b cs.length ∧ G b = 0 ∧ RepLs w G pt cs (bcell w b)
  | .arrv st live ar t l => live = true → if ar = true
      then ∃ b, pt id st = some (.pointer (some ⟨b, 0, none⟩)) ∧ Room w b (l.length * t.nc) ∧ G b = 0 ∧ RepE w G t l b 0
      else ∃ a n c, pt id st = some (.slice a n c) ∧ n = l.length ∧ n * t.bsz ≤ big ∧ SlR w G 2 t l a c
  | _ => False

def ct1 (b : Nat) (d : D) (v : Value) : Nat :=
  match d, v with
  | .agg cs, .agg arr => ctLs b cs (arrF arr)
  | d, v => ctL b d v
def ct1s (b : Nat) (ds : List D) (f : Nat → Value) : Nat :=
  match ds with
  | [] => 0
  | d :: r => ct1 b d (f 0) + ct1s b r (fun i => f (i + 1))
def ctV (b : Nat) (d : D) (v : Value) : Nat :=
  match d, v with
  | .agg cs, .agg arr => ctLs b cs (arrF arr)
  | .tup vs, .tuple arr => ct1s b vs (arrF arr)
  | d, v => ctL b d v
def isBlk (b : Nat) (v : Option Value) : Nat := if blkOf v = some b then 1 else 0
def ctB (w : World) (pt : Nat → Nat → Option Value) (b id : Nat) (d : D) : Nat :=
  match d with
  | .boxv st true cs => isBlk b (pt id st) + ctLs b cs (bcell w ((blkOf (pt id st)).getD 0))
  | .arrv st true _ _ _ => isBlk b (pt id st)
  | _ => 0

theorem Room.same {w w' : World} {b k : Nat} (h : Room w b k) (hb : w'.heap[b]? = w.heap[b]?) : Room w' b k := by
  obtain ⟨cur, e, fr, h1, h2⟩ := h
  exact ⟨cur, e, fr, hb.trans h1, h2⟩

theorem cell_of_heap {w w' : World} {b : Nat} (hb : w'.heap[b]? = w.heap[b]?) (o : Nat) : w'.cell? ⟨b, o, none⟩ = w.cell? ⟨b, o, none⟩ := by
  simp [World.cell?, hb]

theorem RepL.mono {w w' : World} {G G' : Nat → Nat} {pt pt' : Nat → Nat → Option Value} (hE : Ext w G w' G')
    (hpt : ∀ id st v, pt id st = some v → pt' id st = some v) {d : D} {v : Value} (h : RepL w G pt d v)
    (hx : ∀ b, 0 < ctL b d v → w'.heap[b]? = w.heap[b]? ∧ G' b = G b) : RepL w' G' pt' d v := by
  have hblk : ∀ id st b, blkOf (pt id st) = some b → blkOf (pt' id st) = some b := by
    intro id st b hb
    cases hp : pt id st with
    | none => rw [hp] at hb; simp [blkOf] at hb
    | some u => rw [hpt id st u hp]; rw [hp] at hb; exact hb
  cases d with
  | undef => trivial
  | bool b => exact h
  | int k n => exact h
  | str l => exact h
  | nils => exact h
  | sl f t l =>
    obtain ⟨a, n, c, h1, h2, h3, h4⟩ := h
    refine ⟨a, n, c, h1, h2, h3, ?_⟩
    match f, h4, hx with
    | 0, h4, _ =>
      refine ⟨h4.1, ?_⟩
      rcases h4.2 with h4 | ⟨b, o, h5, h6, h7⟩
      · exact .inl h4
      · exact .inr ⟨b, o, h5, Nat.le_trans h6 (hE.le b), h7.mono hE fun j hj1 hj2 => hE.cell b j (by omega)⟩
    | 1, h4, hx =>
      rcases h4 with h4 | ⟨b, h5, h6, h7, h8, h9⟩
      · exact .inl h4
      · subst h1; subst h5
        obtain ⟨q1, q2⟩ := hx b (by simp [ctL])
        exact .inr ⟨b, rfl, q2.trans h6, h7.same q1, h8, h9.1.mono hE fun j _ _ => cell_of_heap q1 j, h9.2⟩
    | 2, h4, hx =>
      rcases h4 with h4 | ⟨b, h5, h6, h7, h8, h9⟩
      · exact .inl h4
      · subst h1; subst h5
        obtain ⟨q1, q2⟩ := hx b (by simp [ctL])
        exact .inr ⟨b, rfl, q2.trans h6, h7.same q1, h8, h9.1.mono hE fun j _ _ => cell_of_heap q1 j, h9.2⟩
    | (k + 3), h4, _ => exact h4.elim
  | ptr id st off => obtain ⟨b, h1, h2⟩ := h; exact ⟨b, hblk _ _ _ h1, h2⟩
  | eptr id st i off es => obtain ⟨b, h1, h2⟩ := h; exact ⟨b, hblk _ _ _ h1, h2⟩
  | gptr g off => exact h
  | vptr t l i off =>
    obtain ⟨b, o, h1, h2, h3, h4⟩ := h
    exact ⟨b, o, h1, h2, Nat.le_trans h3 (hE.le b), h4.mono hE fun j hj1 hj2 => hE.cell b j (by omega)⟩
  | csl t l =>
    obtain ⟨a, n, h1, h2, h3, h4⟩ := h
    refine ⟨a, n, h1, h2, h3, h4.1, ?_⟩
    rcases h4.2 with h4 | ⟨b, o, h5, h6, h7⟩
    · exact .inl h4
    · exact .inr ⟨b, o, h5, Nat.le_trans h6 (hE.le b), h7.mono hE fun j hj1 hj2 => hE.cell b j (by omega)⟩
  | rsl id st => exact hpt _ _ _ h
  | agg cs => exact h.elim
  | tup cs => exact h.elim
  | fn f cs => exact h.elim
  | boxv st live cs => exact h.elim
  | arrv st live ar t l => exact h.elim
  | fnc f => exact h
  | clo f t x =>
    obtain ⟨b, o, h1, h2, h3⟩ := h
    exact ⟨b, o, h1, Nat.le_trans h2 (hE.le b), h3.mono hE fun j hj1 hj2 => hE.cell b j (by omega)⟩
  | av k l => exact h
  | vpa k l =>
    obtain ⟨b, o, h1, h2, h3⟩ := h
    exact ⟨b, o, h1, Nat.le_trans h2 (hE.le b), h3.mono hE fun j hj1 hj2 => hE.cell b j (by simp only [Ty.nc, Nat.mul_one] at hj2; omega)⟩
  | wnd id st n =>
    obtain ⟨h, hn⟩ := h
    rcases h with ⟨b, c, h1, h2⟩ | h
    · exact ⟨.inl ⟨b, c, hblk _ _ _ h1, h2⟩, hn⟩
    · exact ⟨.inr h, hn⟩

theorem ctLs_get {b : Nat} : ∀ {ds : List D} {f : Nat → Value} (j : Nat) (h : j < ds.length), ctL b ds[j] (f j) ≤ ctLs b ds f
  | d :: r, f, 0, _ => by simp [ctLs]
  | d :: r, f, j + 1, h => by
    have := ctLs_get (b := b) (ds := r) (f := fun i => f (i + 1)) j (by simpa using h)
    simp only [ctLs, List.getElem_cons_succ]
    omega
theorem ct1s_get {b : Nat} : ∀ {ds : List D} {f : Nat → Value} (j : Nat) (h : j < ds.length), ct1 b ds[j] (f j) ≤ ct1s b ds f
  | d :: r, f, 0, _ => by simp [ct1s]
  | d :: r, f, j + 1, h => by
    have := ct1s_get (b := b) (ds := r) (f := fun i => f (i + 1)) j (by simpa using h)
    simp only [ct1s, List.getElem_cons_succ]
    omega

section
variable {w w' : World} {G G' : Nat → Nat} {pt pt' : Nat → Nat → Option Value} (hE : Ext w G w' G')
    (hpt : ∀ id st v, pt id st = some v → pt' id st = some v)
include hE hpt

theorem RepLs.mono {ds : List D} {f f' : Nat → Value} (h : RepLs w G pt ds f) (hf : ∀ j, j < ds.length → f' j = f j)
    (hx : ∀ b, 0 < ctLs b ds f → w'.heap[b]? = w.heap[b]? ∧ G' b = G b) : RepLs w' G' pt' ds f' := by
  intro j hj
  rw [hf j hj]
  exact ⟨(h j hj).1.mono hE hpt fun b hb => hx b (Nat.lt_of_lt_of_le hb (ctLs_get j hj)), (h j hj).2⟩

theorem Rep1.mono {d : D} {v : Value} (h : Rep1 w G pt d v)
    (hx : ∀ b, 0 < ct1 b d v → w'.heap[b]? = w.heap[b]? ∧ G' b = G b) : Rep1 w' G' pt' d v := by
  cases d with
  | agg cs =>
    obtain ⟨arr, rfl, h2, h3⟩ := h
    exact ⟨arr, rfl, h2, h3.mono hE hpt (fun _ _ => rfl) hx⟩
  | _ =>
    simp only [Rep1] at h ⊢
    exact RepL.mono hE hpt h (by simpa only [ct1] using hx)

theorem RepV.mono {d : D} {v : Value} (h : RepV w G pt d v)
    (hx : ∀ b, 0 < ctV b d v → w'.heap[b]? = w.heap[b]? ∧ G' b = G b) : RepV w' G' pt' d v := by
  cases d with
  | agg cs =>
    obtain ⟨arr, rfl, h2, h3⟩ := h
    exact ⟨arr, rfl, h2, h3.mono hE hpt (fun _ _ => rfl) hx⟩
  | tup vs =>
    obtain ⟨arr, rfl, h2, h3⟩ := h
    exact ⟨arr, rfl, h2, fun j hj => (h3 j hj).mono hE hpt fun b hb => hx b (Nat.lt_of_lt_of_le hb (ct1s_get j hj))⟩
  | fn f caps =>
    obtain ⟨arr, rfl, h2, h3, h4⟩ := h
    exact ⟨arr, rfl, h2, h3.mono hE hpt (fun _ _ => rfl) (fun b hb => by have := h4 b; omega), h4⟩
  | _ =>
    simp only [RepV] at h ⊢
    exact RepL.mono hE hpt h (by simpa only [ctV] using hx)

theorem RepB.mono {id : Nat} {d : D} (h : RepB w G pt id d)
    (hx : ∀ b, 0 < ctB w pt b id d → w'.heap[b]? = w.heap[b]? ∧ G' b = G b) : RepB w' G' pt' id d := by
  cases d with
  | undef => trivial
  | boxv st live cs =>
    intro hl
    subst hl
    obtain ⟨b, h1, h2, h3, h4⟩ := h rfl
    have hb : blkOf (pt id st) = some b := by rw [h1]; rfl
    obtain ⟨q1, q2⟩ := hx b (by simp [ctB, isBlk, hb] <;> omega)
    refine ⟨b, hpt _ _ _ h1, h2.same q1, q2.trans h3, h4.mono hE hpt (fun j _ => by simp [bcell, cell_of_heap q1]) fun b' hb' => hx b' ?_⟩
    simp only [ctB, hb, Option.getD_some]
    omega
  | arrv st live ar t l =>
    intro hl
    subst hl
    have h' := h rfl
    cases ar with
    | true =>
      simp only [if_true] at h' ⊢
      obtain ⟨b, h1, h2, h3, h4⟩ := h'
      have hb : blkOf (pt id st) = some b := by rw [h1]; rfl
      obtain ⟨q1, q2⟩ := hx b (by simp [ctB, isBlk, hb] <;> omega)
      exact ⟨b, hpt _ _ _ h1, h2.same q1, q2.trans h3, h4.mono hE fun j _ _ => cell_of_heap q1 j⟩
    | false =>
      simp only [Bool.false_eq_true, if_false] at h' ⊢
      obtain ⟨a, n, c, h1, h2, h3, h4⟩ := h'
      refine ⟨a, n, c, hpt _ _ _ h1, h2, h3, ?_⟩
      rcases h4 with h4 | ⟨b, h5, h6, h7, h8, h9⟩
      · exact .inl h4
      · subst h5
        have hb : blkOf (pt id st) = some b := by rw [h1]; rfl
        obtain ⟨q1, q2⟩ := hx b (by simp [ctB, isBlk, hb] <;> omega)
        exact .inr ⟨b, rfl, q2.trans h6, h7.same q1, h8, h9.1.mono hE fun j _ _ => cell_of_heap q1 j, h9.2⟩
  | _ => exact h.elim


omit hE in
theorem ctB_same {id : Nat} {d : D} (h : RepB w G pt id d)
    (hx : ∀ b, 0 < ctB w pt b id d → w'.heap[b]? = w.heap[b]? ∧ G' b = G b) (b : Nat) : ctB w' pt' b id d = ctB w pt b id d := by
  cases d with
  | boxv st live cs =>
    cases live with
    | false => rfl
    | true =>
      obtain ⟨b0, h1, _⟩ := h rfl
      have hb : blkOf (pt id st) = some b0 := by rw [h1]; rfl
      obtain ⟨q1, q2⟩ := hx b0 (by simp [ctB, isBlk, hb] <;> omega)
      simp only [ctB, hpt _ _ _ h1, h1, blkOf, Option.getD_some]
      congr 1
      exact congrArg _ (funext fun j => by simp [bcell, cell_of_heap q1])
  | arrv st live ar t l =>
    cases live with
    | false => rfl
    | true =>
      have h' := h rfl
      cases ar with
      | true =>
        simp only [if_true] at h'
        obtain ⟨b0, h1, _⟩ := h'
        simp only [ctB, hpt _ _ _ h1, h1]
      | false =>
        simp only [Bool.false_eq_true, if_false] at h'
        obtain ⟨a, n, c, h1, _⟩ := h'
        simp only [ctB, hpt _ _ _ h1, h1]
  | _ => rfl
end

end Go.Abs

namespace Go.Abs

structure Env where
  T : Nat → Option TI
  md : Nat → Nat
  glob : Nat → Option (IntKind × List Int)
  n : Nat
  hp : Bool

def tag (E : Env) (o : Oper) : Nat :=
  match o.dst with
  | some t => bif Nat.beq (E.md t) 5 then 1 else E.md t
  | none => 0

def opd (s : St) : Operand → D
  | .tmp t => get s (2 * t)
  | .const v => ofV v
  | .global g => .gptr g 0
  | .func f => .fnc f

def srcU (s : St) (x : Operand) (f : D → D) (h : D → Bool) : St :=
  match x with
  | .tmp t => bif h (get s (2 * t)) then [(2 * t, f (get s (2 * t)))] else []
  | _ => []

def dstU (o : Oper) (d : D) : St :=
  match o.dst with
  | some t => [(2 * t, d)]
  | none => []

def isTup : D → Bool
  | .tup _ => true
  | _ => false

def curSt : D → Nat
  | .boxv st _ _ => st
  | .arrv st _ _ _ _ => st
  | _ => 0

def leaves : D → List D
  | .agg cs => cs
  | d => [d]

def allInts (k : IntKind) : List D → Option (List Int)
  | [] => some []
  | .int k' n :: r => bif kbeq k k' then (match allInts k r with | some l => some (n :: l) | none => none) else none
  | _ :: _ => none

def repl (cs : List D) (off : Nat) (ds : List D) : List D := cs.take off ++ (ds ++ cs.drop (off + ds.length))

def aMove0 (E : Env) (o : Oper) (s : St) (x : Operand) : Option (Bool × St) :=
  let d := opd s x
  bif Nat.beq (tag E o) 1 || isTup d then some (true, srcU s x strip hasX ++ dstU o d)
  else some (true, srcU s x share hasU ++ dstU o (view d))

def aMove6 (o : Oper) (s : St) (x : Operand) : Option (Bool × St) :=
  match x with
  | .tmp t => match get s (2 * t) with
    | .sl 1 ty l => some (true, (2 * t, .sl 0 ty l) :: dstU o (.sl 1 ty l))
    | _ => some (true, srcU s (.tmp t) strip hasX ++ dstU o (opd s (.tmp t)))
  | x => some (true, srcU s x strip hasX ++ dstU o (opd s x))

def aMove (E : Env) (o : Oper) (s : St) (x : Operand) : Option (Bool × St) :=
  bif Nat.beq (tag E o) 6 then aMove6 o s x else aMove0 E o s x

def aMove9 (E : Env) (o : Oper) (s : St) (x : Operand) : Option (Bool × St) :=
  match o.dst with
  | some dst => match opd s x with
    | .tup (.agg (.sl f t l :: cs) :: vs) => bif Nat.beq f 2 && Nat.blt 0 t.nc then
        some (true, srcU s x strip hasX ++ dstU o (opd s x) ++ [(2 * dst + 1, .arrv (curSt (get s (2 * dst + 1)) + 1) true false t l), (2 * dst, .tup (.agg (.rsl dst (curSt (get s (2 * dst + 1)) + 1) :: cs) :: vs))]) else none
    | _ => none
  | none => none

def tyOf (E : Env) (T : Nat) : Ty :=
  match E.T T with
  | some i => i.ty
  | none => .unit

def aAssign (E : Env) (o : Oper) (s : St) (x : Operand) : Option (Bool × St) :=
  let d := retype (tyOf E o.type) (opd s x)
  bif isTup d then none else
  match tag E o with
  | 3 => match d, o.dst with
    | .sl f t l, some dst => bif Nat.beq f 2 && Nat.blt 0 t.nc then
        let st := curSt (get s (2 * dst + 1)) + 1
        some (true, srcU s x strip hasX ++ [(2 * dst + 1, .arrv st true false t l), (2 * dst, .rsl dst st)]) else none
    | _, _ => none
  | 2 => some (true, srcU s x strip hasX ++ dstU o d)
  | _ => some (true, srcU s x strip hasX ++ dstU o (share d))

def isDat : D → Bool
  | .undef | .rsl _ _ | .tup _ | .fn _ _ | .boxv _ _ _ | .arrv _ _ _ _ _ | .wnd _ _ _ | .fnc _ | .av _ _ | .vpa _ _ => false
  | _ => true

def decN (t : Ty) : Nat → List D → Option (List t.den)
  | 0, [] => some []
  | 0, _ :: _ => none
  | n + 1, ds => match dec t ds with
    | some (x, r) => (match decN t n r with | some l => some (x :: l) | none => none)
    | none => none

def allZ : List Int → Bool
  | [] => true
  | .ofNat 0 :: r => allZ r
  | _ => false
def zeroRow (n : Nat) : (t : Ty) → List t.den → List t.den
  | .int _, l => bif Nat.blt 64 n && (Nat.beq (l : List Int).length n && allZ l) then (List.replicate n (0 : Int) : List Int) else l
  | _, l => l
theorem allZ_eq : ∀ {l : List Int}, allZ l = true → l = List.replicate l.length 0
  | [], _ => rfl
  | .ofNat 0 :: r, h => by rw [List.length_cons, List.replicate_succ, ← allZ_eq (l := r) h]; rfl
  | .ofNat (_ + 1) :: _, h => absurd (show false = true from h) (by decide)
  | .negSucc _ :: _, h => absurd (show false = true from h) (by decide)
theorem zeroRow_eq (n : Nat) : ∀ (t : Ty) (l : List t.den), zeroRow n t l = l
  | .int _, l => by
    show (bif Nat.blt 64 n && (Nat.beq (l : List Int).length n && allZ l) then (List.replicate n (0 : Int) : List Int) else l) = l
    cases h : (Nat.blt 64 n && (Nat.beq (l : List Int).length n && allZ l)) with
    | false => rfl
    | true =>
      simp only [Bool.and_eq_true] at h
      have h1 := Nat.eq_of_beq_eq_true h.2.1
      have h2 := allZ_eq h.2.2
      rw [h1] at h2
      exact h2.symm
  | .bool, _ | .str, _ | .sl _, _ | .unit, _ | .cons _ _, _ | .st _ _, _ | .clo _ _, _ => rfl

def aAlloc (E : Env) (o : Oper) (s : St) (T : Nat) : Option (Bool × St) :=
  match E.T T, o.dst with
  | some i, some dst =>
    let st := curSt (get s (2 * dst + 1)) + 1
    match i.arr with
    | some t => match decN t (i.size / t.nc) i.zero with
      | some l => bif Nat.beq (i.size / t.nc * t.nc) i.size then some (true, [(2 * dst + 1, .arrv st true true t (zeroRow i.size t l)), (2 * dst, .ptr dst st 0)]) else none
      | none => none
    | none => some (true, [(2 * dst + 1, .boxv st true i.zero), (2 * dst, .ptr dst st 0)])
  | _, _ => none

def aBox (E : Env) (o : Oper) (s : St) (T : Nat) (x : Operand) : Option (Bool × St) :=
  match E.T T, o.dst with
  | some i, some dst =>
    let st := curSt (get s (2 * dst + 1)) + 1
    let d := retype i.ty (opd s x)
    bif isDat d then
    match i.arr with
    | some t => match decN t (leaves d).length (leaves (view d)) with
      | some l => bif Nat.beq t.nc 1 then some (true, srcU s x share hasU ++ [(2 * dst + 1, .arrv st true true t l), (2 * dst, .ptr dst st 0)]) else none
      | none => none
    | none => bif Nat.beq (tag E o) 2 then some (true, srcU s x strip hasX ++ [(2 * dst + 1, .boxv st true (leaves d)), (2 * dst, .ptr dst st 0)])
      else some (true, srcU s x strip hasX ++ [(2 * dst + 1, .boxv st true ((leaves d).map shareL)), (2 * dst, .ptr dst st 0)])
    else none
  | _, _ => none

def partAt (E : Env) (i : TI) (j : Nat) : Option (Nat × Nat) :=
  match i.desc with
  | .struct fs => match fs.toList[j]? with
    | some f => match E.T f.type with
      | some fi => some (f.offset, fi.size)
      | none => none
    | none => none
  | .array _ e => match E.T e with
    | some ei => some (j * ei.size, ei.size)
    | none => none
  | _ => none

def fit (z : List D) : List D → List D
  | [.nils] => match z with
    | [.sl f t _] => bif Nat.ble f 2 then [.sl f t []] else [.nils]
    | _ => [.nils]
  | ds => ds

def placeAll (pl : Nat → Option (Nat × Nat)) (s : St) (f : D → D) (cs : List D) : List (Nat × Operand) → Option (List D)
  | [] => some cs
  | (j, x) :: r => match pl j with
    | some (off, sz) =>
      let ds := fit ((cs.drop off).take sz) (leaves (f (opd s x)))
      bif isDat (opd s x) && Nat.beq ds.length sz && Nat.ble (off + sz) cs.length then placeAll pl s f (repl cs off ds) r else none
    | none => none

def srcAll (s : St) (f : D → D) (h : D → Bool) : List (Nat × Operand) → St
  | [] => []
  | (_, x) :: r => srcU s x f h ++ srcAll s f h r

def isTmp (t : Nat) : Operand → Bool
  | .tmp u => Nat.beq t u
  | _ => false
def tmpsOf : List (Nat × Operand) → Nat → Bool
  | [], _ => false
  | p :: r, t => isTmp t p.2 || tmpsOf r t

def noDup (s : St) : List (Nat × Operand) → Bool
  | [] => true
  | (_, .tmp t) :: r => (!hasX (get s (2 * t)) || !tmpsOf r t) && noDup s r
  | _ :: r => noDup s r

def fieldsKnown (E : Env) (i : TI) : Bool :=
  match i.desc with
  | .struct fs => fs.toList.all fun f => (E.T f.type).isSome
  | .array _ e => (E.T e).isSome
  | _ => false

def aBuild (E : Env) (o : Oper) (s : St) (T : Nat) (parts : List (Nat × Operand)) : Option (Bool × St) :=
  match E.T T with
  | some i => match placeAll (partAt E i) s (fun d => d) i.zero parts with
    | some cs => bif noDup s parts && fieldsKnown E i then some (true, srcAll s strip hasX parts ++ dstU o (.agg cs)) else none
    | none => none
  | none => none

def rep (n : Nat) (z : List D) : List D :=
  match n with
  | 0 => []
  | n + 1 => z ++ rep n z

def aBuildSlice (E : Env) (o : Oper) (s : St) (T n : Nat) (parts : List (Nat × Operand)) : Option (Bool × St) :=
  match E.T T with
  | some i => match i.desc with
    | .slice e => match E.T e with
      | some ei => match placeAll (fun j => some (j * ei.size, ei.size)) s view (rep n ei.zero) parts with
        | some cs => match decN ei.ty n cs with
          | some l => bif Nat.ble (n * ei.size) 16777216 && Nat.beq ei.size ei.ty.nc && Nat.blt 0 ei.size && Nat.ble (n * ei.ty.bsz) big then
              some (true, srcAll s share hasU parts ++ dstU o (.sl 2 ei.ty l)) else none
          | none => none
        | none => none
      | none => none
    | _ => none
  | none => none

def aBuildBox (E : Env) (o : Oper) (s : St) (T n : Nat) (parts : List (Nat × Operand)) : Option (Bool × St) :=
  match E.T T, o.dst with
  | some i, some dst => match i.desc with
    | .slice e => match E.T e with
      | some ei => match placeAll (fun j => some (j * ei.size, ei.size)) s view (rep n ei.zero) parts with
        | some cs => bif Nat.ble (n * ei.size) 16777216 && Nat.blt 0 ei.size then
            some (true, srcAll s share hasU parts ++ [(2 * dst + 1, .boxv (curSt (get s (2 * dst + 1)) + 1) true cs), (2 * dst, .wnd dst (curSt (get s (2 * dst + 1)) + 1) n)]) else none
        | none => none
      | none => none
    | _ => none
  | _, _ => none

def mk1 (agg : Bool) (ds : List D) : Option D :=
  bif agg then some (.agg ds) else
  match ds with
  | [d] => some d
  | _ => none

def encN (t : Ty) (l : List t.den) (i0 : Nat) : Nat → List D
  | 0 => []
  | n + 1 => enc t (l.getD i0 t.dflt) ++ encN t l (i0 + 1) n
theorem encN_eq {t : Ty} {l : List t.den} : ∀ (n i0 : Nat), i0 + n ≤ l.length → encN t l i0 n = ((l.drop i0).take n).flatMap (enc t)
  | 0, i0, _ => by simp [encN]
  | n + 1, i0, h => by
    have hlt : i0 < l.length := by omega
    rw [encN, encN_eq n (i0 + 1) (by omega), List.drop_eq_getElem_cons hlt, List.take_succ_cons, List.flatMap_cons]
    have e : l.getD i0 t.dflt = l[i0] := by simp [hlt]
    rw [e]

def mkAv (n : Nat) : (t : Ty) → List t.den → D
  | .int k, l => bif Nat.blt 64 n then .av k l else .agg (l.flatMap (enc (.int k)))
  | t, l => .agg (l.flatMap (enc t))

def aLoad (E : Env) (o : Oper) (s : St) (T : Nat) (x : Operand) : Option (Bool × St) :=
  match E.T T with
  | some i => match opd s x with
    | .ptr id st off => match get s (2 * id + 1) with
      | .boxv st' true cs =>
        let ds := (cs.drop off).take i.size
        bif Nat.beq st st' && Nat.beq ds.length i.size && Nat.blt 0 i.size then
        (match tag E o with
        | 3 => match ds, o.dst with
          | [.sl f t l], some dst =>
            let st2 := curSt (get s (2 * dst + 1)) + 1
            bif Nat.beq f 2 && Nat.blt 0 t.nc && !Nat.beq dst id && !i.agg then
              some (true, [(2 * id + 1, .boxv st true (repl cs off [.rsl dst st2])), (2 * dst + 1, .arrv st2 true false t l), (2 * dst, .rsl dst st2)]) else none
          | [.rsl a b], _ => bif i.agg then none else some (true, dstU o (.rsl a b))
          | _, _ => none
        | 1 => match mk1 i.agg ds with
          | some d => some (true, (2 * id + 1, .boxv st true (repl cs off (ds.map stripL))) :: dstU o d)
          | none => none
        | _ => match mk1 i.agg (ds.map viewL) with
          | some d => some (true, (bif ds.any hasUL then [(2 * id + 1, .boxv st true (repl cs off (ds.map shareL)))] else []) ++ dstU o d)
          | none => none) else none
      | .arrv st' true true t l => bif Nat.beq st st' && Nat.beq off 0 && i.agg && Nat.beq t.nc 1 then
          some (Nat.beq l.length i.size, dstU o (mkAv i.size t l)) else none
      | _ => none
    | .eptr id st i0 off es => match get s (2 * id + 1) with
      | .arrv st' true _ t l =>
        bif i.agg && Nat.beq t.nc 1 && Nat.blt 1 i.size then
          (bif Nat.beq st st' && Nat.beq off 0 && Nat.beq es 1 then some (Nat.ble (i0 + i.size) l.length, dstU o (.agg (encN t l i0 i.size))) else none) else
        match mk1 i.agg (((enc t (l.getD i0 t.dflt)).drop off).take i.size) with
        | some d => bif Nat.beq st st' && Nat.beq es t.nc && Nat.ble (off + i.size) t.nc then some (Nat.blt i0 l.length, dstU o d) else none
        | none => none
      | _ => none
    | .gptr g off => match E.glob g, i.desc with
      | some (k, l), .int k' => bif kbeq k k' && !i.agg && Nat.beq i.size 1 then some (Nat.blt off l.length, dstU o (.int k (l.getD off 0))) else none
      | some (k, l), .struct _ => bif i.agg then some (Nat.ble (off + i.size) l.length, dstU o (.agg (((l.drop off).take i.size).map (.int k)))) else none
      | _, _ => none
    | .vptr t l i0 off =>
        match mk1 i.agg (((enc t (l.getD i0 t.dflt)).drop off).take i.size) with
        | some d => bif Nat.ble (off + i.size) t.nc then some (true, dstU o d) else none
        | none => none
    | _ => none
  | none => none

def keepB (E : Env) : Operand → Bool
  | .tmp t => Nat.beq (E.md t) 2 || Nat.beq (E.md t) 5
  | _ => false
def keepLs (E : Env) (x : Operand) (ds : List D) : List D := bif keepB E x then ds else ds.map shareL

def aStore0 (E : Env) (_o : Oper) (s : St) (T : Nat) (a x : Operand) : Option (Bool × St) :=
  match E.T T with
  | some i =>
    let d := retype i.ty (opd s x)
    bif isDat d then
    match opd s a with
    | .ptr id st off => match get s (2 * id + 1) with
      | .boxv st' true cs =>
        let ds := keepLs E x (leaves d)
        bif Nat.beq st st' && Nat.beq ds.length i.size && Nat.ble (off + i.size) cs.length then
          some (true, srcU s x strip hasX ++ [(2 * id + 1, .boxv st true (repl cs off ds))]) else none
      | .arrv st' true true t l => match decN t l.length (leaves (view d)) with
        | some l' => bif Nat.beq st st' && Nat.beq off 0 && i.agg && Nat.beq t.nc 1 then some (Nat.beq l.length i.size, srcU s x share hasU ++ [(2 * id + 1, .arrv st true true t l')]) else none
        | none => none
      | _ => none
    | .eptr id st i0 off es => match get s (2 * id + 1) with
      | .arrv st' true ar t l =>
        match dec t (repl (enc t (l.getD i0 t.dflt)) off (leaves (view d))) with
        | some (v, []) => bif Nat.beq st st' && Nat.beq es t.nc && Nat.beq (leaves d).length i.size && Nat.ble (off + i.size) t.nc then
            some (Nat.blt i0 l.length, srcU s x share hasU ++ [(2 * id + 1, .arrv st true ar t (l.set i0 v))]) else none
        | _ => none
      | _ => none
    | _ => none
    else none
  | none => none

def aStoreAv (E : Env) (s : St) (T : Nat) (a : Operand) (k : IntKind) (l' : List Int) : Option (Bool × St) :=
  match E.T T with
  | some i => match opd s a with
    | .ptr id st off => match get s (2 * id + 1) with
      | .arrv st' true true (.int k') l => bif Nat.beq st st' && Nat.beq off 0 && i.agg && kbeq k k' then
          some (Nat.beq l.length i.size && Nat.beq l'.length i.size, [(2 * id + 1, .arrv st true true (.int k) (fixN i.size l'))]) else none
      | _ => none
    | _ => none
  | none => none
def aStore (E : Env) (o : Oper) (s : St) (T : Nat) (a x : Operand) : Option (Bool × St) :=
  match opd s x with
  | .av k l' => aStoreAv E s T a k l'
  | _ => aStore0 E o s T a x

def isPtr : D → Bool
  | .ptr _ _ _ | .eptr _ _ _ _ _ | .gptr _ _ | .vptr _ _ _ _ | .vpa _ _ => true
  | .fn _ _ | .fnc _ => true
  | _ => false

def aNilCheck (o : Oper) (s : St) (x : Operand) : Option (Bool × St) :=
  let d := opd s x
  bif isPtr d then some (true, dstU o d) else none

def arith (op : BinOp) (k : IntKind) (x y : Int) : Option (Bool × D) :=
  match op with
  | .add => some (true, .int k (k.wrap (x + y)))
  | .sub => some (true, .int k (k.wrap (x - y)))
  | .mul => some (true, .int k (k.wrap (x * y)))
  | .quo => some (!(y == 0), .int k (k.wrap (x.tdiv y)))
  | .rem => some (!(y == 0), .int k (x.tmod y))
  | .and => some (true, .int k (k.wrap (BitVec.ofInt k.bits x &&& BitVec.ofInt k.bits y).toNat))
  | .or => some (true, .int k (k.wrap (BitVec.ofInt k.bits x ||| BitVec.ofInt k.bits y).toNat))
  | .xor => some (true, .int k (k.wrap (BitVec.ofInt k.bits x ^^^ BitVec.ofInt k.bits y).toNat))
  | .andNot => some (true, .int k (k.wrap (BitVec.ofInt k.bits x &&& ~~~BitVec.ofInt k.bits y).toNat))
  | .eql => some (true, .bool (x == y))
  | .neq => some (true, .bool (x != y))
  | .lss => some (true, .bool (decide (x < y)))
  | .leq => some (true, .bool (decide (x ≤ y)))
  | .gtr => some (true, .bool (decide (x > y)))
  | .geq => some (true, .bool (decide (x ≥ y)))
  | _ => none

def shifts (op : BinOp) (k : IntKind) (x y : Int) : Option (Bool × D) :=
  match op with
  | .shl => some (decide (0 ≤ y), .int k (k.wrap (x * 2 ^ min y.toNat k.bits)))
  | .shr => some (decide (0 ≤ y), .int k (x.fdiv (2 ^ min y.toNat k.bits)))
  | _ => none

def isShift : BinOp → Bool
  | .shl | .shr => true
  | _ => false

def eqLs : List D → List D → Option Bool
  | [], [] => some true
  | .int k x :: r, .int k' y :: r' => bif kbeq k k' then (match eqLs r r' with | some b => some ((x == y) && b) | none => none) else none
  | .bool x :: r, .bool y :: r' => (match eqLs r r' with | some b => some ((x == y) && b) | none => none)
  | .str x :: r, .str y :: r' => (match eqLs r r' with | some b => some ((x == y) && b) | none => none)
  | _, _ => none

def ltBytes : List Int → List Int → Bool
  | _, [] => false
  | [], _ :: _ => true
  | a :: x, b :: y => decide (a < b) || ((a == b) && ltBytes x y)

def strOp (op : BinOp) (x y : List Int) : Option (Bool × D) :=
  match op with
  | .add => some (Nat.ble (x.length + y.length) mlen, .str (x ++ y))
  | .eql => some (true, .bool (x == y))
  | .neq => some (true, .bool (!(x == y)))
  | .lss => some (true, .bool (ltBytes x y))
  | .leq => some (true, .bool (ltBytes x y || x == y))
  | .gtr => some (true, .bool (!(ltBytes x y || x == y)))
  | .geq => some (true, .bool (!ltBytes x y))
  | _ => none

def confL : D → Nat → Bool
  | .int _ _, k => Nat.beq k 0
  | .bool _, k => Nat.beq k 1
  | .str _, k => Nat.beq k 2
  | _, _ => false
def conf : List D → List Nat → Bool
  | [], [] => true
  | d :: r, k :: ks => confL d k && conf r ks
  | _, _ => false

def cmpOk (E : Env) (T : Nat) (a : List D) : Bool :=
  match E.T T with
  | some i => match i.cmp with
    | some ks => i.agg && conf a ks
    | none => false
  | none => false

def aBin (E : Env) (o : Oper) (s : St) (op : BinOp) (xT : Nat) (x y : Operand) : Option (Bool × St) :=
  match opd s x, opd s y with
  | .int k a, .int k' b =>
    bif isShift op then (match shifts op k a b with | some (g, d) => some (g, dstU o d) | none => none)
    else bif kbeq k k' then (match arith op k a b with | some (g, d) => some (g, dstU o d) | none => none) else none
  | .str a, .str b => (match strOp op a b with | some (g, d) => some (g, dstU o d) | none => none)
  | .bool a, .bool b => (match E.T xT with
    | some i => (match i.desc, op with
      | .bool, .eql => some (true, dstU o (.bool (a == b)))
      | .bool, .neq => some (true, dstU o (.bool (!(a == b))))
      | _, _ => none)
    | none => none)
  | .agg a, .agg b => bif cmpOk E xT a then (match eqLs a b, op with
    | some r, .eql => some (true, dstU o (.bool r))
    | some r, .neq => some (true, dstU o (.bool (!r)))
    | _, _ => none) else none
  | _, _ => none

def aUn (o : Oper) (s : St) (op : UnOp) (x : Operand) : Option (Bool × St) :=
  match op, opd s x with
  | .not, .bool b => some (true, dstU o (.bool (!b)))
  | .neg, .int k n => some (true, dstU o (.int k (k.wrap (0 - n))))
  | .xor, .int k n => some (true, dstU o (.int k (k.wrap (BitVec.ofInt k.bits (if k.signed then -1 else k.max) ^^^ BitVec.ofInt k.bits n).toNat)))
  | _, _ => none

def isByteT (E : Env) (T : Nat) : Bool :=
  match E.T T with
  | some i => match i.desc with
    | .slice e => match E.T e with
      | some ei => match ei.desc with
        | .int .u8 => Nat.beq ei.size 1 && Nat.beq ei.bytes 1
        | _ => false
      | none => false
    | _ => false
  | none => false

def content (s : St) : D → Option ((t : Ty) × List t.den)
  | .sl _ t l => some ⟨t, l⟩
  | .rsl id st => match get s (2 * id + 1) with
    | .arrv st' true false t l => bif Nat.beq st st' then some ⟨t, l⟩ else none
    | _ => none
  | _ => none

def asBytes : ((t : Ty) × List t.den) → Option (List Int)
  | ⟨.int .u8, l⟩ => some l
  | _ => none

def aConv (E : Env) (o : Oper) (s : St) (src dst : Nat) (x : Operand) : Option (Bool × St) :=
  match E.T src, E.T dst with
  | some a, some b => match a.desc, b.desc, opd s x with
    | .int _, .int k, .int _ n => some (true, dstU o (.int k (k.wrap n)))
    | .string, .string, .str l => some (true, dstU o (.str l))
    | .string, .slice _, .str l => bif isByteT E dst then some (Nat.ble l.length big, dstU o (.sl 2 (.int .u8) l)) else none
    | .slice _, .string, .nils => bif isByteT E src then some (true, dstU o (.str [])) else none
    | .slice _, .string, d => bif isByteT E src then (match content s d with
        | some c => (match asBytes c with | some l => some (true, dstU o (.str l)) | none => none)
        | none => none) else none
    | _, _, _ => none
  | _, _ => none

def aMakeSlice (E : Env) (o : Oper) (s : St) (T : Nat) (l c : Operand) : Option (Bool × St) :=
  match E.T T with
  | some i => match i.desc with
    | .slice e => match E.T e with
      | some ei => match dec ei.ty ei.zero, opd s l, opd s c with
        | some (z, []), .int _ n, .int _ m =>
          bif Nat.beq ei.size ei.ty.nc && Nat.beq ei.bytes ei.ty.bsz && Nat.blt 0 ei.size && Nat.blt 0 ei.bytes then
            some (decide (0 ≤ n) && decide (n ≤ m) && decide (m * ei.bytes ≤ big), dstU o (.sl 2 ei.ty (List.replicate n.toNat z))) else none
        | _, _, _ => none
      | none => none
    | _ => none
  | none => none

def bound (s : St) (x : Option Operand) (z : Nat) : Option Int :=
  match x with
  | none => some z
  | some x => match opd s x with
    | .int _ n => some n
    | _ => none

def aSlice (E : Env) (o : Oper) (s : St) (T : Nat) (x : Operand) (lo hi : Option Operand) : Option (Bool × St) :=
  match E.T T with
  | some i => match i.desc, opd s x with
    | .slice e, .sl _ t l => match E.T e, bound s lo 0, bound s hi l.length with
      | some ei, some a, some b => bif Nat.beq ei.size t.nc then
          some (decide (0 ≤ a) && decide (a ≤ b) && decide (b ≤ (l.length : Int)), srcU s x share hasU ++ dstU o (.sl 0 t ((l.take b.toNat).drop a.toNat))) else none
      | _, _, _ => none
    | .string, .str l => match bound s lo 0, bound s hi l.length with
      | some a, some b => some (decide (0 ≤ a) && decide (a ≤ b) && decide (b ≤ (l.length : Int)), dstU o (.str ((l.take b.toNat).drop a.toNat)))
      | _, _ => none
    | _, _ => none
  | none => none

def aSlice3 (E : Env) (o : Oper) (s : St) (T : Nat) (x : Operand) (lo : Option Operand) (hi mx : Operand) : Option (Bool × St) :=
  match E.T T with
  | some i => match i.desc, opd s x with
    | .slice e, .sl _ t l => match E.T e, bound s lo 0, bound s (some hi) l.length, bound s (some mx) 0 with
      | some ei, some a, some b, some m => bif Nat.beq ei.size t.nc then
          some (decide (0 ≤ a) && decide (a ≤ b) && decide (b ≤ (l.length : Int)) && decide (m = b), srcU s x share hasU ++ dstU o (.csl t ((l.take b.toNat).drop a.toNat))) else none
      | _, _, _, _ => none
    | _, _ => none
  | none => none

def aSliceR (E : Env) (o : Oper) (s : St) (T : Nat) (x : Operand) (lo hi : Option Operand) : Option (Bool × St) :=
  match E.T T, opd s x, lo with
  | some i, .rsl id st, none => match i.desc, get s (2 * id + 1) with
    | .slice e, .arrv st' true false t l => match E.T e, bound s hi l.length with
      | some ei, some b => bif Nat.beq st st' && Nat.beq ei.size t.nc then
          (bif Nat.beq (tag E o) 7 then
            (bif Nat.blt 0 t.bsz then some (decide (0 ≤ b) && decide (b ≤ (l.length : Int)), dstU o (.wnd id st b.toNat)) else none) else
          some (decide (0 ≤ b) && decide (b ≤ (l.length : Int)), (2 * id + 1, .arrv st false false t []) :: dstU o (.sl 2 t (l.take b.toNat)))) else none
      | _, _ => none
    | _, _ => none
  | _, _, _ => none

def fieldOff (E : Env) (T f : Nat) : Option Nat :=
  match E.T T with
  | some i => match i.desc with
    | .struct fs => match fs.toList[f]? with
      | some fd => match E.T fd.type with
        | some fi => bif Nat.blt 0 fi.size then some fd.offset else none
        | none => none
      | none => none
    | _ => none
  | none => none

def aFieldAddr (E : Env) (o : Oper) (s : St) (T : Nat) (x : Operand) (f : Nat) : Option (Bool × St) :=
  match fieldOff E T f with
  | some k => match opd s x with
    | .ptr id st off => some (true, dstU o (.ptr id st (off + k)))
    | .eptr id st i off es => some (true, dstU o (.eptr id st i (off + k) es))
    | .gptr g off => some (true, dstU o (.gptr g (off + k)))
    | .vptr t l i off => some (true, dstU o (.vptr t l i (off + k)))
    | _ => none
  | none => none

def aField (E : Env) (o : Oper) (s : St) (T : Nat) (x : Operand) (f : Nat) : Option (Bool × St) :=
  match E.T T with
  | some i => match i.desc with
    | .struct fs => match fs.toList[f]? with
      | some fd => match E.T fd.type, opd s x with
        | some fi, .agg cs =>
          let ds := (cs.drop fd.offset).take fi.size
          bif Nat.beq ds.length fi.size then (match mk1 fi.agg (ds.map viewL) with
            | some d => some (true, srcU s x share hasU ++ dstU o d)
            | none => none) else none
        | _, _ => none
      | none => none
    | _ => none
  | none => none

def aIndexAddr (E : Env) (o : Oper) (s : St) (T : Nat) (x i : Operand) : Option (Bool × St) :=
  match E.T T, opd s i with
  | some ti, .int _ n => match ti.desc with
    | .slice e => match E.T e with
      | some ei => match opd s x with
        | .sl _ t l => bif Nat.beq ei.size t.nc then
            some (decide (0 ≤ n) && decide (n < (l.length : Int)), srcU s x share hasU ++ dstU o (.vptr t l n.toNat 0)) else none
        | .rsl id st => match get s (2 * id + 1) with
          | .arrv st' true false t l => bif Nat.beq st st' && Nat.beq ei.size t.nc then
              some (decide (0 ≤ n) && decide (n < (l.length : Int)), dstU o (.eptr id st n.toNat 0 ei.size)) else none
          | _ => none
        | .wnd id st m => match get s (2 * id + 1) with
          | .arrv st' true false t l => bif Nat.beq st st' && Nat.beq ei.size t.nc then
              some (decide (0 ≤ n) && decide (n < (m : Int)), dstU o (.eptr id st n.toNat 0 ei.size)) else none
          | .boxv st' true cs => bif Nat.beq st st' then
              some (decide (0 ≤ n) && decide (n < (m : Int)), dstU o (.ptr id st (n.toNat * ei.size))) else none
          | _ => none
        | _ => none
      | none => none
    | .array len e => match E.T e with
      | some ei => match opd s x with
        | .ptr id st off => match get s (2 * id + 1) with
          | .arrv st' true true t _ => bif Nat.beq st st' && Nat.beq off 0 then
              (bif Nat.beq t.nc 1 then some (decide (0 ≤ n) && decide (n < (len : Int)), dstU o (.eptr id st (n.toNat * ei.size) 0 1))
               else some (decide (0 ≤ n) && decide (n < (len : Int)), dstU o (.eptr id st n.toNat 0 ei.size))) else none
          | .boxv _ _ _ => some (decide (0 ≤ n) && decide (n < (len : Int)), dstU o (.ptr id st (off + n.toNat * ei.size)))
          | _ => none
        | .eptr id st i0 off es => bif Nat.beq off 0 && Nat.beq es 1 then
            some (decide (0 ≤ n) && decide (n < (len : Int)), dstU o (.eptr id st (i0 + n.toNat * ei.size) 0 1)) else none
        | .gptr g off => some (decide (0 ≤ n) && decide (n < (len : Int)), dstU o (.gptr g (off + n.toNat * ei.size)))
        | .vptr t l j off => some (decide (0 ≤ n) && decide (n < (len : Int)), dstU o (.vptr t l j (off + n.toNat * ei.size)))
        | .vpa k l => bif Nat.beq ei.size 1 then some (decide (0 ≤ n) && decide (n < (len : Int)) && Nat.blt n.toNat l.length, dstU o (.vptr (.int k) l n.toNat 0)) else none
        | _ => none
      | none => none
    | _ => none
  | _, _ => none

def aIndex (E : Env) (o : Oper) (s : St) (T : Nat) (x i : Operand) : Option (Bool × St) :=
  match E.T T, opd s i with
  | some ti, .int _ n => match ti.desc, opd s x with
    | .array len e, .agg cs => match E.T e with
      | some ei => match ei.desc with
        | .int k => match allInts k cs with
          | some l => bif Nat.beq ei.size 1 && !ei.agg && Nat.beq l.length len then
              some (decide (0 ≤ n) && decide (n < (len : Int)), dstU o (.int k (l.getD n.toNat 0))) else none
          | none => none
        | _ => none
      | none => none
    | .array len e, .av k l => match E.T e with
      | some ei => bif Nat.beq ei.size 1 && !ei.agg then
          some (decide (0 ≤ n) && decide (n < (len : Int)) && Nat.beq l.length len, dstU o (.int k (l.getD n.toNat 0))) else none
      | none => none
    | .string, .str l => some (decide (0 ≤ n) && decide (n < (l.length : Int)), dstU o (.int .u8 (l.getD n.toNat 0)))
    | _, _ => none
  | _, _ => none

def aExtract (o : Oper) (s : St) (x : Operand) (i : Nat) : Option (Bool × St) :=
  match x, opd s x with
  | .tmp t, .tup vs => match vs[i]? with
    | some d => some (true, (bif hasX d then [(2 * t, .tup (vs.set i .undef))] else []) ++ dstU o d)
    | none => none
  | _, _ => none

def aMakeFunc (o : Oper) (s : St) (fn : Fn) (first caps : List Operand) : Option (Bool × St) :=
  match fn, first, caps with
  | .func f, [], [x] => match opd s x with
    | .vptr t [v] 0 0 => some (true, dstU o (.clo f t v))
    | _ => none
  | _, _, _ => none

def lenD (E : Env) (s : St) (T : Nat) (d : D) : Option Nat :=
  match E.T T with
  | some i => match i.desc, d with
    | .string, .str l => some l.length
    | .array n _, _ => bif Nat.ble n mlen then some n else none
    | .slice _, .nils => some 0
    | .slice _, .wnd _ _ n => some n
    | .slice _, d => match content s d with
      | some ⟨t, l⟩ => bif Nat.blt 0 t.bsz then some l.length else none
      | none => none
    | _, _ => none
  | none => none

def tail (s : St) (t : Ty) : D → Option (List t.den)
  | .nils => some []
  | .str l => match t with
    | .int .u8 => some l
    | _ => none
  | d => match content s d with
    | some ⟨t', l⟩ => if h : t'.beq t = true then some (castL (Ty.eq_of_beq h) l) else none
    | none => none

def noInt (E : Env) (T : Nat) : Bool :=
  match E.T T with
  | some i => match i.desc with
    | .slice _ => true
    | .string => true
    | _ => false
  | none => false

def aAppend (E : Env) (o : Oper) (s : St) (T : Nat) (x y : Operand) : Option (Bool × St) :=
  match E.T T with
  | some i => match i.desc with
    | .slice e => match E.T e with
      | some ei =>
        bif Nat.beq ei.size ei.ty.nc && Nat.beq ei.bytes ei.ty.bsz && Nat.blt 0 ei.size && Nat.blt 0 ei.bytes then
        (match opd s x with
        | .nils => match tail s ei.ty (opd s y) with
          | some l' => some (Nat.ble (l'.length * ei.bytes) big, dstU o (.sl 2 ei.ty l'))
          | none => none
        | .sl f t l => bif Nat.beq f 0 then none else
          match tail s t (opd s y), x with
          | some l', .tmp a => bif t.beq ei.ty then some (Nat.ble ((l.length + l'.length) * ei.bytes) big, (2 * a, .undef) :: dstU o (.sl f t (l ++ l'))) else none
          | _, _ => none
        | .rsl id st => match get s (2 * id + 1) with
          | .arrv st' true false t l => match tail s t (opd s y) with
            | some l' => bif Nat.beq st st' && t.beq ei.ty then some (Nat.ble ((l.length + l'.length) * ei.bytes) big, (2 * id + 1, .arrv st false false t []) :: dstU o (.sl 2 t (l ++ l'))) else none
            | none => none
          | _ => none
        | .csl t l => match tail s t (opd s y) with
          | some l' => bif t.beq ei.ty then some (Nat.blt 0 l'.length && Nat.ble ((l.length + l'.length) * ei.bytes) big, dstU o (.sl 2 t (l ++ l'))) else none
          | none => none
        | _ => none) else none
      | none => none
    | _ => none
  | none => none

def aCopy (E : Env) (o : Oper) (s : St) (T : Nat) (x y : Operand) : Option (Bool × St) :=
  match E.T T with
  | some i => match i.desc with
    | .slice e => match E.T e with
      | some ei => match opd s x with
        | .rsl id st => match get s (2 * id + 1) with
          | .arrv st' true false t l => match tail s t (opd s y) with
            | some l' => bif Nat.beq st st' && Nat.beq ei.size t.nc && Nat.blt 0 t.bsz then
                some (true, (2 * id + 1, .arrv st true false t (l'.take l.length ++ l.drop l'.length)) :: dstU o (.int .i64 (min l'.length l.length : Nat))) else none
            | none => none
          | _ => none
        | _ => none
      | none => none
    | _ => none
  | none => none

def minInts (lt : Int → Int → Bool) (k : IntKind) (m : Int) : List D → Option Int
  | [] => some m
  | .int k' n :: r => bif kbeq k k' then minInts lt k (bif lt n m then n else m) r else none
  | _ :: _ => none

def aMin (o : Oper) (s : St) (lt : Int → Int → Bool) (xs : List Operand) : Option (Bool × St) :=
  match xs.map (opd s) with
  | .int k n :: r => match minInts lt k n r with
    | some m => some (true, dstU o (.int k m))
    | none => none
  | _ => none

def aBuiltin (E : Env) (o : Oper) (s : St) (b : Builtin) (args : List Operand) (ts : List Nat) : Option (Bool × St) :=
  match b, args, ts with
  | .len, [x], [T] => match lenD E s T (opd s x) with
    | some n => some (true, dstU o (.int .i64 n))
    | none => none
  | .append, [x, y], [T, T'] => bif noInt E T' then aAppend E o s T x y else none
  | .copy, [x, y], [T, _] => aCopy E o s T x y
  | .min, xs, _ => aMin o s (fun a b => decide (a < b)) xs
  | .max, xs, _ => aMin o s (fun a b => decide (b < a)) xs
  | _, _, _ => none

def act (E : Env) (o : Oper) (s : St) : Option (Bool × St) :=
  match o.op with
  | .move x => bif Nat.beq (tag E o) 9 then aMove9 E o s x else aMove E o s x
  | .assign x => aAssign E o s x
  | .alloc T => aAlloc E o s T
  | .box T x => aBox E o s T x
  | .build T ps => aBuild E o s T ps.toList
  | .buildSlice T n ps => bif Nat.beq (tag E o) 8 then aBuildBox E o s T n ps.toList else aBuildSlice E o s T n ps.toList
  | .load T x => aLoad E o s T x
  | .store T a x => aStore E o s T a x
  | .nilCheck x => aNilCheck o s x
  | .binOp op xT x y _ => aBin E o s op xT x y
  | .unOp op _ x => aUn o s op x
  | .convert a b x => aConv E o s a b x
  | .makeSlice T l c => aMakeSlice E o s T l c
  | .slice T x lo hi none => match opd s x with
    | .rsl _ _ => aSliceR E o s T x lo hi
    | _ => aSlice E o s T x lo hi
  | .slice T x lo (some hi) (some mx) => aSlice3 E o s T x lo hi mx
  | .fieldAddr T x f => aFieldAddr E o s T x f
  | .field T x f => aField E o s T x f
  | .indexAddr T x i => aIndexAddr E o s T x i
  | .index T x i => aIndex E o s T x i
  | .extract x i => aExtract o s x i
  | .makeFunc fn first caps => aMakeFunc o s fn first.toList caps.toList
  | .call c => match c.callee with
    | .builtin b => aBuiltin E o s b c.args.toList c.argTypes.toList
    | _ => none
  | _ => none

end Go.Abs

namespace Go.Abs

def sumN : Nat → (Nat → Nat) → Nat
  | 0, _ => 0
  | n + 1, f => sumN n f + f n

theorem sumN_congr {n : Nat} {f g : Nat → Nat} (h : ∀ i, i < n → f i = g i) : sumN n f = sumN n g := by
  induction n with
  | zero => rfl
  | succ n ih => simp only [sumN]; rw [ih fun i hi => h i (by omega), h n (by omega)]
theorem sumN_get {n : Nat} {f : Nat → Nat} {i : Nat} (h : i < n) : f i ≤ sumN n f := by
  induction n with
  | zero => omega
  | succ n ih =>
    simp only [sumN]
    by_cases hi : i = n
    · subst hi; omega
    · have := ih (by omega); omega
theorem sumN_upd1 {n : Nat} {f g : Nat → Nat} {x : Nat} (hx : x < n) (h : ∀ i, i ≠ x → g i = f i) : sumN n g + f x = sumN n f + g x := by
  induction n with
  | zero => omega
  | succ n ih =>
    simp only [sumN]
    by_cases hn : x = n
    · subst hn
      have : sumN x g = sumN x f := sumN_congr fun i hi => h i (by omega)
      omega
    · have := ih (by omega)
      have := h n (by omega)
      omega
theorem sumN_upd2 {n : Nat} {f g : Nat → Nat} {x y : Nat} (hx : x < n) (hy : y < n) (hxy : x ≠ y) (h : ∀ i, i ≠ x → i ≠ y → g i = f i) :
    sumN n g + f x + f y = sumN n f + g x + g y := by
  have h1 := sumN_upd1 (f := f) (g := fun i => if i = x then g x else f i) hx (fun i hi => if_neg hi)
  have h2 := sumN_upd1 (f := fun i => if i = x then g x else f i) (g := g) hy (fun i hi => by
    by_cases hix : i = x
    · rw [if_pos hix, hix]
    · rw [if_neg hix]; exact h i hix hi)
  rw [if_pos rfl] at h1
  rw [if_neg (Ne.symm hxy)] at h2
  omega

structure Ctx where
  m : Nat
  w0 : World
  G0 : Nat → Nat
  X : Nat → Prop
  pin : Option Value

def cT (s : St) (a : Act) (b t : Nat) : Nat := ctV b (get s (2 * t)) (a.tmps.getD t undef)
def cB (s : St) (w : World) (pt : Nat → Nat → Option Value) (b id : Nat) : Nat := ctB w pt b id (get s (2 * id + 1))
def TC (n m : Nat) (s : St) (a : Act) (w : World) (pt : Nat → Nat → Option Value) (b : Nat) : Nat :=
  sumN n (cT s a b) + sumN m (cB s w pt b)

structure Rel (E : Env) (C : Ctx) (s : St) (a : Act) (w : World) (G : Nat → Nat) (pt : Nat → Nat → Option Value) : Prop where
  sz : a.tmps.size = E.n
  df : a.defers = []
  tm : ∀ t, RepV w G pt (get s (2 * t)) (a.tmps.getD t undef)
  bx : ∀ id, RepB w G pt id (get s (2 * id + 1))
  ht : ∀ t, E.n ≤ t → get s (2 * t) = .undef
  hb : ∀ id, C.m ≤ id → get s (2 * id + 1) = .undef
  ct : ∀ b, TC E.n C.m s a w pt b ≤ 1
  cb : ∀ b, 0 < TC E.n C.m s a w pt b → b < w.heap.size ∧ (C.w0.heap.size ≤ b ∨ C.X b)
  fr : ∀ b, b < C.w0.heap.size → ¬ C.X b → w.heap[b]? = C.w0.heap[b]? ∧ G b = C.G0 b
  ex : Ext C.w0 C.G0 w G
  gz : ∀ b, w.heap.size ≤ b → G b = 0
  os : w.os = C.w0.os
  out : w.output = C.w0.output
  tape : w.tape = C.w0.tape
  hs : C.w0.heap.size ≤ w.heap.size
  pf : ∀ id st, curSt (get s (2 * id + 1)) < st → pt id st = none
  gl : ∀ g k l, E.glob g = some (k, l) → l.length ≤ G g ∧ ∀ j (h : j < l.length), w.cell? ⟨g, j, none⟩ = some (.int k l[j]) ∧ k.has l[j]
  pn : ∀ v, C.pin = some v → pt 0 1 = some v

theorem ctV_undef (b : Nat) (v : Value) : ctV b .undef v = 0 := by cases v <;> rfl

section
variable {E : Env} {C : Ctx} {s : St} {a : Act} {w : World} {G : Nat → Nat} {pt : Nat → Nat → Option Value}

theorem Rel.cT_le (R : Rel E C s a w G pt) (b t : Nat) : cT s a b t ≤ TC E.n C.m s a w pt b := by
  by_cases h : t < E.n
  · exact Nat.le_trans (sumN_get (f := cT s a b) h) (Nat.le_add_right _ _)
  · have : cT s a b t = 0 := by rw [cT, R.ht t (by omega)]; exact ctV_undef b _
    omega
theorem Rel.cB_le (R : Rel E C s a w G pt) (b id : Nat) : cB s w pt b id ≤ TC E.n C.m s a w pt b := by
  by_cases h : id < C.m
  · exact Nat.le_trans (sumN_get (f := cB s w pt b) h) (Nat.le_add_left _ _)
  · have : cB s w pt b id = 0 := by rw [cB, R.hb id (by omega)]; rfl
    omega

theorem Rel.tt (R : Rel E C s a w G pt) {b t u : Nat} (h : 0 < cT s a b t) (hu : u ≠ t) : cT s a b u = 0 := by
  by_cases h1 : t < E.n
  · by_cases h2 : u < E.n
    · have h3 := sumN_upd2 (f := cT s a b) (g := fun i => if i = t ∨ i = u then 0 else cT s a b i) h1 h2 (Ne.symm hu)
        (fun i hi hj => if_neg (by simp [hi, hj]))
      have h4 := R.ct b
      simp at h3
      unfold TC at h4
      omega
    · rw [cT, R.ht u (by omega)]; exact ctV_undef b _
  · rw [cT, R.ht t (by omega), ctV_undef] at h
    omega
theorem Rel.tb (R : Rel E C s a w G pt) {b t : Nat} (h : 0 < cT s a b t) (id : Nat) : cB s w pt b id = 0 := by
  by_cases h1 : t < E.n
  · by_cases h2 : id < C.m
    · have h3 := sumN_get (f := cT s a b) h1
      have h4 := sumN_get (f := cB s w pt b) h2
      have h5 := R.ct b
      unfold TC at h5
      omega
    · rw [cB, R.hb id (by omega)]; rfl
  · rw [cT, R.ht t (by omega), ctV_undef] at h
    omega
theorem Rel.bt (R : Rel E C s a w G pt) {b id : Nat} (h : 0 < cB s w pt b id) (t : Nat) : cT s a b t = 0 := by
  rcases Nat.eq_zero_or_pos (cT s a b t) with h1 | h1
  · exact h1
  · have := R.tb h1 id; omega
theorem Rel.bb (R : Rel E C s a w G pt) {b t u : Nat} (h : 0 < cB s w pt b t) (hu : u ≠ t) : cB s w pt b u = 0 := by
  by_cases h1 : t < C.m
  · by_cases h2 : u < C.m
    · have h3 := sumN_upd2 (f := cB s w pt b) (g := fun i => if i = t ∨ i = u then 0 else cB s w pt b i) h1 h2 (Ne.symm hu)
        (fun i hi hj => if_neg (by simp [hi, hj]))
      have h4 := R.ct b
      simp at h3
      unfold TC at h4
      omega
    · rw [cB, R.hb u (by omega)]; rfl
  · rw [cB, R.hb t (by omega)] at h
    exact absurd h (by simp [ctB])

theorem Rel.step (R : Rel E C s a w G pt) {s' : St} {a' : Act} {w' : World} {G' : Nat → Nat} {pt' : Nat → Nat → Option Value}
    (U V : Nat → Prop) (T : Nat → Prop)
    (hsz : a'.tmps.size = a.tmps.size) (hdf : a'.defers = [])
    (hgt : ∀ t, ¬ U t → get s' (2 * t) = get s (2 * t) ∧ a'.tmps.getD t undef = a.tmps.getD t undef)
    (hgb : ∀ id, ¬ V id → get s' (2 * id + 1) = get s (2 * id + 1) ∧ pt' id = pt id)
    (hE : Ext w G w' G') (hpt : ∀ id st v, pt id st = some v → pt' id st = some v)
    (hT : ∀ b, ¬ T b → b < w.heap.size → w'.heap[b]? = w.heap[b]? ∧ G' b = G b)
    (hxt : ∀ b, T b → ∀ t, ¬ U t → cT s a b t = 0)
    (hxb : ∀ b, T b → ∀ id, ¬ V id → cB s w pt b id = 0)
    (hTf : ∀ b, T b → C.w0.heap.size ≤ b ∨ C.X b)
    (htm : ∀ t, U t → t < E.n ∧ RepV w' G' pt' (get s' (2 * t)) (a'.tmps.getD t undef))
    (hbx : ∀ id, V id → id < C.m ∧ RepB w' G' pt' id (get s' (2 * id + 1)) ∧ ∀ st, curSt (get s' (2 * id + 1)) < st → pt' id st = none)
    (hct : (∀ t, ¬ U t → ∀ b, cT s' a' b t = cT s a b t) → (∀ id, ¬ V id → ∀ b, cB s' w' pt' b id = cB s w pt b id) →
      ∀ b, TC E.n C.m s' a' w' pt' b ≤ 1 ∧ (0 < TC E.n C.m s' a' w' pt' b → b < w'.heap.size ∧ (C.w0.heap.size ≤ b ∨ C.X b)))
    (hgz : ∀ b, w'.heap.size ≤ b → G' b = 0) (hos : w'.os = w.os) (hout : w'.output = w.output) (htp : w'.tape = w.tape) (hhs : w.heap.size ≤ w'.heap.size) :
    Rel E C s' a' w' G' pt' := by
  have old : ∀ b, 0 < TC E.n C.m s a w pt b → b < w.heap.size := fun b h => (R.cb b h).1
  have ut : ∀ t, ¬ U t → ∀ b, 0 < cT s a b t → w'.heap[b]? = w.heap[b]? ∧ G' b = G b := by
    intro t ht b hb
    refine hT b (fun hTb => ?_) (old b (Nat.lt_of_lt_of_le hb (R.cT_le b t)))
    have := hxt b hTb t ht
    omega
  have ub : ∀ id, ¬ V id → ∀ b, 0 < cB s w pt b id → w'.heap[b]? = w.heap[b]? ∧ G' b = G b := by
    intro id hid b hb
    refine hT b (fun hTb => ?_) (old b (Nat.lt_of_lt_of_le hb (R.cB_le b id)))
    have := hxb b hTb id hid
    omega
  have c1 : ∀ t, ¬ U t → ∀ b, cT s' a' b t = cT s a b t := by
    intro t ht b
    obtain ⟨h1, h2⟩ := hgt t ht
    simp only [cT, h1, h2]
  have c2 : ∀ id, ¬ V id → ∀ b, cB s' w' pt' b id = cB s w pt b id := by
    intro id hid b
    obtain ⟨h1, h2⟩ := hgb id hid
    simp only [cB, h1]
    exact ctB_same hpt (R.bx id) (ub id hid) b
  have hc := hct c1 c2
  refine ⟨hsz.trans R.sz, hdf, fun t => ?_, fun id => ?_, fun t ht => ?_, fun id hid => ?_, fun b => (hc b).1, fun b => (hc b).2, fun b hb hX => ?_, R.ex.trans hE, hgz, hos.trans R.os, hout.trans R.out,
    htp.trans R.tape, Nat.le_trans R.hs hhs, fun id st h => ?_, fun g k l h => ?_, fun v h => hpt _ _ _ (R.pn v h)⟩
  · by_cases hU : U t
    · exact (htm t hU).2
    · obtain ⟨h1, h2⟩ := hgt t hU
      rw [h1, h2]
      exact (R.tm t).mono hE hpt (ut t hU)
  · by_cases hV : V id
    · exact (hbx id hV).2.1
    · rw [(hgb id hV).1]
      exact (R.bx id).mono hE hpt (ub id hV)
  · by_cases hU : U t
    · have := (htm t hU).1; omega
    · rw [(hgt t hU).1]; exact R.ht t ht
  · by_cases hV : V id
    · have := (hbx id hV).1; omega
    · rw [(hgb id hV).1]; exact R.hb id hid
  · obtain ⟨h1, h2⟩ := R.fr b hb hX
    have hnT : ¬ T b := fun h => by rcases hTf b h with h | h; omega; exact hX h
    obtain ⟨h3, h4⟩ := hT b hnT (Nat.lt_of_lt_of_le hb R.hs)
    exact ⟨h3.trans h1, h4.trans h2⟩
  · by_cases hV : V id
    · exact (hbx id hV).2.2 st h
    · rw [(hgb id hV).1] at h
      rw [(hgb id hV).2]
      exact R.pf id st h
  · obtain ⟨h1, h2⟩ := R.gl g k l h
    refine ⟨Nat.le_trans h1 (hE.le g), fun j hj => ?_⟩
    rw [hE.cell g j (by omega)]
    exact h2 j hj
end

end Go.Abs

namespace Go.Abs

theorem beq_nat (a b : Nat) : Nat.beq a b = decide (a = b) := by
  cases h : Nat.beq a b with
  | true => simp [Nat.eq_of_beq_eq_true h]
  | false => simp [Nat.ne_of_beq_eq_false h]

theorem get_cons (s : St) (l m : Nat) (d : D) : get ((l, d) :: s) m = if m = l then d else get s m := by
  simp only [get, beq_nat]
  by_cases h : m = l <;> simp [h]

@[simp] theorem get_tt (s : St) (t u : Nat) (d : D) : get ((2 * t, d) :: s) (2 * u) = if u = t then d else get s (2 * u) := by
  rw [get_cons]
  by_cases h : u = t
  · rw [if_pos h, if_pos (by omega)]
  · rw [if_neg h, if_neg (by omega)]
@[simp] theorem get_tb (s : St) (t u : Nat) (d : D) : get ((2 * t, d) :: s) (2 * u + 1) = get s (2 * u + 1) := by
  rw [get_cons, if_neg (by omega)]
@[simp] theorem get_bt (s : St) (t u : Nat) (d : D) : get ((2 * t + 1, d) :: s) (2 * u) = get s (2 * u) := by
  rw [get_cons, if_neg (by omega)]
@[simp] theorem get_bb (s : St) (t u : Nat) (d : D) : get ((2 * t + 1, d) :: s) (2 * u + 1) = if u = t then d else get s (2 * u + 1) := by
  rw [get_cons]
  by_cases h : u = t
  · rw [if_pos h, if_pos (by omega)]
  · rw [if_neg h, if_neg (by omega)]

def applyU : St → St → St
  | [], s => s
  | p :: r, s => applyU r (p :: s)

theorem applyU_append (a b s : St) : applyU (a ++ b) s = applyU b (applyU a s) := by
  induction a generalizing s with
  | nil => rfl
  | cons p a ih => exact ih (p :: s)

theorem put_get (a : Act) (t u : Nat) (v : Value) (h : t < a.tmps.size) :
    (a.put (some t) v).tmps.getD u undef = if u = t then v else a.tmps.getD u undef := by
  simp only [Act.put, Array.getD_eq_getD_getElem?, Array.getElem?_setIfInBounds]
  by_cases hu : u = t
  · subst hu; simp [h]
  · simp [Ne.symm hu, hu]
@[simp] theorem put_none (a : Act) (v : Value) : a.put none v = a := rfl
@[simp] theorem put_size (a : Act) (o : Option Tmp) (v : Value) : (a.put o v).tmps.size = a.tmps.size := by
  cases o <;> simp [Act.put]
@[simp] theorem put_defers (a : Act) (o : Option Tmp) (v : Value) : (a.put o v).defers = a.defers := by
  cases o <;> simp [Act.put]

section
variable {w : World} {G : Nat → Nat} {pt : Nat → Nat → Option Value}

def commL (G : Nat → Nat) (d : D) (v : Value) : Nat → Nat :=
  match d, v with
  | .sl 2 t l, .slice (some a) _ _ => fun b => if b = a.block then l.length * t.nc else G b
  | _, _ => G
def commLs (G : Nat → Nat) : List D → (Nat → Value) → Nat → Nat
  | [], _ => G
  | d :: r, f => commLs (commL G d (f 0)) r (fun i => f (i + 1))

theorem ctL_share (b : Nat) (d : D) (v : Value) : ctL b (shareL d) v = ctL b d v := by
  cases d with
  | sl f t l =>
    cases v <;> try rfl
    rename_i a n c
    cases a <;> try rfl
    rename_i a
    simp only [shareL, ctL]
    by_cases h : f = 2
    · subst h; simp
    · rw [show Nat.beq f 2 = false by rw [beq_nat]; simp [h]]; rfl
  | _ => rfl

theorem ctL_view (b : Nat) (d : D) (v : Value) : ctL b (viewL d) v = 0 := by
  cases d with
  | sl f t l =>
    cases v <;> try rfl
    rename_i a n c
    cases a <;> rfl
  | _ => cases v <;> rfl
theorem ctL_strip (b : Nat) (d : D) (v : Value) : ctL b (stripL d) v = 0 := by
  cases d with
  | sl f t l =>
    simp only [stripL, beq_nat]
    by_cases h : f = 0
    · subst h
      cases v <;> try rfl
      rename_i a n c
      cases a <;> rfl
    · simp only [h, decide_false, cond_false]
      cases v <;> rfl
  | _ => cases v <;> rfl

theorem commL_other {d : D} {v : Value} {b : Nat} (h : ctL b d v = 0) : commL G d v b = G b := by
  unfold commL
  split
  · rename_i t l a n c
    simp only [ctL] at h
    by_cases hb : b = a.block
    · subst hb; simp at h
    · simp [hb]
  · rfl

theorem commLs_other : ∀ {ds : List D} {f : Nat → Value} {G : Nat → Nat} {b : Nat}, ctLs b ds f = 0 → commLs G ds f b = G b
  | [], _, _, _, _ => rfl
  | d :: r, f, G, b, h => by
    simp only [ctLs] at h
    simp only [commLs]
    rw [commLs_other (by omega), commL_other (by omega)]

theorem commL_le {d : D} {v : Value} (h : RepL w G pt d v) (b : Nat) : G b ≤ commL G d v b := by
  unfold commL
  split
  · rename_i t l a n c
    obtain ⟨a', n', c', h1, h2, h3, h4⟩ := h
    injection h1 with h1 h1' h1''
    subst h1
    rcases h4 with ⟨h5, _⟩ | ⟨b', h5, h6, _⟩
    · cases h5
    · injection h5 with h5
      subst h5
      by_cases hb : b = b'
      · subst hb; simp [h6]
      · simp [hb]
  · exact Nat.le_refl _

theorem commL_ext {d : D} {v : Value} (h : RepL w G pt d v) : Ext w G w (commL G d v) := ⟨fun _ _ _ => rfl, commL_le h⟩

theorem RepL.share {d : D} {v : Value} (h : RepL w G pt d v) : RepL w (commL G d v) pt (shareL d) v := by
  cases d with
  | sl f t l =>
    obtain ⟨a, n, c, h1, h2, h3, h4⟩ := h
    subst h1
    simp only [shareL, beq_nat]
    by_cases hf : f = 2
    · subst hf
      simp only [decide_true, cond_true]
      refine ⟨a, n, c, rfl, h2, h3, ?_⟩
      rcases h4 with h4 | ⟨b, h5, h6, h7, h8, h9, h10⟩
      · exact .inl h4
      · subst h5
        refine .inr ⟨b, rfl, ?_, h7, h8, ?_, h10⟩
        · simp [commL]
        · refine h9.mono ⟨fun _ _ _ => rfl, fun b' => ?_⟩ fun _ _ _ => rfl
          simp only [commL]
          by_cases hb : b' = b
          · subst hb; simp [h6]
          · simp [hb]
    · simp only [hf, decide_false, cond_false]
      have : commL G (.sl f t l) (.slice a n c) = G := by
        unfold commL
        split
        · rename_i h _ ; injection h with h; exact absurd h hf
        · rfl
      rw [this]
      exact ⟨a, n, c, rfl, h2, h3, h4⟩
  | _ => exact h

theorem RepLs.share : ∀ {ds : List D} {f : Nat → Value} {G : Nat → Nat}, RepLs w G pt ds f → (∀ b, ctLs b ds f ≤ 1) →
    Ext w G w (commLs G ds f) ∧ RepLs w (commLs G ds f) pt (ds.map shareL) f
  | [], f, G, _, _ => ⟨Ext.refl _ _, fun j hj => by simp at hj⟩
  | d :: r, f, G, h, hc => by
    have h0 : RepL w G pt d (f 0) := (h 0 (by simp)).1
    have e0 := commL_ext h0
    have hr : RepLs w G pt r (fun i => f (i + 1)) := fun j hj => by
      have := h (j + 1) (by simpa using hj)
      simpa using this
    have hr' : RepLs w (commL G d (f 0)) pt r (fun i => f (i + 1)) := hr.mono e0 (fun _ _ _ h => h) (fun _ _ => rfl) fun b hb =>
      ⟨rfl, commL_other (by have := hc b; simp only [ctLs] at this; omega)⟩
    obtain ⟨e1, h1⟩ := RepLs.share hr' fun b => by have := hc b; simp only [ctLs] at this; omega
    refine ⟨e0.trans e1, fun j hj => ?_⟩
    match j, hj with
    | 0, _ =>
      simp only [List.map_cons, List.getElem_cons_zero]
      refine ⟨h0.share.mono e1 (fun _ _ _ h => h) fun b hb => ⟨rfl, ?_⟩, (h 0 (by simp)).2⟩
      rw [ctL_share] at hb
      exact commLs_other (by have := hc b; simp only [ctLs] at this; omega)
    | j + 1, hj =>
      have := h1 j (by simpa using hj)
      simp only [List.map_cons, List.getElem_cons_succ, commLs]
      exact this

theorem RepL.view {d : D} {v : Value} (h : RepL w G pt (shareL d) v) : RepL w G pt (viewL d) v := by
  cases d with
  | sl f t l =>
    simp only [shareL, viewL, beq_nat] at h ⊢
    have key : ∀ f', f' ≠ 2 → RepL w G pt (.sl f' t l) v → RepL w G pt (.sl 0 t l) v := by
      intro f' hf' h
      obtain ⟨a, n, c, h1, h2, h3, h4⟩ := h
      refine ⟨a, n, c, h1, h2, h3, ?_⟩
      match f', hf', h4 with
      | 0, _, h4 => exact h4
      | 1, _, h4 =>
        rcases h4 with ⟨h5, h6, h7⟩ | ⟨b, h5, h6, h7, h8, h9, h10⟩
        · subst h6; exact ⟨by simp, .inl rfl⟩
        · exact ⟨h8, .inr ⟨b, 0, h5, by omega, h9⟩⟩
      | (k + 3), _, h4 => exact h4.elim
    by_cases hf : f = 2
    · subst hf
      simp only [decide_true, cond_true] at h
      exact key 1 (by omega) h
    · simp only [hf, decide_false, cond_false] at h
      exact key f hf h
  | _ => exact h

theorem RepL.strip {d : D} {v : Value} (h : RepL w G pt d v) : RepL w G pt (stripL d) v := by
  cases d with
  | sl f t l =>
    simp only [stripL, beq_nat]
    by_cases hf : f = 0
    · subst hf; exact h
    · simp only [hf, decide_false, cond_false]; trivial
  | _ => exact h

theorem RepLs.map {ds : List D} {f : Nat → Value} {g : D → D} (h : RepLs w G pt ds f) (hg : ∀ d v, RepL w G pt d v → RepL w G pt (g d) v) : RepLs w G pt (ds.map g) f := by
  intro j hj
  simp only [List.getElem_map]
  have := h j (by simpa using hj)
  exact ⟨hg _ _ this.1, this.2⟩

theorem ctLs_map0 {g : D → D} (hg : ∀ b d v, ctL b (g d) v = 0) (b : Nat) : ∀ (ds : List D) (f : Nat → Value), ctLs b (ds.map g) f = 0
  | [], _ => rfl
  | d :: r, f => by simp only [List.map_cons, ctLs, hg, ctLs_map0 hg b r]
theorem ctLs_share (b : Nat) : ∀ (ds : List D) (f : Nat → Value), ctLs b (ds.map shareL) f = ctLs b ds f
  | [], _ => rfl
  | d :: r, f => by simp only [List.map_cons, ctLs, ctL_share, ctLs_share b r]

theorem RepLs.view {ds : List D} {f : Nat → Value} (h : RepLs w G pt (ds.map shareL) f) : RepLs w G pt (ds.map viewL) f := by
  intro j hj
  have := h j (by simpa using hj)
  simp only [List.getElem_map] at this ⊢
  exact ⟨this.1.view, this.2⟩

theorem share_of_not (ds : List D) (h : ds.any hasUL = false) : ds.map shareL = ds := by
  induction ds with
  | nil => rfl
  | cons d r ih =>
    simp only [List.any_cons, Bool.or_eq_false_iff] at h
    rw [List.map_cons, ih h.2]
    congr 1
    cases d with
    | sl f t l => simp only [hasUL] at h; simp [shareL, h.1]
    | _ => rfl
theorem strip_of_not (ds : List D) (h : ds.any hasXL = false) : ds.map stripL = ds ∧ ∀ b f, ctLs b ds f = 0 := by
  induction ds with
  | nil => exact ⟨rfl, fun _ _ => rfl⟩
  | cons d r ih =>
    simp only [List.any_cons, Bool.or_eq_false_iff] at h
    obtain ⟨h1, h2⟩ := ih h.2
    have hd : stripL d = d := by
      cases d with
      | sl f t l =>
        have : Nat.beq f 0 = true := by have := h.1; simp only [hasXL] at this; simpa using this
        have h0 := Nat.eq_of_beq_eq_true this
        subst h0; rfl
      | _ => rfl
    refine ⟨by rw [List.map_cons, h1, hd], fun b f => ?_⟩
    simp only [ctLs, h2]
    rw [← hd, ctL_strip]

def commV (G : Nat → Nat) (d : D) (v : Value) : Nat → Nat :=
  match d, v with
  | .agg cs, .agg arr => commLs G cs (arrF arr)
  | d, v => commL G d v

theorem commV_other {d : D} {v : Value} {b : Nat} (h : ctV b d v = 0) : commV G d v b = G b := by
  unfold commV
  split
  · exact commLs_other h
  · rename_i h1
    cases d with
    | agg cs => cases v <;> first | rfl | exact absurd rfl (h1 _ _ rfl)
    | tup cs => rfl
    | fn f cs => rfl
    | _ => exact commL_other (by simpa only [ctV] using h)

theorem ctV_share (b : Nat) (d : D) (v : Value) : ctV b (share d) v = ctV b d v := by
  cases d with
  | agg cs => cases v <;> first | rfl | exact ctLs_share _ _ _
  | sl f t l => exact ctL_share b (.sl f t l) v
  | _ => rfl

theorem ctV_view (b : Nat) (d : D) (v : Value) (hd : isTup d = false) : ctV b (view d) v = 0 := by
  cases d with
  | agg cs => cases v <;> first | rfl | exact ctLs_map0 ctL_view _ _ _
  | tup cs => simp [isTup] at hd
  | fn f cs => cases v <;> rfl
  | sl f t l => exact ctL_view b (.sl f t l) v
  | _ => cases v <;> rfl

theorem ctV_strip (b : Nat) (d : D) (v : Value) : ctV b (strip d) v = 0 := by
  cases d with
  | agg cs => cases v <;> first | rfl | exact ctLs_map0 ctL_strip _ _ _
  | tup cs => exact ctV_undef _ _
  | fn f cs => cases v <;> rfl
  | sl f t l => 
    have := ctL_strip b (.sl f t l) v
    simp only [strip, stripL] at this ⊢
    by_cases hf : Nat.beq f 0 = true
    · rw [hf] at this ⊢; exact this
    · simp only [Bool.not_eq_true] at hf; rw [hf]; exact ctV_undef _ _
  | _ => cases v <;> rfl

theorem RepV.share {d : D} {v : Value} (h : RepV w G pt d v) (hc : ∀ b, ctV b d v ≤ 1) (hd : isTup d = false) :
    Ext w G w (commV G d v) ∧ RepV w (commV G d v) pt (Abs.share d) v := by
  cases d with
  | agg cs =>
    obtain ⟨arr, rfl, h2, h3⟩ := h
    obtain ⟨e, h4⟩ := h3.share hc
    exact ⟨e, arr, rfl, by simpa using h2, h4⟩
  | tup cs => simp [isTup] at hd
  | fn f cs => exact ⟨Ext.refl _ _, h⟩
  | _ =>
    simp only [RepV] at h
    exact ⟨commL_ext h, h.share⟩

theorem RepV.view {d : D} {v : Value} (h : RepV w G pt (Abs.share d) v) (hd : isTup d = false) : RepV w G pt (Abs.view d) v := by
  cases d with
  | agg cs =>
    obtain ⟨arr, rfl, h2, h3⟩ := h
    exact ⟨arr, rfl, by simpa using h2, h3.view⟩
  | tup cs => simp [isTup] at hd
  | fn f cs => exact h
  | sl f t l => exact RepL.view (pt := pt) (d := .sl f t l) h
  | _ => exact h

theorem RepV.strip {d : D} {v : Value} (h : RepV w G pt d v) : RepV w G pt (Abs.strip d) v := by
  cases d with
  | agg cs =>
    obtain ⟨arr, rfl, h2, h3⟩ := h
    exact ⟨arr, rfl, by simpa using h2, h3.map fun _ _ h => h.strip⟩
  | tup cs => trivial
  | fn f cs => exact h
  | sl f t l =>
    have h' := RepL.strip (pt := pt) (d := .sl f t l) h
    simp only [Abs.strip, stripL] at h' ⊢
    by_cases hf : Nat.beq f 0 = true
    · rw [hf] at h' ⊢; exact h'
    · simp only [Bool.not_eq_true] at hf; rw [hf]; trivial
  | _ => exact h
end

end Go.Abs

namespace Go.Abs

theorem RepC.move {w w' : World} {G G' : Nat → Nat} (hE : Ext w G w' G') :
    ∀ {t : Ty} {x : t.den} {b o b' o' : Nat}, RepC w G t x b o →
      (∀ j, j < t.nc → w'.cell? ⟨b', o' + j, none⟩ = w.cell? ⟨b, o + j, none⟩) → RepC w' G' t x b' o'
  | .int k, n, b, o, b', o', h, hc => by
    have := hc 0 (by simp [Ty.nc])
    simp only [Nat.add_zero] at this
    simp only [RepC] at h ⊢
    rw [this]; exact h
  | .bool, n, b, o, b', o', h, hc => by
    have := hc 0 (by simp [Ty.nc])
    simp only [Nat.add_zero] at this
    simp only [RepC] at h ⊢
    rw [this]; exact h
  | .str, n, b, o, b', o', h, hc => by
    have := hc 0 (by simp [Ty.nc])
    simp only [Nat.add_zero] at this
    simp only [RepC] at h ⊢
    rw [this]; exact h
  | .sl t, l, b, o, b', o', h, hc => by
    have := hc 0 (by simp [Ty.nc])
    simp only [Nat.add_zero] at this
    have h2 : RepC w' G' (.sl t) l b o ∨ True := .inr trivial
    simp only [RepC] at h ⊢
    rw [this]
    obtain ⟨a, n, c, h1, h2, h3, h3', h4⟩ := h
    refine ⟨a, n, c, h1, h2, h3, h3', ?_⟩
    rcases h4 with h4 | ⟨b1, o1, h5, h6, h7⟩
    · exact .inl h4
    · refine .inr ⟨b1, o1, h5, Nat.le_trans h6 (hE.le b1), fun i hi => (h7 i hi).mono hE fun j hj1 hj2 => hE.cell _ _ ?_⟩
      have : (i + 1) * t.nc ≤ n * t.nc := Nat.mul_le_mul_right _ (by omega)
      rw [Nat.add_mul] at this
      omega
  | .unit, _, _, _, _, _, _, _ => trivial
  | .cons a c, x, b, o, b', o', h, hc => by
    simp only [RepC] at h ⊢
    simp only [Ty.nc] at hc
    refine ⟨h.1.move hE fun j hj => hc j (by omega), h.2.move hE fun j hj => ?_⟩
    have := hc (a.nc + j) (by omega)
    rw [Nat.add_assoc, Nat.add_assoc]
    exact this
  | .st _ c, x, b, o, b', o', h, hc => by
    simp only [RepC] at h ⊢
    exact RepC.move hE h hc
  | .clo f t, x, b, o, b', o', h, hc => by
    have := hc 0 (by simp [Ty.nc])
    simp only [Nat.add_zero] at this
    simp only [RepC] at h ⊢
    rw [this]
    obtain ⟨b1, o1, h1, h2, h3⟩ := h
    exact ⟨b1, o1, h1, Nat.le_trans h2 (hE.le b1), h3.mono hE fun j hj1 hj2 => hE.cell _ _ (by omega)⟩

theorem enc_len : ∀ (t : Ty) (x : t.den), (enc t x).length = t.nc
  | .int _, _ => rfl
  | .bool, _ => rfl
  | .str, _ => rfl
  | .sl _, _ => rfl
  | .unit, _ => rfl
  | .cons a b, x => by
    show (enc a x.1 ++ enc b x.2).length = _
    rw [List.length_append, enc_len a, enc_len b]; rfl
  | .st _ c, x => enc_len c x
  | .clo _ _, _ => rfl

theorem enc_rep {w : World} {G : Nat → Nat} (pt : Nat → Nat → Option Value) :
    ∀ {t : Ty} {x : t.den} {b o : Nat}, RepC w G t x b o →
      ∀ j (h : j < (enc t x).length), ∃ v, w.cell? ⟨b, o + j, none⟩ = some v ∧ RepL w G pt (enc t x)[j] v ∧ ∀ c, ctL c (enc t x)[j] v = 0
  | .int k, n, b, o, h, j, hj => by
    have : j = 0 := by simp [enc] at hj; exact hj
    subst this
    exact ⟨_, h.1, ⟨rfl, h.2⟩, fun _ => rfl⟩
  | .bool, n, b, o, h, j, hj => by
    have : j = 0 := by simp [enc] at hj; exact hj
    subst this
    exact ⟨_, h, rfl, fun _ => rfl⟩
  | .str, n, b, o, h, j, hj => by
    have : j = 0 := by simp [enc] at hj; exact hj
    subst this
    obtain ⟨s, h1, h2⟩ := h
    exact ⟨_, h1, ⟨s, rfl, h2⟩, fun _ => rfl⟩
  | .sl t, l, b, o, h, j, hj => by
    have : j = 0 := by simp [enc] at hj; exact hj
    subst this
    simp only [RepC] at h
    obtain ⟨a, n, c, h1, h2, h3, h3', h4⟩ := h
    refine ⟨_, h1, ⟨a, n, c, rfl, h2, h3, by omega, ?_⟩, fun c' => by cases a <;> rfl⟩
    subst h2
    rcases h4 with h4 | ⟨b1, o1, h5, h6, h7⟩
    · exact .inl h4
    · exact .inr ⟨b1, o1, h5, h6, h7⟩
  | .unit, _, _, _, _, j, hj => by simp [enc] at hj
  | .cons a c, x, b, o, h, j, hj => by
    have e : enc (.cons a c) x = enc a x.1 ++ enc c x.2 := rfl
    simp only [RepC] at h
    have hla := enc_len a x.1
    by_cases hja : j < (enc a x.1).length
    · obtain ⟨v, h1, h2, h3⟩ := enc_rep pt h.1 j hja
      have : (enc (.cons a c) x)[j] = (enc a x.1)[j] := by simp only [e]; exact List.getElem_append_left hja
      rw [this]
      exact ⟨v, h1, h2, h3⟩
    · have hj' : j - (enc a x.1).length < (enc c x.2).length := by simp only [e, List.length_append] at hj; omega
      obtain ⟨v, h1, h2, h3⟩ := enc_rep pt h.2 (j - (enc a x.1).length) hj'
      have : (enc (.cons a c) x)[j] = (enc c x.2)[j - (enc a x.1).length] := by simp only [e]; exact List.getElem_append_right (by omega)
      rw [this]
      refine ⟨v, ?_, h2, h3⟩
      rw [← h1]
      congr 2
      omega
  | .st _ c, x, b, o, h, j, hj => enc_rep (t := c) pt h j hj
  | .clo f t, x, b, o, h, j, hj => by
    have : j = 0 := by simp [enc] at hj; exact hj
    subst this
    simp only [RepC] at h
    obtain ⟨b1, o1, h1, h2, h3⟩ := h
    exact ⟨_, h1, ⟨b1, o1, rfl, h2, h3⟩, fun _ => rfl⟩

theorem dec_rep {w w' : World} {G G' : Nat → Nat} {pt : Nat → Nat → Option Value} (hE : Ext w G w' G') :
    ∀ {t : Ty} {ds : List D} {x : t.den} {r : List D} {f : Nat → Value} {b o : Nat}, dec t ds = some (x, r) → RepLs w G pt (ds.map viewL) f →
      (∀ j, j < t.nc → w'.cell? ⟨b, o + j, none⟩ = some (f j)) → RepC w' G' t x b o ∧ r = ds.drop t.nc ∧ t.nc ≤ ds.length
  | .int k, ds, x, r, f, b, o, h, hr, hc => by
    cases ds with
    | nil => simp [dec] at h
    | cons d ds =>
      cases d <;> simp only [dec] at h <;> try (cases h; done)
      rename_i k' n
      by_cases hk : kbeq k k' = true
      · simp only [hk, cond_true, Option.some.injEq, Prod.mk.injEq] at h
        obtain ⟨rfl, rfl⟩ := h
        have hk' := eq_of_kbeq hk
        subst hk'
        have h0 := (hr 0 (by simp)).1
        simp only [List.map_cons, List.getElem_cons_zero, viewL, RepL] at h0
        have c0 := hc 0 (by simp [Ty.nc])
        simp only [Nat.add_zero] at c0
        refine ⟨⟨by rw [c0, h0.1], h0.2⟩, rfl, by simp [Ty.nc]⟩
      · simp only [Bool.not_eq_true] at hk; simp [hk] at h
  | .bool, ds, x, r, f, b, o, h, hr, hc => by
    cases ds with
    | nil => simp [dec] at h
    | cons d ds =>
      cases d <;> simp only [dec] at h <;> try (cases h; done)
      simp only [Option.some.injEq, Prod.mk.injEq] at h
      obtain ⟨rfl, rfl⟩ := h
      have h0 := (hr 0 (by simp)).1
      simp only [List.map_cons, List.getElem_cons_zero, viewL, RepL] at h0
      have c0 := hc 0 (by simp [Ty.nc])
      simp only [Nat.add_zero] at c0
      exact ⟨by simp only [RepC]; rw [c0, h0], rfl, by simp [Ty.nc]⟩
  | .str, ds, x, r, f, b, o, h, hr, hc => by
    cases ds with
    | nil => simp [dec] at h
    | cons d ds =>
      cases d <;> simp only [dec] at h <;> try (cases h; done)
      simp only [Option.some.injEq, Prod.mk.injEq] at h
      obtain ⟨rfl, rfl⟩ := h
      have h0 := (hr 0 (by simp)).1
      simp only [List.map_cons, List.getElem_cons_zero, viewL, RepL] at h0
      have c0 := hc 0 (by simp [Ty.nc])
      simp only [Nat.add_zero] at c0
      obtain ⟨s, h1, h2⟩ := h0
      exact ⟨⟨s, by rw [c0, h1], h2⟩, rfl, by simp [Ty.nc]⟩
  | .sl t, ds, x, r, f, b, o, h, hr, hc => by
    have c0 := hc 0 (by simp [Ty.nc])
    simp only [Nat.add_zero] at c0
    cases ds with
    | nil => simp [dec] at h
    | cons d ds =>
      cases d <;> simp only [dec] at h <;> try (cases h; done)
      · simp only [Option.some.injEq, Prod.mk.injEq] at h
        obtain ⟨rfl, rfl⟩ := h
        have h0 := (hr 0 (by simp)).1
        simp only [List.map_cons, List.getElem_cons_zero, viewL, RepL] at h0
        refine ⟨?_, rfl, by simp [Ty.nc]⟩
        simp only [RepC]
        exact ⟨none, 0, 0, by rw [c0, h0], rfl, by simp, by simp, .inl trivial⟩
      · rename_i fl t' l
        by_cases hb : t'.beq t = true
        · simp only [hb, dite_true, Option.some.injEq, Prod.mk.injEq] at h
          obtain ⟨rfl, rfl⟩ := h
          have ht := Ty.eq_of_beq hb
          subst ht
          have h0 := (hr 0 (by simp)).1
          simp only [List.map_cons, List.getElem_cons_zero, viewL, RepL] at h0
          obtain ⟨a, n, c, h1, h2, h3, h4, h5⟩ := h0
          refine ⟨?_, rfl, by simp [Ty.nc]⟩
          simp only [RepC]
          refine ⟨a, n, c, by rw [c0, h1], h2, h3, by omega, ?_⟩
          rcases h5 with h5 | ⟨b1, o1, h5, h6, h7⟩
          · exact .inl h5
          · subst h2
            have h8 := h7.mono hE fun j hj1 hj2 => hE.cell b1 j (by omega)
            exact .inr ⟨b1, o1, h5, Nat.le_trans h6 (hE.le b1), h8⟩
        · simp [hb] at h
  | .clo f0 t, ds, x, r, f, b, o, h, hr, hc => by
    have c0 := hc 0 (by simp [Ty.nc])
    simp only [Nat.add_zero] at c0
    cases ds with
    | nil => simp [dec] at h
    | cons d ds =>
      cases d <;> simp only [dec] at h <;> try (cases h; done)
      rename_i f' t' y
      by_cases hb : (Ty.clo f' t').beq (.clo f0 t) = true
      · simp only [hb, dite_true, Option.some.injEq, Prod.mk.injEq] at h
        obtain ⟨rfl, rfl⟩ := h
        have ht := Ty.eq_of_beq hb
        injection ht with e1 e2
        subst e1 e2
        have h0 := (hr 0 (by simp)).1
        simp only [List.map_cons, List.getElem_cons_zero, viewL, RepL] at h0
        obtain ⟨b1, o1, h1, h2, h3⟩ := h0
        refine ⟨?_, rfl, by simp [Ty.nc]⟩
        simp only [RepC]
        exact ⟨b1, o1, by rw [c0, h1], Nat.le_trans h2 (hE.le b1), h3.mono hE fun j hj1 hj2 => hE.cell b1 j (by omega)⟩
      · simp [hb] at h
  | .unit, ds, x, r, f, b, o, h, hr, hc => by
    simp only [dec, Option.some.injEq, Prod.mk.injEq] at h
    exact ⟨trivial, h.2.symm, by simp [Ty.nc]⟩
  | .cons a c, ds, x, r, f, b, o, h, hr, hc => by
    simp only [Ty.nc] at hc
    simp only [dec] at h
    cases ha : dec a ds with
    | none => simp [ha] at h
    | some p =>
      obtain ⟨xa, ra⟩ := p
      simp only [ha] at h
      obtain ⟨h1, h2, h3⟩ := dec_rep hE (b := b) (o := o) ha hr (fun j hj => hc j (by omega))
      cases hcc : dec c ra with
      | none => simp [hcc] at h
      | some p =>
        obtain ⟨xc, rc⟩ := p
        simp only [hcc, Option.some.injEq, Prod.mk.injEq] at h
        obtain ⟨rfl, rfl⟩ := h
        subst h2
        obtain ⟨h4, h5, h6⟩ := dec_rep hE (b := b) (o := o + a.nc) (f := fun j => f (a.nc + j)) hcc
          (fun j hj => by
            have hl : a.nc + j < (ds.map viewL).length := by simp at hj ⊢; omega
            have := hr (a.nc + j) hl
            simpa using this)
          (fun j hj => by
            have := hc (a.nc + j) (by omega)
            rw [Nat.add_assoc]; exact this)
        refine ⟨⟨h1, h4⟩, ?_, ?_⟩
        · rw [h5, List.drop_drop]; rfl
        · simp only [List.length_drop] at h6; simp only [Ty.nc]; omega
  | .st _ c, ds, x, r, f, b, o, h, hr, hc => dec_rep (t := c) hE h hr hc

end Go.Abs

namespace Go.Abs
section
variable {E : Env} {C : Ctx} {s : St} {a : Act} {w : World} {G : Nat → Nat} {pt : Nat → Nat → Option Value}

theorem Rel.congr {s' : St} (R : Rel E C s a w G pt) (h : ∀ l, get s' l = get s l) : Rel E C s' a w G pt := by
  have e1 : ∀ b, cT s' a b = cT s a b := fun b => funext fun t => by simp only [cT, h]
  have e2 : ∀ b, cB s' w pt b = cB s w pt b := fun b => funext fun t => by simp only [cB, h]
  refine ⟨R.sz, R.df, fun t => by rw [h]; exact R.tm t, fun id => by rw [h]; exact R.bx id, fun t ht => by rw [h]; exact R.ht t ht, fun id hid => by rw [h]; exact R.hb id hid,
    fun b => by unfold TC; rw [e1, e2]; exact R.ct b, fun b => by unfold TC; rw [e1, e2]; exact R.cb b, R.fr, R.ex, R.gz, R.os, R.out, R.tape, R.hs, fun id st hs => R.pf id st (by rw [h] at hs; exact hs), R.gl, R.pn⟩

theorem RepV.undef (v : Value) : RepV w G pt .undef v := trivial

theorem Rel.dst1 (R : Rel E C s a w G pt) (t : Nat) (htn : t < E.n) {d : D} {v : Value} (hd : RepV w G pt d v)
    (hc : ∀ b, ctV b d v = 0) : Rel E C ((2 * t, d) :: s) (a.put (some t) v) w G pt := by
    have hts : t < a.tmps.size := by rw [R.sz]; exact htn
    refine R.step (fun u => u = t) (fun _ => False) (fun _ => False) (by simp) (by simpa using R.df) (fun u hu => ?_) (fun id _ => ⟨by simp, rfl⟩) (Ext.refl _ _) (fun _ _ _ h => h)
      (fun b _ _ => ⟨rfl, rfl⟩) (fun b h => h.elim) (fun b h => h.elim) (fun b h => h.elim) (fun u hu => ?_) (fun id h => h.elim) (fun c1 c2 b => ?_) R.gz rfl rfl rfl (Nat.le_refl _)
    · simp only [get_tt, hu, if_false]
      rw [put_get a t u v hts, if_neg hu]
      exact ⟨trivial, rfl⟩
    · subst hu
      refine ⟨htn, ?_⟩
      simp only [get_tt, if_true]
      rw [put_get a u u v hts, if_pos rfl]
      exact hd
    · have e1 := sumN_upd1 (n := E.n) (f := cT s a b) (g := cT ((2 * t, d) :: s) (a.put (some t) v) b) htn (fun i hi => c1 i hi b)
      have e2 := sumN_congr (n := C.m) (f := cB s w pt b) (g := cB ((2 * t, d) :: s) w pt b) (fun i _ => (c2 i (fun h => h) b).symm)
      have e3 : cT ((2 * t, d) :: s) (a.put (some t) v) b t = 0 := by
        simp only [cT, get_tt, if_true]
        rw [put_get a t t v hts, if_pos rfl]
        exact hc b
      have h1 := R.ct b
      have h2 := R.cb b
      unfold TC at *
      exact ⟨by omega, fun h => h2 (by omega)⟩

theorem dstU_some {o : Oper} {t : Nat} (h : o.dst = some t) (d : D) : dstU o d = [(2 * t, d)] := by simp [dstU, h]
theorem dstU_none {o : Oper} (h : o.dst = none) (d : D) : dstU o d = [] := by simp [dstU, h]

theorem Rel.dst0 (R : Rel E C s a w G pt) (o : Oper) (ho : ∀ t, o.dst = some t → t < E.n) {d : D} {v : Value} (hd : RepV w G pt d v)
    (hc : ∀ b, ctV b d v = 0) : Rel E C (applyU (dstU o d) s) (a.put o.dst v) w G pt := by
  cases h : o.dst with
  | none => rw [dstU_none h]; exact R
  | some t => rw [dstU_some h]; exact R.dst1 t (ho t h) hd hc

theorem Rel.drew (R : Rel E C s a w G pt) {w' : World} (hh : w'.heap = w.heap) (ho : w'.os = w.os) (hu : w'.output = w.output) (ht : w'.tape = w.tape) : Rel E C s a w' G pt := by
  refine R.step (fun _ => False) (fun _ => False) (fun _ => False) rfl R.df (fun _ _ => ⟨rfl, rfl⟩) (fun _ _ => ⟨rfl, rfl⟩) ⟨fun b o _ => cell_of_heap (by rw [hh]) o, fun _ => Nat.le_refl _⟩ (fun _ _ _ h => h)
    (fun b _ _ => ⟨by rw [hh], rfl⟩) (fun b h => h.elim) (fun b h => h.elim) (fun b h => h.elim) (fun t h => h.elim) (fun id h => h.elim) (fun c1 c2 b => ?_) (fun b hb => R.gz b (by rw [hh] at hb; exact hb)) ho hu ht (by rw [hh]; exact Nat.le_refl _)
  have e1 := sumN_congr (n := E.n) (f := cT s a b) (g := cT s a b) (fun _ _ => rfl)
  have e2 := sumN_congr (n := C.m) (f := cB s w pt b) (g := cB s w' pt b) (fun i _ => (c2 i (fun h => h) b).symm)
  have h1 := R.ct b
  have h2 := R.cb b
  unfold TC at *
  rw [hh]
  exact ⟨by omega, fun h => h2 (by omega)⟩

theorem Rel.weak (R : Rel E C s a w G pt) {G' : Nat → Nat} (t : Nat) {d : D} (hE : Ext w G w G')
    (hT : ∀ b, cT s a b t = 0 → G' b = G b) (hd : RepV w G' pt d (a.tmps.getD t Go.undef)) (hn : t < E.n)
    (hc : ∀ b, ctV b d (a.tmps.getD t Go.undef) ≤ cT s a b t) : Rel E C ((2 * t, d) :: s) a w G' pt := by
  refine R.step (fun u => u = t) (fun _ => False) (fun b => 0 < cT s a b t) rfl R.df (fun u hu => ?_) (fun id _ => ⟨by simp, rfl⟩) hE (fun _ _ _ h => h)
    (fun b hb _ => ⟨rfl, hT b (by omega)⟩) (fun b hb u hu => R.tt hb hu) (fun b hb id _ => R.tb hb id) (fun b hb => (R.cb b (Nat.lt_of_lt_of_le hb (R.cT_le b t))).2) (fun u hu => ?_) (fun id h => h.elim) (fun c1 c2 b => ?_)
    (fun b hb => ?_) rfl rfl rfl (Nat.le_refl _)
  · simp only [get_tt, hu, if_false]; exact ⟨trivial, trivial⟩
  · subst hu; simp only [get_tt, if_true]; exact ⟨hn, hd⟩
  · have e1 := sumN_upd1 (n := E.n) (f := cT s a b) (g := cT ((2 * t, d) :: s) a b) hn (fun i hi => c1 i hi b)
    have e2 := sumN_congr (n := C.m) (f := cB s w pt b) (g := cB ((2 * t, d) :: s) w pt b) (fun i _ => (c2 i (fun h => h) b).symm)
    have e3 : cT ((2 * t, d) :: s) a b t = ctV b d (a.tmps.getD t Go.undef) := by simp only [cT, get_tt, if_true]
    have h1 := R.ct b
    have h2 := R.cb b
    have h3 := hc b
    unfold TC at *
    exact ⟨by omega, fun h => h2 (by omega)⟩
  · rw [hT b ?_]; exact R.gz b hb
    rcases Nat.eq_zero_or_pos (cT s a b t) with h | h
    · exact h
    · have := (R.cb b (Nat.lt_of_lt_of_le h (R.cT_le b t))).1; omega

theorem Rel.shareT (R : Rel E C s a w G pt) (t : Nat) (hnt : isTup (get s (2 * t)) = false) :
    ∃ G', Ext w G w G' ∧ Rel E C ((2 * t, share (get s (2 * t))) :: s) a w G' pt ∧ RepV w G' pt (share (get s (2 * t))) (a.tmps.getD t Go.undef) ∧
      ∀ b, cT s a b t = 0 → G' b = G b := by
  have h0 := R.tm t
  by_cases hn : t < E.n
  · obtain ⟨e, h1⟩ := h0.share (fun b => Nat.le_trans (R.cT_le b t) (R.ct b)) hnt
    refine ⟨commV G (get s (2 * t)) (a.tmps.getD t Go.undef), e, R.weak t e (fun b hb => commV_other hb) h1 hn (fun b => ?_), h1, fun b hb => commV_other hb⟩
    rw [ctV_share]; exact Nat.le_refl _
  · have hu := R.ht t (by omega)
    refine ⟨G, Ext.refl _ _, ?_, by rw [hu]; exact RepV.undef _, fun _ _ => rfl⟩
    rw [hu]
    show Rel E C ((2 * t, .undef) :: s) a w G pt
    refine R.step (fun _ => False) (fun _ => False) (fun _ => False) rfl R.df (fun u _ => ?_) (fun id _ => ⟨by simp, rfl⟩) (Ext.refl _ _) (fun _ _ _ h => h) (fun _ _ _ => ⟨rfl, rfl⟩) (fun b h => h.elim) (fun b h => h.elim) (fun b h => h.elim) (fun t h => h.elim) (fun id h => h.elim) (fun c1 c2 b => ?_) R.gz rfl rfl rfl (Nat.le_refl _)
    · simp only [get_tt]
      by_cases h : u = t
      · subst h; simp [hu]
      · simp [h]
    · have e1 := sumN_congr (n := E.n) (f := cT s a b) (g := cT ((2 * t, .undef) :: s) a b) (fun i _ => (c1 i (fun h => h) b).symm)
      have e2 := sumN_congr (n := C.m) (f := cB s w pt b) (g := cB ((2 * t, .undef) :: s) w pt b) (fun i _ => (c2 i (fun h => h) b).symm)
      have h1 := R.ct b
      have h2 := R.cb b
      unfold TC at *
      exact ⟨by omega, fun h => h2 (by omega)⟩

theorem share_ofV (v : Value) : share (ofV v) = ofV v := by
  unfold ofV
  split <;> try rfl
  · rename_i k n
    cases inR k n <;> rfl
  · rename_i s
    cases Nat.ble (sby s).length mlen <;> rfl

theorem hasU_share {d : D} (h : hasU d = false) : share d = d := by
  cases d with
  | agg cs => simp only [share]; rw [share_of_not cs h]
  | sl f t l =>
    have h' : Nat.beq f 2 = false := h
    simp [share, shareL, h']
  | _ => rfl

theorem hasX_strip {d : D} (h : hasX d = false) : strip d = d ∧ ∀ b v, ctV b d v = 0 := by
  cases d with
  | agg cs =>
    obtain ⟨h1, h2⟩ := strip_of_not cs h
    refine ⟨by simp only [strip]; rw [h1], fun b v => ?_⟩
    cases v <;> first | rfl | exact h2 b _
  | tup cs => simp [hasX] at h
  | sl f t l =>
    have : Nat.beq f 0 = true := by simpa [hasX, hasXL] using h
    have h0 := Nat.eq_of_beq_eq_true this
    subst h0
    refine ⟨rfl, fun b v => ?_⟩
    cases v <;> try rfl
    rename_i a n c
    cases a <;> rfl
  | _ => exact ⟨rfl, fun b v => by cases v <;> rfl⟩

theorem opd_rep (R : Rel E C s a w G pt) (x : Operand) : RepV w G pt (opd s x) (a.eval x) := by
  cases x with
  | tmp t => exact R.tm t
  | global g => rfl
  | func f => exact (rfl : a.eval (.func f) = .func (.func f) #[] #[])
  | const v =>
    show RepV w G pt (ofV v) v
    unfold ofV
    split
    · rfl
    · rename_i k n
      by_cases h : inR k n = true
      · rw [h]
        simp only [inR, Bool.and_eq_true, decide_eq_true_eq] at h
        exact ⟨rfl, h⟩
      · simp only [Bool.not_eq_true] at h; rw [h]; trivial
    · rename_i s
      by_cases h : Nat.ble (sby s).length mlen = true
      · rw [h]; exact ⟨_, rfl, rfl, Nat.le_of_ble_eq_true h⟩
      · simp only [Bool.not_eq_true] at h; rw [h]; trivial
    · rfl
    · trivial

theorem Rel.viewS (R : Rel E C s a w G pt) (x : Operand) (hnt : isTup (opd s x) = false) :
    ∃ G', Ext w G w G' ∧ Rel E C (applyU (srcU s x share hasU) s) a w G' pt ∧ RepV w G' pt (view (opd s x)) (a.eval x) ∧ (∀ b, ctV b (view (opd s x)) (a.eval x) = 0) ∧
      RepV w G' pt (share (opd s x)) (a.eval x) := by
  have hv : ∀ b, ctV b (view (opd s x)) (a.eval x) = 0 := fun b => ctV_view b _ _ hnt
  by_cases hx : ∃ t, x = .tmp t
  · obtain ⟨t, rfl⟩ := hx
    simp only [srcU, opd] at hnt hv ⊢
    cases hU : hasU (get s (2 * t)) with
    | true =>
      obtain ⟨G', e, h1, h2, _⟩ := R.shareT t hnt
      exact ⟨G', e, h1, h2.view hnt, hv, h2⟩
    | false =>
      refine ⟨G, Ext.refl _ _, R, ?_, hv, ?_⟩
      · have := R.tm t
        rw [← hasU_share hU] at this
        exact this.view hnt
      · rw [hasU_share hU]; exact R.tm t
  · have h1 : srcU s x share hasU = [] := by cases x <;> first | rfl | exact absurd ⟨_, rfl⟩ hx
    have h2 : share (opd s x) = opd s x := by
      cases x with
      | tmp t => exact absurd ⟨_, rfl⟩ hx
      | const v =>
        exact share_ofV v
      | _ => rfl
    rw [h1, h2]
    have := opd_rep R x
    refine ⟨G, Ext.refl _ _, R, ?_, hv, this⟩
    rw [← h2] at this
    exact this.view hnt
end

end Go.Abs

namespace Go.Abs

theorem ctV_ofV (b : Nat) (v u : Value) : ctV b (ofV v) u = 0 := by
  unfold ofV
  split <;> try (cases u <;> rfl)
  · rename_i k n
    cases inR k n <;> cases u <;> rfl
  · rename_i s
    cases Nat.ble (sby s).length mlen <;> cases u <;> rfl

section
variable {E : Env} {C : Ctx} {s : St} {a : Act} {w : World} {G : Nat → Nat} {pt : Nat → Nat → Option Value}

theorem Rel.take (R : Rel E C s a w G pt) (x : Operand) (o : Oper) (ho : ∀ t, o.dst = some t → t < E.n) {G' : Nat → Nat} {d' : D} {v' : Value}
    (hE : Ext w G w G') (hG : ∀ b, ctV b (opd s x) (a.eval x) = 0 → G' b = G b) (hd : RepV w G' pt d' v')
    (hc : ∀ b, ctV b d' v' ≤ ctV b (opd s x) (a.eval x)) :
    Rel E C (applyU (srcU s x strip hasX ++ dstU o d') s) (a.put o.dst v') w G' pt := by
  have zero : (∀ b, ctV b (opd s x) (a.eval x) = 0) → srcU s x strip hasX = [] →
      Rel E C (applyU (srcU s x strip hasX ++ dstU o d') s) (a.put o.dst v') w G' pt := by
    intro h1 h2
    have hGG : G' = G := funext fun b => hG b (h1 b)
    subst hGG
    rw [h2, List.nil_append]
    exact R.dst0 o ho hd fun b => by have := hc b; have := h1 b; omega
  cases x with
  | tmp tx =>
    cases hX : hasX (get s (2 * tx)) with
    | false => exact zero (fun b => (hasX_strip hX).2 b _) (by simp [srcU, hX])
    | true =>
      have e1 : srcU s (.tmp tx) strip hasX = [(2 * tx, strip (get s (2 * tx)))] := by simp [srcU, hX]
      rw [e1]
      have hxn : tx < E.n := by
        rcases Nat.lt_or_ge tx E.n with h | h
        · exact h
        · have := R.ht tx h; rw [this] at hX; simp [hasX, hasXL] at hX
      simp only [opd] at hc hG
      have hc' : ∀ b, ctV b d' v' ≤ cT s a b tx := hc
      have hG' : ∀ b, cT s a b tx = 0 → G' b = G b := hG
      -- the source alone
      have hEs : RepV w G' pt (strip (get s (2 * tx))) (a.tmps.getD tx Go.undef) := by
        refine RepV.mono (pt := pt) hE (fun _ _ _ h => h) (R.tm tx).strip fun b hb => ?_
        rw [ctV_strip] at hb; omega
      cases hd0 : o.dst with
      | none =>
        rw [dstU_none hd0]
        exact R.weak tx hE hG' hEs hxn fun b => by rw [ctV_strip]; exact Nat.zero_le _
      | some t =>
        rw [dstU_some hd0]
        have htn := ho t hd0
        have hts : t < a.tmps.size := by rw [R.sz]; exact htn
        show Rel E C ((2 * t, d') :: (2 * tx, strip (get s (2 * tx))) :: s) (a.put (some t) v') w G' pt
        refine R.step (fun u => u = t ∨ u = tx) (fun _ => False) (fun b => 0 < cT s a b tx) (by simp) (by simpa using R.df) (fun u hu => ?_) (fun id _ => ⟨by simp, rfl⟩) hE (fun _ _ _ h => h)
          (fun b hb _ => ⟨rfl, hG' b (by omega)⟩) (fun b hb u hu => R.tt hb (fun h => hu (.inr h))) (fun b hb id _ => R.tb hb id) (fun b hb => (R.cb b (Nat.lt_of_lt_of_le hb (R.cT_le b tx))).2)
          (fun u hu => ?_) (fun id h => h.elim) (fun c1 c2 b => ?_) (fun b hb => ?_) rfl rfl rfl (Nat.le_refl _)
        · have h1 : u ≠ t := fun h => hu (.inl h)
          have h2 : u ≠ tx := fun h => hu (.inr h)
          simp only [get_tt, h1, h2, if_false]
          rw [put_get a t u v' hts, if_neg h1]
          exact ⟨trivial, rfl⟩
        · by_cases h1 : u = t
          · subst h1
            refine ⟨htn, ?_⟩
            simp only [get_tt, if_true]
            rw [put_get a u u v' hts, if_pos rfl]
            exact hd
          · have h2 : u = tx := hu.resolve_left h1
            subst h2
            refine ⟨hxn, ?_⟩
            simp only [get_tt, h1, if_false, if_true]
            rw [put_get a t u v' hts, if_neg h1]
            exact hEs
        · have q2 := sumN_congr (n := C.m) (f := cB s w pt b) (g := cB ((2 * t, d') :: (2 * tx, strip (get s (2 * tx))) :: s) w pt b) (fun i _ => (c2 i (fun h => h) b).symm)
          have q3 : cT ((2 * t, d') :: (2 * tx, strip (get s (2 * tx))) :: s) (a.put (some t) v') b t = ctV b d' v' := by
            simp only [cT, get_tt, if_true]
            rw [put_get a t t v' hts, if_pos rfl]
          have h1 := R.ct b
          have h2 := R.cb b
          have h3 := hc' b
          by_cases htx : tx = t
          · subst htx
            have q1 := sumN_upd1 (n := E.n) (f := cT s a b) (g := cT ((2 * tx, d') :: (2 * tx, strip (get s (2 * tx))) :: s) (a.put (some tx) v') b) htn (fun i hi => c1 i (by simp [hi]) b)
            unfold TC at *
            exact ⟨by omega, fun h => h2 (by omega)⟩
          · have q1 := sumN_upd2 (n := E.n) (f := cT s a b) (g := cT ((2 * t, d') :: (2 * tx, strip (get s (2 * tx))) :: s) (a.put (some t) v') b) htn hxn (Ne.symm htx) (fun i hi hj => c1 i (by simp [hi, hj]) b)
            have q4 : cT ((2 * t, d') :: (2 * tx, strip (get s (2 * tx))) :: s) (a.put (some t) v') b tx = 0 := by
              simp only [cT, get_tt, htx, if_false, if_true]
              rw [put_get a t tx v' hts, if_neg htx]
              exact ctV_strip _ _ _
            unfold TC at *
            exact ⟨by omega, fun h => h2 (by omega)⟩
        · rw [hG' b ?_]; exact R.gz b hb
          rcases Nat.eq_zero_or_pos (cT s a b tx) with h | h
          · exact h
          · have := (R.cb b (Nat.lt_of_lt_of_le h (R.cT_le b tx))).1; omega
  | const v => exact zero (fun b => ctV_ofV b v _) rfl
  | global g => exact zero (fun b => rfl) rfl
  | func f => exact zero (fun b => rfl) rfl

end

def OpOk (P : Program) (E : Env) (C : Ctx) (o : Oper) (a : Act) (w : World) (s' : St) : Prop :=
  ∃ v w' G' pt', ((execOp a.eval o).run P w = .ok (.value v) w' ∨ (execOp a.eval o).run P w = .ok .skip w' ∧ v = Go.undef) ∧ Rel E C s' (a.put o.dst v) w' G' pt'

section
variable {P : Program} {E : Env} {C : Ctx} {s : St} {a : Act} {w : World} {G : Nat → Nat} {pt : Nat → Nat → Option Value} {o : Oper} {u : St}

theorem move0_ok (R : Rel E C s a w G pt) (ho : ∀ t, o.dst = some t → t < E.n) (x : Operand) (hop : o.op = .move x)
    (h : aMove0 E o s x = some (true, u)) : OpOk P E C o a w (applyU u s) := by
  have hrun : (execOp a.eval o).run P w = .ok (.value (a.eval x)) w := by simp [execOp, hop]
  simp only [aMove0] at h
  cases hc : (Nat.beq (tag E o) 1 || isTup (opd s x)) with
  | true =>
    rw [hc] at h
    simp only [cond_true, Option.some.injEq, Prod.mk.injEq, true_and] at h
    subst h
    exact ⟨_, w, G, pt, .inl hrun, R.take x o ho (Ext.refl _ _) (fun _ _ => rfl) (opd_rep R x) (fun _ => Nat.le_refl _)⟩
  | false =>
    rw [hc] at h
    simp only [cond_false, Option.some.injEq, Prod.mk.injEq, true_and] at h
    subst h
    have hnt : isTup (opd s x) = false := by simp only [Bool.or_eq_false_iff] at hc; exact hc.2
    obtain ⟨G', e, h1, h2, h3, _⟩ := R.viewS x hnt
    rw [applyU_append]
    exact ⟨_, w, G', pt, .inl hrun, h1.dst0 o ho h2 h3⟩
end
end Go.Abs

namespace Go.Abs
section
variable {E : Env} {C : Ctx} {s : St} {a : Act} {w : World} {G : Nat → Nat} {pt : Nat → Nat → Option Value}

theorem Rel.stripT (R : Rel E C s a w G pt) (t : Nat) (hn : t < E.n) {d : D} (hd : RepV w G pt d (a.tmps.getD t Go.undef)) (hc : ∀ b, ctV b d (a.tmps.getD t Go.undef) = 0) :
    Rel E C ((2 * t, d) :: s) a w G pt ∧
      ∀ b, TC E.n C.m ((2 * t, d) :: s) a w pt b + cT s a b t = TC E.n C.m s a w pt b := by
  refine ⟨R.weak t (Ext.refl _ _) (fun _ _ => rfl) hd hn fun b => by rw [hc]; exact Nat.zero_le _, fun b => ?_⟩
  have e1 := sumN_upd1 (n := E.n) (f := cT s a b) (g := cT ((2 * t, d) :: s) a b) hn (fun i hi => by simp only [cT, get_tt, hi, if_false])
  have e2 := sumN_congr (n := C.m) (f := cB s w pt b) (g := cB ((2 * t, d) :: s) w pt b) (fun i _ => by simp only [cB, get_tb])
  have e3 : cT ((2 * t, d) :: s) a b t = 0 := by simp only [cT, get_tt, if_true]; exact hc b
  unfold TC
  omega

theorem lt_of_hasX (R : Rel E C s a w G pt) {t : Nat} (h : hasX (get s (2 * t)) = true) : t < E.n := by
  rcases Nat.lt_or_ge t E.n with h1 | h1
  · exact h1
  · rw [R.ht t h1] at h; simp [hasX, hasXL] at h
theorem lt_of_box (R : Rel E C s a w G pt) {id : Nat} (h : get s (2 * id + 1) ≠ .undef) : id < C.m := by
  rcases Nat.lt_or_ge id C.m with h1 | h1
  · exact h1
  · exact absurd (R.hb id h1) h

theorem Rel.stripS (R : Rel E C s a w G pt) (x : Operand) :
    Rel E C (applyU (srcU s x strip hasX) s) a w G pt ∧
      ∀ b, TC E.n C.m (applyU (srcU s x strip hasX) s) a w pt b + ctV b (opd s x) (a.eval x) = TC E.n C.m s a w pt b := by
  cases x with
  | tmp t =>
    cases hX : hasX (get s (2 * t)) with
    | true =>
      have e1 : srcU s (.tmp t) strip hasX = [(2 * t, strip (get s (2 * t)))] := by simp [srcU, hX]
      rw [e1]
      exact R.stripT t (lt_of_hasX R hX) (R.tm t).strip fun b => ctV_strip _ _ _
    | false =>
      have e1 : srcU s (.tmp t) strip hasX = [] := by simp [srcU, hX]
      rw [e1]
      exact ⟨R, fun b => by rw [show ctV b (opd s (.tmp t)) _ = 0 from (hasX_strip hX).2 b _]; rfl⟩
  | const v => exact ⟨R, fun b => by rw [show ctV b (opd s (.const v)) _ = 0 from ctV_ofV b v _]; rfl⟩
  | _ => exact ⟨R, fun b => rfl⟩

theorem Rel.held (R : Rel E C s a w G pt) (x : Operand) {b : Nat} (h : 0 < ctV b (opd s x) (a.eval x)) :
    b < w.heap.size ∧ (C.w0.heap.size ≤ b ∨ C.X b) := by
  cases x with
  | tmp t => exact R.cb b (Nat.lt_of_lt_of_le h (R.cT_le b t))
  | const v => rw [show ctV b (opd s (.const v)) _ = 0 from ctV_ofV b v _] at h; omega
  | global g => exact absurd h (by simp [opd, ctV, ctL])
  | func f => exact absurd h (by show ¬ 0 < ctV b (.fnc f) _; rw [show ctV b (.fnc f) (a.eval (.func f)) = 0 from rfl]; omega)

theorem Rel.put (R : Rel E C s a w G pt) (o : Oper) (ho : ∀ t, o.dst = some t → t < E.n) {w' : World} {G' : Nat → Nat} {d' : D} {v' : Value}
    (T : Nat → Prop) (hE : Ext w G w' G') (hT : ∀ b, ¬ T b → b < w.heap.size → w'.heap[b]? = w.heap[b]? ∧ G' b = G b)
    (h0 : ∀ b, T b → TC E.n C.m s a w pt b = 0 ∧ (C.w0.heap.size ≤ b ∨ C.X b)) (hd : RepV w' G' pt d' v')
    (hc : ∀ b, ctV b d' v' ≤ 1 ∧ (0 < ctV b d' v' → TC E.n C.m s a w pt b = 0 ∧ b < w'.heap.size ∧ (C.w0.heap.size ≤ b ∨ C.X b)))
    (hgz : ∀ b, w'.heap.size ≤ b → G' b = 0) (hos : w'.os = w.os) (hout : w'.output = w.output) (htp : w'.tape = w.tape) (hhs : w.heap.size ≤ w'.heap.size) :
    Rel E C (applyU (dstU o d') s) (a.put o.dst v') w' G' pt := by
  have z1 : ∀ b, T b → ∀ t, cT s a b t = 0 := fun b hb t => by have := R.cT_le b t; have := (h0 b hb).1; omega
  have z2 : ∀ b, T b → ∀ id, cB s w pt b id = 0 := fun b hb id => by have := R.cB_le b id; have := (h0 b hb).1; omega
  cases hd0 : o.dst with
  | none =>
    rw [dstU_none hd0]
    refine R.step (fun _ => False) (fun _ => False) T (by simp) (by simpa using R.df) (fun _ _ => ⟨rfl, rfl⟩) (fun _ _ => ⟨rfl, rfl⟩) hE (fun _ _ _ h => h) hT (fun b hb t _ => z1 b hb t) (fun b hb id _ => z2 b hb id)
      (fun b hb => (h0 b hb).2) (fun t h => h.elim) (fun id h => h.elim) (fun c1 c2 b => ?_) hgz hos hout htp hhs
    have e1 := sumN_congr (n := E.n) (f := cT s a b) (g := cT s (a.put none v') b) (fun _ _ => rfl)
    have e2 := sumN_congr (n := C.m) (f := cB s w pt b) (g := cB s w' pt b) (fun i _ => (c2 i (fun h => h) b).symm)
    have h1 := R.ct b
    have h2 := R.cb b
    show TC E.n C.m s (a.put none v') w' pt b ≤ 1 ∧ (0 < TC E.n C.m s (a.put none v') w' pt b → _)
    unfold TC at *
    exact ⟨by omega, fun h => ⟨Nat.lt_of_lt_of_le (h2 (by omega)).1 hhs, (h2 (by omega)).2⟩⟩
  | some t =>
    rw [dstU_some hd0]
    have htn := ho t hd0
    have hts : t < a.tmps.size := by rw [R.sz]; exact htn
    show Rel E C ((2 * t, d') :: s) (a.put (some t) v') w' G' pt
    refine R.step (fun u => u = t) (fun _ => False) T (by simp) (by simpa using R.df) (fun u hu => ?_) (fun id _ => ⟨by simp, rfl⟩) hE (fun _ _ _ h => h) hT (fun b hb t _ => z1 b hb t) (fun b hb id _ => z2 b hb id)
      (fun b hb => (h0 b hb).2) (fun u hu => ?_) (fun id h => h.elim) (fun c1 c2 b => ?_) hgz hos hout htp hhs
    · simp only [get_tt, hu, if_false]
      rw [put_get a t u v' hts, if_neg hu]
      exact ⟨trivial, rfl⟩
    · subst hu
      refine ⟨htn, ?_⟩
      simp only [get_tt, if_true]
      rw [put_get a u u v' hts, if_pos rfl]
      exact hd
    · have e1 := sumN_upd1 (n := E.n) (f := cT s a b) (g := cT ((2 * t, d') :: s) (a.put (some t) v') b) htn (fun i hi => c1 i hi b)
      have e2 := sumN_congr (n := C.m) (f := cB s w pt b) (g := cB ((2 * t, d') :: s) w' pt b) (fun i _ => (c2 i (fun h => h) b).symm)
      have e3 : cT ((2 * t, d') :: s) (a.put (some t) v') b t = ctV b d' v' := by
        simp only [cT, get_tt, if_true]
        rw [put_get a t t v' hts, if_pos rfl]
      have h1 := R.ct b
      have h2 := R.cb b
      have h3 := hc b
      unfold TC at *
      rcases Nat.eq_zero_or_pos (ctV b d' v') with h4 | h4
      · exact ⟨by omega, fun h => ⟨Nat.lt_of_lt_of_le (h2 (by omega)).1 hhs, (h2 (by omega)).2⟩⟩
      · have h5 := h3.2 h4
        exact ⟨by omega, fun _ => h5.2⟩

def ptUpd (pt : Nat → Nat → Option Value) (id st : Nat) (v : Value) : Nat → Nat → Option Value :=
  fun i j => if i = id ∧ j = st then some v else pt i j

theorem Rel.putBox (R : Rel E C s a w G pt) (t : Nat) (htn : t < E.n) (hm : E.n ≤ C.m) {w' : World} {G' : Nat → Nat} {dB d' : D} {pv v' : Value}
    (hE : Ext w G w' G') (hT : ∀ b, b < w.heap.size → w'.heap[b]? = w.heap[b]? ∧ G' b = G b)
    (hd : RepV w' G' (ptUpd pt t (curSt (get s (2 * t + 1)) + 1) pv) d' v') (hd0 : ∀ b, ctV b d' v' = 0)
    (hB : RepB w' G' (ptUpd pt t (curSt (get s (2 * t + 1)) + 1) pv) t dB) (hst : curSt dB = curSt (get s (2 * t + 1)) + 1)
    (hc : ∀ b, ctB w' (ptUpd pt t (curSt (get s (2 * t + 1)) + 1) pv) b t dB ≤ 1 ∧ (0 < ctB w' (ptUpd pt t (curSt (get s (2 * t + 1)) + 1) pv) b t dB →
      TC E.n C.m s a w pt b = 0 ∧ b < w'.heap.size ∧ (C.w0.heap.size ≤ b ∨ C.X b)))
    (hgz : ∀ b, w'.heap.size ≤ b → G' b = 0) (hos : w'.os = w.os) (hout : w'.output = w.output) (htp : w'.tape = w.tape) (hhs : w.heap.size ≤ w'.heap.size) :
    Rel E C ((2 * t, d') :: (2 * t + 1, dB) :: s) (a.put (some t) v') w' G' (ptUpd pt t (curSt (get s (2 * t + 1)) + 1) pv) := by
  have hts : t < a.tmps.size := by rw [R.sz]; exact htn
  generalize hst0 : curSt (get s (2 * t + 1)) + 1 = st at *
  have hno : ∀ j, st ≤ j → pt t j = none := fun j hj => R.pf t j (by omega)
  have hpt : ∀ i j v, pt i j = some v → ptUpd pt t st pv i j = some v := by
    intro i j v h
    unfold ptUpd
    rw [if_neg]
    · exact h
    · rintro ⟨rfl, rfl⟩
      rw [hno j (Nat.le_refl _)] at h; cases h
  refine R.step (fun u => u = t) (fun i => i = t) (fun _ => False) (by simp) (by simpa using R.df) (fun u hu => ?_) (fun id hid => ?_) hE hpt (fun b _ hb => hT b hb) (fun b h => h.elim) (fun b h => h.elim) (fun b h => h.elim)
    (fun u hu => ?_) (fun id hid => ?_) (fun c1 c2 b => ?_) hgz hos hout htp hhs
  · simp only [get_tt, get_bt, hu, if_false]
    rw [put_get a t u v' hts, if_neg hu]
    exact ⟨trivial, rfl⟩
  · simp only [get_tb, get_bb, hid, if_false]
    exact ⟨trivial, funext fun j => by simp [ptUpd, hid]⟩
  · subst hu
    refine ⟨htn, ?_⟩
    simp only [get_tt, if_true]
    rw [put_get a u u v' hts, if_pos rfl]
    exact hd
  · subst hid
    simp only [get_tb, get_bb, if_true]
    refine ⟨by omega, hB, fun j hj => ?_⟩
    rw [hst] at hj
    unfold ptUpd
    rw [if_neg (by omega)]
    exact hno j (by omega)
  · have e1 := sumN_upd1 (n := E.n) (f := cT s a b) (g := cT ((2 * t, d') :: (2 * t + 1, dB) :: s) (a.put (some t) v') b) htn (fun i hi => c1 i hi b)
    have e2 := sumN_upd1 (n := C.m) (f := cB s w pt b) (g := cB ((2 * t, d') :: (2 * t + 1, dB) :: s) w' (ptUpd pt t st pv) b) (x := t) (by omega) (fun i hi => c2 i hi b)
    have e3 : cT ((2 * t, d') :: (2 * t + 1, dB) :: s) (a.put (some t) v') b t = 0 := by
      simp only [cT, get_tt, if_true]
      rw [put_get a t t v' hts, if_pos rfl]
      exact hd0 b
    have e4 : cB ((2 * t, d') :: (2 * t + 1, dB) :: s) w' (ptUpd pt t st pv) b t = ctB w' (ptUpd pt t st pv) b t dB := by
      simp only [cB, get_tb, get_bb, if_true]
    have h1 := R.ct b
    have h2 := R.cb b
    have h3 := hc b
    unfold TC at *
    rcases Nat.eq_zero_or_pos (ctB w' (ptUpd pt t st pv) b t dB) with h4 | h4
    · exact ⟨by omega, fun h => ⟨Nat.lt_of_lt_of_le (h2 (by omega)).1 hhs, (h2 (by omega)).2⟩⟩
    · have h5 := h3.2 h4
      exact ⟨by omega, fun _ => h5.2⟩
end

section
variable {P : Program} {E : Env} {C : Ctx} {s : St} {a : Act} {w : World} {G : Nat → Nat} {pt : Nat → Nat → Option Value} {o : Oper} {u : St}

theorem retype_rep {t : Ty} {d : D} {v : Value} (h : RepV w G pt d v) : RepV w G pt (retype t d) v ∧ ∀ b, ctV b (retype t d) v = ctV b d v := by
  cases d with
  | nils =>
    have h' : v = .slice none 0 0 := h
    subst h'
    cases t <;> try exact ⟨h, fun _ => rfl⟩
    refine ⟨⟨none, 0, 0, rfl, rfl, by simp, .inl ⟨rfl, rfl, rfl⟩⟩, fun _ => rfl⟩
  | _ => exact ⟨h, fun _ => rfl⟩

theorem retype_tup {t : Ty} {d : D} (h : isTup (retype t d) = false) : isTup d = false := by
  cases d <;> first | rfl | exact h

theorem assign_ok (R : Rel E C s a w G pt) (hm : E.n ≤ C.m) (ho : ∀ t, o.dst = some t → t < E.n) (x : Operand) (hop : o.op = .assign x)
    (h : aAssign E o s x = some (true, u)) : OpOk P E C o a w (applyU u s) := by
  have hrun : (execOp a.eval o).run P w = .ok (.value (a.eval x)) w := by simp [execOp, hop]
  simp only [aAssign] at h
  cases hT : isTup (retype (tyOf E o.type) (opd s x)) with
  | true => simp [hT] at h
  | false =>
    rw [hT] at h
    simp only [cond_false] at h
    have hrep := opd_rep R x
    obtain ⟨q1, q2⟩ := retype_rep (t := tyOf E o.type) hrep
    split at h
    · -- promote
      split at h
      · rename_i f t l dst hd hdst
        cases hg : (Nat.beq f 2 && Nat.blt 0 t.nc) with
        | false => simp [hg] at h
        | true =>
          rw [hg] at h
          simp only [cond_true, Option.some.injEq, Prod.mk.injEq, true_and] at h
          simp only [Bool.and_eq_true] at hg
          have hf := Nat.eq_of_beq_eq_true hg.1
          subst hf
          subst h
          obtain ⟨R1, hc1⟩ := R.stripS x
          have hg0 : get (applyU (srcU s x strip hasX) s) (2 * dst + 1) = get s (2 * dst + 1) := by
            cases x with
            | tmp t => simp only [srcU]; cases hasX (get s (2 * t)) <;> simp [applyU]
            | _ => rfl
          rw [hd] at q1 q2
          obtain ⟨ad, n, c, hv, hn, hbd, hsl⟩ := q1
          rw [applyU_append, ← hg0]
          have key := R1.putBox dst (ho dst hdst) hm (w' := w) (G' := G) (dB := .arrv (curSt (get (applyU (srcU s x strip hasX) s) (2 * dst + 1)) + 1) true false t l)
            (d' := .rsl dst (curSt (get (applyU (srcU s x strip hasX) s) (2 * dst + 1)) + 1)) (pv := a.eval x) (v' := a.eval x) (Ext.refl _ _) (fun _ _ => ⟨rfl, rfl⟩)
            (by show ptUpd _ _ _ _ _ _ = _; simp [ptUpd]) (fun b => by cases a.eval x <;> rfl)
            (fun _ => by
              simp only [Bool.false_eq_true, if_false]
              refine ⟨ad, n, c, ?_, hn, hbd, hsl⟩
              simp [ptUpd, hv]) rfl
            (fun b => by
              have e : ctB w (ptUpd pt dst (curSt (get (applyU (srcU s x strip hasX) s) (2 * dst + 1)) + 1) (a.eval x)) b dst
                  (.arrv (curSt (get (applyU (srcU s x strip hasX) s) (2 * dst + 1)) + 1) true false t l) = isBlk b (some (a.eval x)) := by
                simp [ctB, ptUpd]
              rw [e]
              have e2 : isBlk b (some (a.eval x)) = ctV b (opd s x) (a.eval x) := by
                rw [← q2 b, hv]
                rcases hsl with ⟨h5, _⟩ | ⟨b', h5, _⟩
                · subst h5; simp [isBlk, blkOf, ctV, ctL]
                · subst h5; simp [isBlk, blkOf, ctV, ctL]
              rw [e2]
              have h1 := hc1 b
              have h2 := R.ct b
              refine ⟨by omega, fun h => ⟨by omega, R.held x h⟩⟩)
            R.gz rfl rfl rfl (Nat.le_refl _)
          exact ⟨_, w, G, _, .inl hrun, by rw [hdst]; exact key⟩
      · cases h
    · -- keep
      simp only [Option.some.injEq, Prod.mk.injEq, true_and] at h
      subst h
      exact ⟨_, w, G, pt, .inl hrun, R.take x o ho (Ext.refl _ _) (fun _ _ => rfl) q1 (fun b => by rw [q2]; exact Nat.le_refl _)⟩
    · -- the default
      simp only [Option.some.injEq, Prod.mk.injEq, true_and] at h
      subst h
      have hc : ∀ b, ctV b (retype (tyOf E o.type) (opd s x)) (a.eval x) ≤ 1 := by
        intro b
        rw [q2]
        have h1 := (R.stripS x).2 b
        have h2 := R.ct b
        omega
      obtain ⟨e, h1⟩ := q1.share hc hT
      exact ⟨_, w, _, pt, .inl hrun, R.take x o ho e (fun b hb => commV_other (by rw [q2]; exact hb)) h1 (fun b => by rw [ctV_share, q2]; exact Nat.le_refl _)⟩
end
end Go.Abs

namespace Go.Abs

def leafTys : Ty → List Ty
  | .unit => []
  | .cons a b => leafTys a ++ leafTys b
  | .st _ c => leafTys c
  | t => [t]

def tyP (P : Program) : Nat → TypeId → Ty
  | 0, _ => .unit
  | n + 1, T => match P.underlying T with
    | some (.int k) => .int k
    | some .bool => .bool
    | some .string => .str
    | some (.slice e) => .sl (tyP P n e)
    | some (.struct fs) => .st (((P.info? T).map (·.bytes)).getD 0) (fs.toList.foldr (fun f r => .cons (tyP P n f.type) r) .unit)
    | some (.array len e) => .st (((P.info? T).map (·.bytes)).getD 0) ((List.replicate len e).foldr (fun e r => .cons (tyP P n e) r) .unit)
    | _ => .unit

def zD : Value → Ty → D
  | .int k n, _ => bif inR k n then .int k n else .undef
  | .bool b, _ => .bool b
  | .string s, _ => bif Nat.ble (sby s).length mlen then .str (sby s) else .undef
  | .slice none 0 0, .sl t => .sl 2 t []
  | .slice none 0 0, _ => .nils
  | _, _ => .undef

def zDs : List Value → List Ty → List D
  | [], _ => []
  | v :: r, [] => zD v .unit :: zDs r []
  | v :: r, t :: ts => zD v t :: zDs r ts

def sameInts (k : IntKind) : List Ty → Bool
  | [] => true
  | .int k' :: r => kbeq k k' && sameInts k r
  | _ :: _ => false

def isAggT : TypeDesc → Bool
  | .struct _ | .array _ _ => true
  | _ => false

def look : List (Nat × List Nat) → Nat → Option (List Nat)
  | [], _ => none
  | (t, ks) :: r, T => bif Nat.beq T t then some ks else look r T

def tiOf (P : Program) (cl : List (Nat × List Nat)) (T : TypeId) : Option TI :=
  match P.info? T, P.underlying T with
  | some pi, some d => match pi.zero with
    | some z =>
      let ty := tyP P 12 T
      bif Nat.beq z.cells.size pi.size && (isAggT d || Nat.beq pi.size 1) && z.cells.all (·.oneCell') then
      some { size := pi.size, bytes := pi.bytes, agg := isAggT d, ty := ty, desc := d, zero := zDs z.cells.toList (leafTys ty),
             arr := match d, leafTys ty with
               | .array _ e, .int k :: r => bif sameInts k r then some (.int k) else some (tyP P 11 e)
               | .array _ e, _ => some (tyP P 11 e)
               | _, _ => none
             cmp := look cl T } else none
    | none => none
  | _, _ => none

structure TIok (P : Program) (T : TypeId) (i : TI) : Prop where
  info : ∃ pi z, P.info? T = some pi ∧ pi.size = i.size ∧ pi.bytes = i.bytes ∧ pi.zero = some z ∧ z.cells.size = i.size ∧ i.zero.length = i.size ∧
    (∀ j, j < i.size → (arrF z.cells j).oneCell' = true) ∧
    ∀ j (h : j < i.zero.length), (∀ w G pt, RepL w G pt i.zero[j] (arrF z.cells j)) ∧ ∀ b, ctL b i.zero[j] (arrF z.cells j) = 0
  und : P.underlying T = some i.desc
  agg : i.agg = isAggT i.desc
  one : i.agg = false → i.size = 1

theorem zD_ok (v : Value) (t : Ty) : (∀ w G pt, RepL w G pt (zD v t) v) ∧ ∀ b, ctL b (zD v t) v = 0 := by
  cases v with
  | int k n =>
    show (∀ w G pt, RepL w G pt (bif inR k n then .int k n else .undef) _) ∧ ∀ b, ctL b (bif inR k n then .int k n else .undef) _ = 0
    by_cases h : inR k n = true
    · rw [h]
      simp only [inR, Bool.and_eq_true, decide_eq_true_eq] at h
      exact ⟨fun _ _ _ => ⟨rfl, h⟩, fun _ => rfl⟩
    · simp only [Bool.not_eq_true] at h; rw [h]; exact ⟨fun _ _ _ => trivial, fun _ => rfl⟩
  | bool b => exact ⟨fun _ _ _ => rfl, fun _ => rfl⟩
  | string s =>
    show (∀ w G pt, RepL w G pt (bif Nat.ble (sby s).length mlen then .str (sby s) else .undef) _) ∧ ∀ b, ctL b (bif Nat.ble (sby s).length mlen then .str (sby s) else .undef) _ = 0
    by_cases h : Nat.ble (sby s).length mlen = true
    · rw [h]; exact ⟨fun _ _ _ => ⟨_, rfl, rfl, Nat.le_of_ble_eq_true h⟩, fun _ => rfl⟩
    · simp only [Bool.not_eq_true] at h; rw [h]; exact ⟨fun _ _ _ => trivial, fun _ => rfl⟩
  | slice a n c =>
    unfold zD
    split
    · rename_i h; cases h
    · rename_i h; cases h
    · rename_i h; cases h
    · rename_i h; cases h; exact ⟨fun _ _ _ => ⟨none, 0, 0, rfl, rfl, by simp, .inl ⟨rfl, rfl, rfl⟩⟩, fun _ => rfl⟩
    · rename_i h _; cases h; exact ⟨fun _ _ _ => rfl, fun _ => rfl⟩
    · exact ⟨fun _ _ _ => trivial, fun _ => rfl⟩
  | _ => exact ⟨fun _ _ _ => trivial, fun _ => rfl⟩

theorem zDs_ok : ∀ (vs : List Value) (ts : List Ty), (zDs vs ts).length = vs.length ∧
    ∀ j (h : j < (zDs vs ts).length), (∀ w G pt, RepL w G pt (zDs vs ts)[j] (vs.getD j undef)) ∧ ∀ b, ctL b (zDs vs ts)[j] (vs.getD j undef) = 0
  | [], _ => ⟨rfl, fun j h => by simp [zDs] at h⟩
  | v :: r, [] => by
    obtain ⟨h1, h2⟩ := zDs_ok r []
    refine ⟨by simp [zDs, h1], fun j h => ?_⟩
    match j, h with
    | 0, _ => exact zD_ok v .unit
    | j + 1, h => simpa [zDs] using h2 j (by simpa [zDs] using h)
  | v :: r, t :: ts => by
    obtain ⟨h1, h2⟩ := zDs_ok r ts
    refine ⟨by simp [zDs, h1], fun j h => ?_⟩
    match j, h with
    | 0, _ => exact zD_ok v t
    | j + 1, h => simpa [zDs] using h2 j (by simpa [zDs] using h)

theorem tiOf_ok {P : Program} {cl : List (Nat × List Nat)} {T : TypeId} {i : TI} (h : tiOf P cl T = some i) : TIok P T i := by
  unfold tiOf at h
  split at h
  · rename_i pi d hi hu
    split at h
    · rename_i z hz
      cases hb : (Nat.beq z.cells.size pi.size && (isAggT d || Nat.beq pi.size 1) && z.cells.all (·.oneCell')) with
      | false => simp [hb] at h
      | true =>
        simp only [hb, cond_true, Option.some.injEq] at h
        subst h
        simp only [Bool.and_eq_true, Bool.or_eq_true] at hb
        obtain ⟨⟨h1, h2⟩, h3⟩ := hb
        have h1' := Nat.eq_of_beq_eq_true h1
        obtain ⟨q1, q2⟩ := zDs_ok z.cells.toList (leafTys (tyP P 12 T))
        refine ⟨⟨pi, z, hi, rfl, rfl, hz, h1', by simp [q1, h1'], fun j hj => ?_, fun j hj => ?_⟩, hu, rfl, fun ha => ?_⟩
        · have hj' : j < z.cells.size := by rw [h1']; exact hj
          have := Array.all_eq_true.1 h3 j hj'
          simpa [arrF, Array.getD_eq_getD_getElem?, hj'] using this
        · have := q2 j hj
          have e : arrF z.cells j = z.cells.toList.getD j undef := by simp [arrF, Array.getD_eq_getD_getElem?, List.getD_eq_getElem?_getD]
          rw [e]
          exact this
        · rcases h2 with h2 | h2
          · rw [h2] at ha; cases ha
          · exact Nat.eq_of_beq_eq_true h2
    · cases h
  · cases h

end Go.Abs

namespace Go.Abs

theorem wrap_has (k : IntKind) (n : Int) : k.has (k.wrap n) := by
  have key : ∀ m : Int, 0 < m → 0 ≤ n % m ∧ n % m < m := fun m hm => ⟨Int.emod_nonneg _ (by omega), Int.emod_lt_of_pos _ hm⟩
  cases k <;> simp only [IntKind.has, IntKind.wrap, IntKind.min, IntKind.max, IntKind.bits, IntKind.signed] <;> simp <;> (try split) <;> omega

theorem emod_le' {x y : Int} (hx : 0 ≤ x) (hy : 0 < y) : x % y ≤ x := by
  rw [Int.emod_def]
  have := Int.mul_nonneg (Int.le_of_lt hy) (Int.ediv_nonneg hx (Int.le_of_lt hy))
  omega

theorem tmod_has {k : IntKind} {x : Int} (y : Int) (h : k.has x) : k.has (x.tmod y) := by
  have h1 : x.tmod y ≤ x ∨ x.tmod y ≤ 0 := by
    rcases Int.le_total 0 x with hx | hx
    · left
      rw [Int.tmod_eq_emod_of_nonneg hx]
      rcases Int.lt_trichotomy y 0 with hy | hy | hy
      · rw [← Int.emod_neg]
        exact emod_le' hx (by omega)
      · subst hy; simp
      · exact emod_le' hx (by omega)
    · right
      have := Int.neg_tmod (-x) y
      rw [Int.neg_neg] at this
      rw [this]
      have := Int.tmod_nonneg y (show 0 ≤ -x by omega)
      omega
  have h2 : x ≤ x.tmod y ∨ 0 ≤ x.tmod y := by
    rcases Int.le_total 0 x with hx | hx
    · right; exact Int.tmod_nonneg y hx
    · left
      have := Int.neg_tmod (-x) y
      rw [Int.neg_neg] at this
      rw [this]
      have : (-x).tmod y ≤ -x := by
        have hx' : 0 ≤ -x := by omega
        rw [Int.tmod_eq_emod_of_nonneg hx']
        rcases Int.lt_trichotomy y 0 with hy | hy | hy
        · rw [← Int.emod_neg]
          exact emod_le' hx' (by omega)
        · subst hy; simp
        · exact emod_le' hx' (by omega)
      omega
  have hmin : k.min ≤ 0 := by cases k <;> simp [IntKind.min, IntKind.bits, IntKind.signed]
  have hmax : 0 ≤ k.max := by cases k <;> simp [IntKind.max, IntKind.bits, IntKind.signed]
  unfold IntKind.has at *
  omega

theorem fdiv_has {k : IntKind} {x : Int} (m : Nat) (h : k.has x) : k.has (x.fdiv (2 ^ m)) := by
  have hp : (0 : Int) < 2 ^ m := Int.pow_pos (by omega)
  rw [Int.fdiv_eq_ediv_of_nonneg _ (by omega)]
  have h1 : 0 ≤ x → x / 2 ^ m ≤ x ∧ 0 ≤ x / 2 ^ m := fun hx => ⟨Int.ediv_le_self _ hx, Int.ediv_nonneg hx (by omega)⟩
  have h2 : x < 0 → x ≤ x / 2 ^ m ∧ x / 2 ^ m < 0 := fun hx => ⟨by
    rw [Int.le_ediv_iff_mul_le hp]
    have : x * 2 ^ m ≤ x * 1 := Int.mul_le_mul_of_nonpos_left (by omega) (by omega)
    omega, Int.ediv_neg_of_neg_of_pos hx hp⟩
  have hmin : k.min ≤ 0 := by cases k <;> simp [IntKind.min, IntKind.bits, IntKind.signed]
  have hmax : 0 ≤ k.max := by cases k <;> simp [IntKind.max, IntKind.bits, IntKind.signed]
  unfold IntKind.has at *
  by_cases hx : x < 0
  · have := h2 hx; omega
  · have := h1 (by omega); omega

section
variable {P : Program} {E : Env} {C : Ctx} {s : St} {a : Act} {w : World} {G : Nat → Nat} {pt : Nat → Nat → Option Value} {o : Oper} {u : St} {xT : Nat}

theorem pure_ok (R : Rel E C s a w G pt) (ho : ∀ t, o.dst = some t → t < E.n) {v : Value} {d : D} (hrun : (execOp a.eval o).run P w = .ok (.value v) w)
    (hd : RepV w G pt d v) (hc : ∀ b, ctV b d v = 0) : OpOk P E C o a w (applyU (dstU o d) s) :=
  ⟨v, w, G, pt, .inl hrun, R.dst0 o ho hd hc⟩

theorem nilCheck_ok (R : Rel E C s a w G pt) (ho : ∀ t, o.dst = some t → t < E.n) (x : Operand) (hop : o.op = .nilCheck x)
    (h : aNilCheck o s x = some (true, u)) : OpOk P E C o a w (applyU u s) := by
  simp only [aNilCheck] at h
  cases hp : isPtr (opd s x) with
  | false => simp [hp] at h
  | true =>
    rw [hp] at h
    simp only [cond_true, Option.some.injEq, Prod.mk.injEq, true_and] at h
    subst h
    have hr := opd_rep R x
    have hrun : (execOp a.eval o).run P w = .ok (.value (a.eval x)) w := by
      cases hd : opd s x <;> rw [hd] at hp hr <;> simp only [isPtr, Bool.false_eq_true] at hp
      · obtain ⟨b, _, hv⟩ := hr; simp [execOp, hop, hv]
      · obtain ⟨b, _, hv⟩ := hr; simp [execOp, hop, hv]
      · have hv : a.eval x = .pointer _ := hr; simp [execOp, hop, hv]
      · obtain ⟨b, _, hv, _⟩ := hr; simp [execOp, hop, hv]
      · obtain ⟨arr, hv, _⟩ := hr; simp [execOp, hop, hv]
      · have hv : a.eval x = .func _ #[] #[] := hr; simp [execOp, hop, hv]
      · obtain ⟨b, _, hv, _⟩ := hr; simp [execOp, hop, hv]
    refine pure_ok R ho hrun hr fun b => ?_
    cases hd : opd s x <;> rw [hd] at hp <;> simp only [isPtr, Bool.false_eq_true] at hp <;> cases a.eval x <;> rfl

theorem run_binop (op : BinOp) (xT : Nat) (x y : Operand) (yT : Nat) (hop : o.op = .binOp op xT x y yT) {v : Value}
    (hg : (eqGuard op xT x y (a.eval x) (a.eval y)).run P w = .ok () w) (hb : (binOp op xT (a.eval x) (a.eval y)).run P w = .ok v w) :
    (execOp a.eval o).run P w = .ok (.value v) w := by
  simp [execOp, hop, hg, hb]

theorem guard_int (op : BinOp) (xT : Nat) (x y : Operand) {p q : Value} (h : ∀ cs, p ≠ .agg cs) (h2 : p ≠ .nilIface) : (eqGuard op xT x y p q).run P w = .ok () w := by
  unfold eqGuard
  cases op <;> simp <;> split <;> first | rfl | exact absurd rfl h2 | exact absurd rfl (h _)

theorem arith_ok {op : BinOp} {k : IntKind} {x y : Int} {d : D} (hx : k.has x) (h : arith op k x y = some (true, d)) :
    ∃ v, (binOp op xT (.int k x) (.int k y)).run P w = .ok v w ∧ RepV w G pt d v ∧ ∀ b, ctV b d v = 0 := by
  cases op <;> simp only [arith, Option.some.injEq, Prod.mk.injEq, true_and, reduceCtorEq, Bool.not_eq_true', beq_eq_false_iff_ne, ne_eq] at h
  · subst h; exact ⟨.int k (k.wrap (x + y)), by simp [binOp, Op.intArith], ⟨rfl, wrap_has _ _⟩, fun _ => rfl⟩
  · subst h; exact ⟨.int k (k.wrap (x - y)), by simp [binOp, Op.intArith], ⟨rfl, wrap_has _ _⟩, fun _ => rfl⟩
  · subst h; exact ⟨.int k (k.wrap (x * y)), by simp [binOp, Op.intArith], ⟨rfl, wrap_has _ _⟩, fun _ => rfl⟩
  · obtain ⟨h0, h⟩ := h; subst h; exact ⟨.int k (k.wrap (x.tdiv y)), by simp [binOp, Op.intDiv, h0], ⟨rfl, wrap_has _ _⟩, fun _ => rfl⟩
  · obtain ⟨h0, h⟩ := h; subst h; exact ⟨.int k (x.tmod y), by simp [binOp, Op.intDiv, h0], ⟨rfl, tmod_has _ hx⟩, fun _ => rfl⟩
  · subst h; refine ⟨.int k (k.wrap (BitVec.ofInt k.bits x &&& BitVec.ofInt k.bits y).toNat), ?_, ⟨rfl, wrap_has _ _⟩, fun _ => rfl⟩; simp [binOp, Op.intBits]
  · subst h; refine ⟨.int k (k.wrap (BitVec.ofInt k.bits x ||| BitVec.ofInt k.bits y).toNat), ?_, ⟨rfl, wrap_has _ _⟩, fun _ => rfl⟩; simp [binOp, Op.intBits]
  · subst h; refine ⟨.int k (k.wrap (BitVec.ofInt k.bits x ^^^ BitVec.ofInt k.bits y).toNat), ?_, ⟨rfl, wrap_has _ _⟩, fun _ => rfl⟩; simp [binOp, Op.intBits]
  · subst h; refine ⟨.int k (k.wrap (BitVec.ofInt k.bits x &&& ~~~BitVec.ofInt k.bits y).toNat), ?_, ⟨rfl, wrap_has _ _⟩, fun _ => rfl⟩; simp [binOp, Op.intBits]
  · subst h; exact ⟨.bool (x == y), by simp [binOp, Op.intCmp], rfl, fun _ => rfl⟩
  · subst h; exact ⟨.bool (x != y), by simp [binOp, Op.intCmp], rfl, fun _ => rfl⟩
  · subst h; exact ⟨.bool (decide (x < y)), by simp [binOp, Op.intCmp], rfl, fun _ => rfl⟩
  · subst h; exact ⟨.bool (decide (x ≤ y)), by simp [binOp, Op.intCmp], rfl, fun _ => rfl⟩
  · subst h; exact ⟨.bool (decide (x > y)), by simp [binOp, Op.intCmp], rfl, fun _ => rfl⟩
  · subst h; exact ⟨.bool (decide (x ≥ y)), by simp [binOp, Op.intCmp], rfl, fun _ => rfl⟩

theorem shifts_ok {op : BinOp} {k k' : IntKind} {x y : Int} {d : D} (hx : k.has x) (h : shifts op k x y = some (true, d)) :
    ∃ v, (binOp op xT (.int k x) (.int k' y)).run P w = .ok v w ∧ RepV w G pt d v ∧ ∀ b, ctV b d v = 0 := by
  cases op <;> simp only [shifts, Option.some.injEq, Prod.mk.injEq, reduceCtorEq, decide_eq_true_eq] at h
  · obtain ⟨h0, h⟩ := h; subst h
    exact ⟨.int k (k.wrap (x * 2 ^ min y.toNat k.bits)), by simp [binOp, Op.shift, show ¬ y < 0 by omega], ⟨rfl, wrap_has _ _⟩, fun _ => rfl⟩
  · obtain ⟨h0, h⟩ := h; subst h
    exact ⟨.int k (x.fdiv (2 ^ min y.toNat k.bits)), by simp [binOp, Op.shift, show ¬ y < 0 by omega], ⟨rfl, fdiv_has _ hx⟩, fun _ => rfl⟩
end
end Go.Abs

namespace Go.Abs

def kindsFs (P : Program) (rec : TypeId → Option (List Nat)) : List Field → Nat → Nat → Option (List Nat)
  | [], off, tot => bif Nat.beq off tot then some [] else none
  | f :: r, off, tot => bif Nat.beq f.offset off && (f.name != "_") then
      match rec f.type with
      | some ks => match kindsFs P rec r (off + P.cellsOf f.type) tot with
        | some ks' => some (ks ++ ks')
        | none => none
      | none => none
    else none

def kindsB (P : Program) : Nat → TypeId → Option (List Nat)
  | 0, _ => none
  | n + 1, T => match P.underlying T with
    | some (.int _) => bif Nat.beq (P.cellsOf T) 1 then some [0] else none
    | some .bool => bif Nat.beq (P.cellsOf T) 1 then some [1] else none
    | some .string => bif Nat.beq (P.cellsOf T) 1 then some [2] else none
    | some (.struct fs) => bif !P.stoodInHeld T then kindsFs P (kindsB P n) fs.toList 0 (P.cellsOf T) else none
    | _ => none

theorem sby_inj {s s' : ByteArray} : (s.toList == s'.toList) = (sby s == sby s') := by
  rw [Bool.eq_iff_iff, beq_iff_eq, beq_iff_eq, ByteArray.toList_eq, ByteArray.toList_eq]
  unfold sby
  constructor
  · intro h; rw [h]
  · intro h
    have inj : ∀ (a b : List UInt8), (a.map fun x => (x.toNat : Int)) = b.map (fun x => (x.toNat : Int)) → a = b := by
      intro a
      induction a with
      | nil => intro b h; cases b <;> simp at h ⊢
      | cons x a ih =>
        intro b h
        cases b with
        | nil => simp at h
        | cons y b =>
          simp only [List.map_cons, List.cons.injEq] at h
          rw [ih b h.2, UInt8.toNat_inj.1 (by omega : x.toNat = y.toNat)]
    exact inj _ _ h

theorem eqLs_len : ∀ {a b : List D} {r : Bool}, eqLs a b = some r → a.length = b.length
  | [], [], _, _ => rfl
  | [], _ :: _, _, h => by simp [eqLs] at h
  | d :: a, [], _, h => by cases d <;> simp [eqLs] at h
  | d :: a, e :: b, r, h => by
    cases d <;> cases e <;> simp only [eqLs, reduceCtorEq] at h
    · cases hr : eqLs a b with
      | none => simp [hr] at h
      | some q => simp [eqLs_len hr]
    · rename_i k x k' y
      cases hk : kbeq k k' with
      | false => simp [hk] at h
      | true =>
        simp only [hk, cond_true] at h
        cases hr : eqLs a b with
        | none => simp [hr] at h
        | some q => simp [eqLs_len hr]
    · cases hr : eqLs a b with
      | none => simp [hr] at h
      | some q => simp [eqLs_len hr]

theorem eqLs_split : ∀ {a b : List D} (n : Nat) {r : Bool}, eqLs a b = some r → ∃ r1 r2, eqLs (a.take n) (b.take n) = some r1 ∧ eqLs (a.drop n) (b.drop n) = some r2 ∧ r = (r1 && r2)
  | a, b, 0, r, h => ⟨true, r, by simp [eqLs], by simpa using h, by simp⟩
  | [], [], n + 1, r, h => ⟨true, true, by simp [eqLs], by simp [eqLs], by simpa [eqLs] using h.symm⟩
  | [], _ :: _, n + 1, r, h => by simp [eqLs] at h
  | d :: a, [], n + 1, _, h => by cases d <;> simp [eqLs] at h
  | d :: a, e :: b, n + 1, r, h => by
    cases d <;> cases e <;> simp only [eqLs, reduceCtorEq] at h
    · cases hr : eqLs a b with
      | none => simp [hr] at h
      | some q =>
        obtain ⟨r1, r2, h1, h2, h3⟩ := eqLs_split n hr
        simp only [hr, Option.some.injEq] at h
        exact ⟨_, r2, by simp only [List.take_succ_cons, eqLs, h1]; rfl, by simpa using h2, by rw [← h, h3, Bool.and_assoc]⟩
    · rename_i k x k' y
      cases hk : kbeq k k' with
      | false => simp [hk] at h
      | true =>
        simp only [hk, cond_true] at h
        cases hr : eqLs a b with
        | none => simp [hr] at h
        | some q =>
          obtain ⟨r1, r2, h1, h2, h3⟩ := eqLs_split n hr
          simp only [hr, Option.some.injEq] at h
          exact ⟨_, r2, by simp only [List.take_succ_cons, eqLs, h1, hk, cond_true]; rfl, by simpa using h2, by rw [← h, h3, Bool.and_assoc]⟩
    · cases hr : eqLs a b with
      | none => simp [hr] at h
      | some q =>
        obtain ⟨r1, r2, h1, h2, h3⟩ := eqLs_split n hr
        simp only [hr, Option.some.injEq] at h
        exact ⟨_, r2, by simp only [List.take_succ_cons, eqLs, h1]; rfl, by simpa using h2, by rw [← h, h3, Bool.and_assoc]⟩

section
variable {P : Program} {w : World} {G : Nat → Nat} {pt : Nat → Nat → Option Value}

theorem RepLs.take {ds : List D} {f : Nat → Value} (h : RepLs w G pt ds f) (n : Nat) : RepLs w G pt (ds.take n) f := fun j hj => by
  have := h j (by simp at hj; omega)
  simpa using this
theorem RepLs.drop {ds : List D} {f : Nat → Value} (h : RepLs w G pt ds f) (n : Nat) : RepLs w G pt (ds.drop n) (fun j => f (n + j)) := fun j hj => by
  have := h (n + j) (by simp at hj; omega)
  simpa using this

theorem cellsOf_run {T : TypeId} (h : (P.info? T).isSome = true) : (sizeOf T).run P w = .ok (P.cellsOf T) w := by
  obtain ⟨i, hi⟩ := Option.isSome_iff_exists.1 h
  simp [sizeOf, typeInfo, hi, Program.cellsOf]

theorem part_leaf {T : TypeId} {d : TypeDesc} (hu : P.underlying T = some d) (hd : isAggT d = false) (xs : Array Value) (o : Nat) (h : o < xs.size) :
    (part T xs o).run P w = .ok (arrF xs o) w := by
  have hagg : (isAgg T).run P w = .ok false w := by
    unfold isAgg
    rw [Sem.run_bind, run_underlying hu w]
    cases d <;> simp_all [isAggT]
  simp [part, hagg, h, arrF, Array.getD_eq_getD_getElem?]

theorem part_agg {T : TypeId} {d : TypeDesc} (hu : P.underlying T = some d) (hd : isAggT d = true) (hi : (P.info? T).isSome = true) (xs : Array Value) (o : Nat) :
    (part T xs o).run P w = .ok (.agg (xs.extract o (o + P.cellsOf T))) w := by
  have hagg : (isAgg T).run P w = .ok true w := by
    unfold isAgg
    rw [Sem.run_bind, run_underlying hu w]
    cases d <;> simp_all [isAggT]
  simp [part, hagg, cellsOf_run hi]

theorem info_of_und {T : TypeId} {d : TypeDesc} (h : P.underlying T = some d) : (P.info? T).isSome = true := by
  unfold Program.underlying at h
  split at h <;> simp_all

theorem arrF_extract (xs : Array Value) (o n j : Nat) (hj : j < n) (h : o + n ≤ xs.size) : arrF (xs.extract o (o + n)) j = arrF xs (o + j) := by
  simp only [arrF, Array.getD_eq_getD_getElem?, Array.getElem?_extract]
  rw [if_pos (by omega)]

theorem conf_len : ∀ {a : List D} {ks : List Nat}, conf a ks = true → a.length = ks.length
  | [], [], _ => rfl
  | [], _ :: _, h => by simp [conf] at h
  | d :: a, [], h => by simp [conf] at h
  | d :: a, k :: ks, h => by
    simp only [conf, Bool.and_eq_true] at h
    simp [conf_len h.2]

theorem conf_split : ∀ {a : List D} {ks ks' : List Nat}, conf a (ks ++ ks') = true → conf (a.take ks.length) ks = true ∧ conf (a.drop ks.length) ks' = true
  | a, [], ks', h => ⟨by simp [conf], by simpa using h⟩
  | [], k :: ks, ks', h => by simp [conf] at h
  | d :: a, k :: ks, ks', h => by
    simp only [List.cons_append, conf, Bool.and_eq_true] at h
    obtain ⟨h3, h4⟩ := conf_split h.2
    exact ⟨by simp [conf, h.1, h3], by simpa using h4⟩

theorem kinds_lenF (n : Nat) (tot : Nat) (ih : ∀ {T : TypeId} {ks : List Nat}, kindsB P n T = some ks → ks.length = P.cellsOf T) : ∀ (l : List Field) (off : Nat) (ks : List Nat), kindsFs P (kindsB P n) l off tot = some ks → off + ks.length = tot := by
          intro l
          induction l with
          | nil =>
            intro off ks h
            simp only [kindsFs] at h
            cases hoff : Nat.beq off tot with
            | false => simp [hoff] at h
            | true =>
              simp only [hoff, cond_true, Option.some.injEq] at h
              subst h
              simpa using Nat.eq_of_beq_eq_true hoff
          | cons f l ihl =>
            intro off ks h
            simp only [kindsFs] at h
            cases hc1 : (Nat.beq f.offset off && (f.name != "_")) with
            | false => simp [hc1] at h
            | true =>
              simp only [hc1, cond_true] at h
              cases hr1 : kindsB P n f.type with
              | none => simp [hr1] at h
              | some k1 =>
                simp only [hr1] at h
                cases hr2 : kindsFs P (kindsB P n) l (off + P.cellsOf f.type) tot with
                | none => simp [hr2] at h
                | some k2 =>
                  simp only [hr2, Option.some.injEq] at h
                  subst h
                  have := ih hr1
                  have := ihl _ _ hr2
                  rw [List.length_append]
                  omega

theorem kinds_len : ∀ (n : Nat) {T : TypeId} {ks : List Nat}, kindsB P n T = some ks → ks.length = P.cellsOf T
  | 0, T, ks, h => by simp [kindsB] at h
  | n + 1, T, ks, h => by
    have leaf : ∀ kd, (bif Nat.beq (P.cellsOf T) 1 then some [kd] else none) = some ks → ks.length = P.cellsOf T := by
      intro kd h
      cases hsz : Nat.beq (P.cellsOf T) 1 with
      | false => simp [hsz] at h
      | true =>
        simp only [hsz, cond_true, Option.some.injEq] at h
        rw [Nat.eq_of_beq_eq_true hsz, ← h]; rfl
    simp only [kindsB] at h
    split at h
    · exact leaf _ h
    · exact leaf _ h
    · exact leaf _ h
    · rename_i fs hu
      cases hst : P.stoodInHeld T with
      | true => simp [hst] at h
      | false =>
        simp only [hst, Bool.not_false, cond_true] at h
        have := kinds_lenF n _ (kinds_len n) _ _ _ h
        omega
    · cases h

def kdOk (ds : TypeDesc) (kd : Nat) : Prop :=
  match ds with
  | .int _ => kd = 0
  | .bool => kd = 1
  | .string => kd = 2
  | _ => False

theorem leaf_eq {T : TypeId} {kd : Nat} {d e : D} {r : Bool} {u v : Value} {ds : TypeDesc} (hu : P.underlying T = some ds)
    (hk : kdOk ds kd)
    (hc : confL d kd = true) (he : eqLs [d] [e] = some r) (h1 : RepL w G pt d u) (h2 : RepL w G pt e v) (n : Nat) :
    (Op.equalIn (n + 1) T u v).run P w = .ok r w := by
  cases d <;> simp only [confL, Bool.false_eq_true] at hc
  · have hc := Nat.eq_of_beq_eq_true hc
    subst hc
    cases ds <;> simp [kdOk] at hk
    cases e <;> simp only [eqLs, reduceCtorEq, Bool.and_true, Option.some.injEq] at he
    simp only [RepL] at h1 h2
    rw [h1, h2, ← he]
    exact run_equalIn_bool' w n T _ _ hu
  · have hc := Nat.eq_of_beq_eq_true hc
    subst hc
    cases ds <;> simp [kdOk] at hk
    cases e <;> simp only [eqLs, reduceCtorEq, Bool.and_true] at he
    rename_i k1 x _ k2 y
    simp only [RepL] at h1 h2
    rw [h1.1, h2.1]
    cases hkk : kbeq k1 k2 with
    | false => simp [hkk] at he
    | true =>
      simp only [hkk, cond_true, Option.some.injEq] at he
      rw [eq_of_kbeq hkk, ← he]
      exact run_equalIn_int w n T k2 _ x y hu
  · have hc := Nat.eq_of_beq_eq_true hc
    subst hc
    cases ds <;> simp [kdOk] at hk
    cases e <;> simp only [eqLs, reduceCtorEq, Bool.and_true, Option.some.injEq] at he
    obtain ⟨s1, h1, h1', _⟩ := h1
    obtain ⟨s2, h2, h2', _⟩ := h2
    rw [h1, h2, ← he, ← h1', ← h2', ← sby_inj]
    exact run_equalIn_string w n T _ _ hu

theorem equal_ok : ∀ (n : Nat) {T : TypeId} {ks : List Nat}, kindsB P n T = some ks → ∀ (k : Nat) (xs ys : Array Value) (o : Nat) {a b : List D} {r : Bool},
    conf a ks = true → eqLs a b = some r → o + P.cellsOf T ≤ xs.size → o + P.cellsOf T ≤ ys.size →
    RepLs w G pt a (fun j => arrF xs (o + j)) → RepLs w G pt b (fun j => arrF ys (o + j)) →
    ∃ x y, (part T xs o).run P w = .ok x w ∧ (part T ys o).run P w = .ok y w ∧ (Op.equalIn (n + k) T x y).run P w = .ok r w
  | 0, T, ks, h, _, _, _, _, _, _, _, _, _, _, _, _, _ => by simp [kindsB] at h
  | n + 1, T, ks, h, k, xs, ys, o, a, b, r, hcf, he, hx, hy, ha, hb => by
    simp only [kindsB] at h
    rw [show n + 1 + k = n + k + 1 by omega]
    have leaf1 : ∀ ds kd, P.underlying T = some ds → isAggT ds = false → kdOk ds kd →
        (bif Nat.beq (P.cellsOf T) 1 then some [kd] else none) = some ks →
        ∃ x y, (part T xs o).run P w = .ok x w ∧ (part T ys o).run P w = .ok y w ∧ (Op.equalIn (n + k + 1) T x y).run P w = .ok r w := by
      intro ds kd hu hag hkd h
      cases hsz : Nat.beq (P.cellsOf T) 1 with
      | false => simp [hsz] at h
      | true =>
        simp only [hsz, cond_true, Option.some.injEq] at h
        have hsz := Nat.eq_of_beq_eq_true hsz
        subst h
        refine ⟨_, _, part_leaf hu hag xs o (by omega), part_leaf hu hag ys o (by omega), ?_⟩
        match a, b, conf_len hcf, eqLs_len he with
        | [d], [e], _, _ =>
          simp only [conf, Bool.and_true] at hcf
          have h1 := (ha 0 (by simp)).1
          have h2 := (hb 0 (by simp)).1
          exact leaf_eq hu hkd hcf he h1 h2 _
        | [], _, h, _ => simp at h
        | _ :: _ :: _, _, h, _ => simp at h
        | [_], [], _, h => simp at h
        | [_], _ :: _ :: _, _, h => simp at h
    split at h
    · rename_i kk hu; exact leaf1 _ 0 hu rfl rfl h
    · rename_i hu; exact leaf1 _ 1 hu rfl rfl h
    · rename_i hu; exact leaf1 _ 2 hu rfl rfl h
    · rename_i fs hu
      cases hst : P.stoodInHeld T with
      | true => simp [hst] at h
      | false =>
        simp only [hst, Bool.not_false, cond_true] at h
        have hfo : P.fieldsOf T = fs := by simp [Program.fieldsOf, hu]
        have px := part_agg (P := P) (w := w) hu rfl (info_of_und hu) xs o
        have py := part_agg (P := P) (w := w) hu rfl (info_of_und hu) ys o
        have key : ∀ (l : List Field) (off : Nat) (ks : List Nat) (a b : List D) (r : Bool), kindsFs P (kindsB P n) l off (P.cellsOf T) = some ks → conf a ks = true → eqLs a b = some r →
            RepLs w G pt a (fun j => arrF xs (o + (off + j))) → RepLs w G pt b (fun j => arrF ys (o + (off + j))) →
            (Op.eqFields (n + k) (xs.extract o (o + P.cellsOf T)) (ys.extract o (o + P.cellsOf T)) l).run P w = .ok r w := by
          intro l
          induction l with
          | nil =>
            intro off ks a b r h hcf he _ _
            simp only [kindsFs] at h
            cases hoff : Nat.beq off (P.cellsOf T) with
            | false => simp [hoff] at h
            | true =>
              simp only [hoff, cond_true, Option.some.injEq] at h
              subst h
              have hl := conf_len hcf
              obtain rfl := List.eq_nil_of_length_eq_zero hl
              obtain rfl := List.eq_nil_of_length_eq_zero ((eqLs_len he).symm.trans hl)
              simp only [eqLs, Option.some.injEq] at he
              subst he
              rfl
          | cons f l ihl =>
            intro off ks a b r h hcf he hra hrb
            simp only [kindsFs] at h
            cases hc1 : (Nat.beq f.offset off && (f.name != "_")) with
            | false => simp [hc1] at h
            | true =>
              simp only [hc1, cond_true] at h
              simp only [Bool.and_eq_true, bne_iff_ne, ne_eq] at hc1
              obtain ⟨hc1, hnm⟩ := hc1
              have hc1 := Nat.eq_of_beq_eq_true hc1
              cases hr1 : kindsB P n f.type with
              | none => simp [hr1] at h
              | some k1 =>
                simp only [hr1] at h
                cases hr2 : kindsFs P (kindsB P n) l (off + P.cellsOf f.type) (P.cellsOf T) with
                | none => simp [hr2] at h
                | some k2 =>
                  simp only [hr2, Option.some.injEq] at h
                  subst h
                  obtain ⟨c1, c2⟩ := conf_split hcf
                  obtain ⟨r1, r2, e1, e2, e3⟩ := eqLs_split k1.length he
                  have hk1 := kinds_len n hr1
                  have hk2 := kinds_lenF n _ (kinds_len n) _ _ _ hr2
                  have hab := eqLs_len he
                  have hla := conf_len hcf
                  rw [List.length_append] at hla
                  have hsx : (xs.extract o (o + P.cellsOf T)).size = P.cellsOf T := by simp; omega
                  have hsy : (ys.extract o (o + P.cellsOf T)).size = P.cellsOf T := by simp; omega
                  have ex : ∀ j, off + j < P.cellsOf T → arrF (xs.extract o (o + P.cellsOf T)) (off + j) = arrF xs (o + (off + j)) := fun j hj => arrF_extract xs o _ _ hj hx
                  have ey : ∀ j, off + j < P.cellsOf T → arrF (ys.extract o (o + P.cellsOf T)) (off + j) = arrF ys (o + (off + j)) := fun j hj => arrF_extract ys o _ _ hj hy
                  obtain ⟨x1, y1, p1, p2, p3⟩ := equal_ok n hr1 k (xs.extract o (o + P.cellsOf T)) (ys.extract o (o + P.cellsOf T)) off c1 e1 (by omega) (by omega)
                    (fun j hj => by
                      have := hra.take k1.length j hj
                      simp only [ex j (by simp at hj; omega)]; exact this)
                    (fun j hj => by
                      have := hrb.take k1.length j hj
                      simp only [ey j (by simp at hj; omega)]; exact this)
                  have p4 := ihl (off + P.cellsOf f.type) k2 _ _ r2 hr2 c2 e2
                    (fun j hj => by
                      have := hra.drop k1.length j hj
                      simp only [hk1] at this ⊢
                      simpa only [show o + (off + P.cellsOf f.type + j) = o + (off + (P.cellsOf f.type + j)) by omega] using this)
                    (fun j hj => by
                      have := hrb.drop k1.length j hj
                      simp only [hk1] at this ⊢
                      simpa only [show o + (off + P.cellsOf f.type + j) = o + (off + (P.cellsOf f.type + j)) by omega] using this)
                  simp only [Op.eqFields, ne_eq, hnm, not_false_eq_true, if_true, Sem.run_bind, hc1, p1, p2, p3, Result.andThen_ok]
                  cases r1 with
                  | true => simpa [e3] using p4
                  | false => simp [e3]
        refine ⟨_, _, px, py, ?_⟩
        rw [run_equalIn_struct w (n + k) T _ _ (by rw [hfo]; exact hu) hst, hfo]
        exact key fs.toList 0 ks a b r h hcf he (by simpa using ha) (by simpa using hb)
    · cases h
end
end Go.Abs

namespace Go.Abs

structure POk (P : Program) (E : Env) : Prop where
  ti : ∀ T i, E.T T = some i → TIok P T i
  cmp : ∀ T i ks, E.T T = some i → i.cmp = some ks → kindsB P 8 T = some ks ∧ P.eqGuardType P.depth T = false

theorem ltBytes_ok : ∀ (a b : List UInt8), Op.bytesLess a b = ltBytes (a.map fun x => (x.toNat : Int)) (b.map fun x => (x.toNat : Int))
  | _, [] => by simp [Op.bytesLess, ltBytes]
  | [], _ :: _ => by simp [Op.bytesLess, ltBytes]
  | a :: x, b :: y => by
    have h1 : decide ((a.toNat : Int) < (b.toNat : Int)) = decide (a < b) := by
      rw [decide_eq_decide, UInt8.lt_iff_toNat_lt]; omega
    have h2 : ((a.toNat : Int) == (b.toNat : Int)) = (a == b) := by
      rw [Bool.eq_iff_iff, beq_iff_eq, beq_iff_eq, ← UInt8.toNat_inj]; omega
    simp only [List.map_cons, Op.bytesLess, ltBytes, h1, h2, ltBytes_ok x y]

theorem sby_size (s : ByteArray) : (sby s).length = s.size := by simp [sby]

section
variable {P : Program} {E : Env} {C : Ctx} {s : St} {a : Act} {w : World} {G : Nat → Nat} {pt : Nat → Nat → Option Value} {o : Oper} {u : St}

theorem strOp_ok {op : BinOp} {x y : ByteArray} {d : D} (xT : Nat) (h : strOp op (sby x) (sby y) = some (true, d)) :
    ∃ v, (binOp op xT (.string x) (.string y)).run P w = .ok v w ∧ RepV w G pt d v ∧ ∀ b, ctV b d v = 0 := by
  have e1 : (x.toList == y.toList) = (sby x == sby y) := sby_inj
  have e2 : Op.bytesLess x.toList y.toList = ltBytes (sby x) (sby y) := by rw [ltBytes_ok, ByteArray.toList_eq, ByteArray.toList_eq]; rfl
  cases op <;> simp only [strOp, Option.some.injEq, Prod.mk.injEq, true_and, reduceCtorEq] at h
  · obtain ⟨h0, h⟩ := h; subst h
    have h0 := Nat.le_of_ble_eq_true h0
    rw [sby_size, sby_size] at h0
    have h0' : x.size + y.size ≤ 9223372036854775807 := h0
    refine ⟨.string (x ++ y), ?_, ⟨_, rfl, ?_, ?_⟩, fun _ => rfl⟩
    · have : ¬ (((x.size + y.size : Nat) : Int) > IntKind.i64.max) := by rw [IntKind.max_i64]; omega
      simp only [binOp, Op.stringOp]
      rw [if_neg this]; rfl
    · simp [sby]
    · rw [List.length_append, sby_size, sby_size]; exact h0
  · subst h; exact ⟨.bool (sby x == sby y), by simp only [binOp, Op.stringOp, e1]; rfl, rfl, fun _ => rfl⟩
  · subst h; exact ⟨.bool (!(sby x == sby y)), by simp only [binOp, Op.stringOp, e1]; rfl, rfl, fun _ => rfl⟩
  · subst h; exact ⟨.bool (ltBytes (sby x) (sby y)), by simp only [binOp, Op.stringOp, e2]; rfl, rfl, fun _ => rfl⟩
  · subst h; exact ⟨.bool (ltBytes (sby x) (sby y) || sby x == sby y), by simp only [binOp, Op.stringOp, e1, e2]; rfl, rfl, fun _ => rfl⟩
  · subst h; exact ⟨.bool (!(ltBytes (sby x) (sby y) || sby x == sby y)), by simp only [binOp, Op.stringOp, e1, e2]; rfl, rfl, fun _ => rfl⟩
  · subst h; exact ⟨.bool (!ltBytes (sby x) (sby y)), by simp only [binOp, Op.stringOp, e2]; rfl, rfl, fun _ => rfl⟩

theorem bin_ok (HP : POk P E) (R : Rel E C s a w G pt) (ho : ∀ t, o.dst = some t → t < E.n) (op : BinOp) (xT : Nat) (x y : Operand) (yT : Nat) (hop : o.op = .binOp op xT x y yT)
    (h : aBin E o s op xT x y = some (true, u)) : OpOk P E C o a w (applyU u s) := by
  have hx := opd_rep R x
  have hy := opd_rep R y
  have fin : ∀ (d : D) (v : Value), (eqGuard op xT x y (a.eval x) (a.eval y)).run P w = .ok () w → (binOp op xT (a.eval x) (a.eval y)).run P w = .ok v w →
      RepV w G pt d v → (∀ b, ctV b d v = 0) → OpOk P E C o a w (applyU (dstU o d) s) := fun d v h1 h2 h3 h4 => pure_ok R ho (run_binop op xT x y yT hop h1 h2) h3 h4
  simp only [aBin] at h
  split at h
  · rename_i k p k' q h1 h2
    rw [h1] at hx; rw [h2] at hy
    obtain ⟨hx1, hx2⟩ := hx
    obtain ⟨hy1, hy2⟩ := hy
    rw [hx1, hy1] at fin
    have hg := guard_int (P := P) (w := w) op xT x y (p := .int k p) (q := .int k' q) (by simp) (by simp)
    cases hs : isShift op with
    | true =>
      simp only [hs, cond_true] at h
      split at h
      · rename_i g d hsh
        simp only [Option.some.injEq, Prod.mk.injEq] at h
        obtain ⟨rfl, rfl⟩ := h
        obtain ⟨v, h3, h4, h5⟩ := shifts_ok (P := P) (w := w) (G := G) (pt := pt) (xT := xT) (k' := k') hx2 hsh
        exact fin d v hg h3 h4 h5
      · cases h
    | false =>
      simp only [hs, cond_false] at h
      cases hk : kbeq k k' with
      | false => simp [hk] at h
      | true =>
        simp only [hk, cond_true] at h
        split at h
        · rename_i g d hsh
          simp only [Option.some.injEq, Prod.mk.injEq] at h
          obtain ⟨rfl, rfl⟩ := h
          have := eq_of_kbeq hk
          subst this
          obtain ⟨v, h3, h4, h5⟩ := arith_ok (P := P) (w := w) (G := G) (pt := pt) (xT := xT) hx2 hsh
          exact fin d v hg h3 h4 h5
        · cases h
  · rename_i p q h1 h2
    rw [h1] at hx; rw [h2] at hy
    obtain ⟨x', hx1, hx2, _⟩ := hx
    obtain ⟨y', hy1, hy2, _⟩ := hy
    rw [hx1, hy1] at fin
    split at h
    · rename_i g d hst
      simp only [Option.some.injEq, Prod.mk.injEq] at h
      obtain ⟨rfl, rfl⟩ := h
      rw [← hx2, ← hy2] at hst
      obtain ⟨v, h3, h4, h5⟩ := strOp_ok (P := P) (w := w) (G := G) (pt := pt) xT hst
      exact fin d v (guard_int op xT x y (by simp) (by simp)) h3 h4 h5
    · cases h
  · rename_i p q h1 h2
    rw [h1] at hx; rw [h2] at hy
    have hx : a.eval x = .bool p := hx
    have hy : a.eval y = .bool q := hy
    rw [hx, hy] at fin
    have hg := guard_int (P := P) (w := w) op xT x y (p := .bool p) (q := .bool q) (by simp) (by simp)
    split at h
    · rename_i i hi
      have ht := (HP.ti _ _ hi).und
      split at h
      · rename_i hd
        rw [hd] at ht
        simp only [Option.some.injEq, Prod.mk.injEq, true_and] at h
        subst h
        exact fin _ (.bool (p == q)) hg (by simp [binOp, Op.equal, Op.maxDepth, run_equalIn_bool' w _ xT p q ht]) rfl (fun _ => rfl)
      · rename_i hd
        rw [hd] at ht
        simp only [Option.some.injEq, Prod.mk.injEq, true_and] at h
        subst h
        exact fin _ (.bool (!(p == q))) hg (by simp [binOp, Op.equal, Op.maxDepth, run_equalIn_bool' w _ xT p q ht]) rfl (fun _ => rfl)
      · cases h
    · cases h
  · rename_i p q h1 h2
    rw [h1] at hx; rw [h2] at hy
    obtain ⟨ax, hx1, hx2, hx3⟩ := hx
    obtain ⟨ay, hy1, hy2, hy3⟩ := hy
    rw [hx1, hy1] at fin
    cases hc : cmpOk E xT p with
    | false => simp [hc] at h
    | true =>
      simp only [hc, cond_true] at h
      unfold cmpOk at hc
      split at hc
      · rename_i i hi
        split at hc
        · rename_i ks hks
          obtain ⟨hkb, hgd⟩ := HP.cmp _ _ _ hi hks
          simp only [Bool.and_eq_true] at hc
          have hl := kinds_len 8 hkb
          have hpl := conf_len hc.2
          have key : ∀ r, eqLs p q = some r → (Op.equalIn 10000 xT (.agg ax) (.agg ay)).run P w = .ok r w := by
            intro r hr
            have hql := eqLs_len hr
            have hT := HP.ti _ _ hi
            have hag : isAggT i.desc = true := by rw [← hT.agg]; exact hc.1
            have p1 := part_agg (P := P) (w := w) hT.und hag (info_of_und hT.und) ax 0
            have p2 := part_agg (P := P) (w := w) hT.und hag (info_of_und hT.und) ay 0
            obtain ⟨x1, y1, q1, q2, q3⟩ := equal_ok (P := P) (w := w) (G := G) (pt := pt) 8 hkb 9992 ax ay 0 hc.2 hr (by omega) (by omega) (by simpa using hx3) (by simpa using hy3)
            rw [p1] at q1; rw [p2] at q2
            have e1 : ax.extract 0 (0 + P.cellsOf xT) = ax := by rw [show 0 + P.cellsOf xT = ax.size by omega]; simp
            have e2 : ay.extract 0 (0 + P.cellsOf xT) = ay := by rw [show 0 + P.cellsOf xT = ay.size by omega]; simp
            rw [e1] at q1; rw [e2] at q2
            injection q1 with q1; injection q2 with q2
            subst q1; subst q2
            exact q3
          have hg := run_eqGuard_agg (P := P) w op xT x y ax ay hgd
          split at h
          · rename_i r hr
            simp only [Option.some.injEq, Prod.mk.injEq, true_and] at h
            subst h
            exact fin _ (.bool r) hg (by rw [run_eql_struct, key r hr]; rfl) rfl (fun _ => rfl)
          · rename_i r hr
            simp only [Option.some.injEq, Prod.mk.injEq, true_and] at h
            subst h
            exact fin _ (.bool (!r)) hg (by rw [run_neq_struct, key r hr]; rfl) rfl (fun _ => rfl)
          · cases h
        · cases hc
      · cases hc
  · cases h
end
end Go.Abs

namespace Go.Abs
section
variable {P : Program} {E : Env} {C : Ctx} {s : St} {a : Act} {w : World} {G : Nat → Nat} {pt : Nat → Nat → Option Value} {o : Oper} {u : St}

theorem un_ok (R : Rel E C s a w G pt) (ho : ∀ t, o.dst = some t → t < E.n) (op : UnOp) (xT : Nat) (x : Operand) (hop : o.op = .unOp op xT x)
    (h : aUn o s op x = some (true, u)) : OpOk P E C o a w (applyU u s) := by
  have hx := opd_rep R x
  simp only [aUn] at h
  split at h
  · rename_i b h1
    rw [h1] at hx
    have hx : a.eval x = .bool b := hx
    simp only [Option.some.injEq, Prod.mk.injEq, true_and] at h
    subst h
    exact pure_ok R ho (v := .bool (!b)) (by simp [execOp, hop, Op.unary, hx]) rfl (fun _ => rfl)
  · rename_i k n h1
    rw [h1] at hx
    obtain ⟨hx, _⟩ := hx
    simp only [Option.some.injEq, Prod.mk.injEq, true_and] at h
    subst h
    exact pure_ok R ho (v := .int k (k.wrap (0 - n))) (by simp [execOp, hop, Op.unary, Op.intArith, hx]) ⟨rfl, wrap_has _ _⟩ (fun _ => rfl)
  · rename_i k n h1
    rw [h1] at hx
    obtain ⟨hx, _⟩ := hx
    simp only [Option.some.injEq, Prod.mk.injEq, true_and] at h
    subst h
    exact pure_ok R ho (v := .int k (k.wrap (BitVec.ofInt k.bits (if k.signed then -1 else k.max) ^^^ BitVec.ofInt k.bits n).toNat))
      (by simp only [execOp, hop, Op.unary, hx, Op.intBits]; rfl) ⟨rfl, wrap_has _ _⟩ (fun _ => rfl)
  · cases h

theorem extract_ok (R : Rel E C s a w G pt) (ho : ∀ t, o.dst = some t → t < E.n) (x : Operand) (i : Nat) (hop : o.op = .extract x i)
    (h : aExtract o s x i = some (true, u)) : OpOk P E C o a w (applyU u s) := by
  simp only [aExtract] at h
  split at h
  · rename_i t vs h1
    split at h
    · rename_i d hd
      simp only [Option.some.injEq, Prod.mk.injEq, true_and] at h
      subst h
      have hx := R.tm t
      have h1' : get s (2 * t) = .tup vs := h1
      rw [h1'] at hx
      obtain ⟨arr, hv, hsz, hr⟩ := hx
      obtain ⟨hi, hvi⟩ := List.getElem?_eq_some_iff.1 hd
      have hia : i < arr.size := by omega
      have hrun : (execOp a.eval o).run P w = .ok (.value (arrF arr i)) w := by
        simp [execOp, hop, Act.eval, hv, Instr.extract, hia, arrF, Array.getD_eq_getD_getElem?]
      have hX : hasX d = true ∨ OpOk P E C o a w (applyU ((bif hasX d then [(2 * t, .tup (vs.set i .undef))] else []) ++ dstU o d) s) := by
        cases hX : hasX d with
        | true => exact .inl rfl
        | false =>
          right
          have hri := hr i hi
          rw [hvi] at hri
          have hrd : RepV w G pt d (arrF arr i) := by
            cases d <;> first | exact hri | exact absurd hri id
          exact pure_ok R ho hrun hrd (fun b => (hasX_strip hX).2 b _)
      rcases hX with hX | hX
      case inr => exact hX
      rw [hX]
      simp only [cond_true, List.singleton_append]
      have htn : t < E.n := lt_of_hasX R (by rw [h1']; rfl)
      have hct : ∀ b, cT s a b t = ct1s b vs (arrF arr) := fun b => by simp only [cT, h1', hv, ctV]
      -- the tuple without its component
      have hsum : ∀ b, ct1s b (vs.set i .undef) (arrF arr) + ct1 b vs[i] (arrF arr i) = ct1s b vs (arrF arr) := by
        intro b
        have key : ∀ (l : List D) (f : Nat → Value) (i : Nat) (h : i < l.length), ct1s b (l.set i .undef) f + ct1 b l[i] (f i) = ct1s b l f := by
          intro l
          induction l with
          | nil => intro f i h; simp at h
          | cons d l ih =>
            intro f i h
            match i, h with
            | 0, _ =>
              have : ct1 b .undef (f 0) = 0 := by cases f 0 <;> rfl
              simp only [List.set_cons_zero, ct1s, this, List.getElem_cons_zero]; omega
            | i + 1, h =>
              have := ih (fun j => f (j + 1)) i (by simpa using h)
              simp only [List.set_cons_succ, ct1s, List.getElem_cons_succ]; omega
        exact key vs (arrF arr) i hi
      have hrep' : RepV w G pt (.tup (vs.set i .undef)) (a.tmps.getD t Go.undef) := by
        refine ⟨arr, hv, by simpa using hsz, fun j hj => ?_⟩
        rw [List.getElem_set]
        split
        · trivial
        · exact hr j (by simpa using hj)
      have hct' : ∀ b, ctV b (.tup (vs.set i .undef)) (a.tmps.getD t Go.undef) = ct1s b (vs.set i .undef) (arrF arr) := fun b => by rw [hv]; rfl
      have R1 := R.weak t (G' := G) (d := .tup (vs.set i .undef)) (Ext.refl _ _) (fun _ _ => rfl) hrep' htn (fun b => by rw [hct', hct]; have := hsum b; omega)
      have tc1 : ∀ b, TC E.n C.m ((2 * t, .tup (vs.set i .undef)) :: s) a w pt b + ct1 b vs[i] (arrF arr i) = TC E.n C.m s a w pt b := by
        intro b
        have e1 := sumN_upd1 (n := E.n) (f := cT s a b) (g := cT ((2 * t, .tup (vs.set i .undef)) :: s) a b) htn (fun j hj => by simp only [cT, get_tt, hj, if_false])
        have e2 := sumN_congr (n := C.m) (f := cB s w pt b) (g := cB ((2 * t, .tup (vs.set i .undef)) :: s) w pt b) (fun j _ => by simp only [cB, get_tb])
        have e3 : cT ((2 * t, .tup (vs.set i .undef)) :: s) a b t = ct1s b (vs.set i .undef) (arrF arr) := by
          simp only [cT, get_tt, if_true]; exact hct' b
        have := hsum b
        have := hct b
        unfold TC
        omega
      have hc1 : ∀ b, ctV b d (arrF arr i) = ct1 b vs[i] (arrF arr i) := by
        intro b
        rw [hvi]
        have hri := hr i hi
        rw [hvi] at hri
        cases d <;> first | (cases arrF arr i <;> rfl) | exact absurd hri id
      have hrd : RepV w G pt d (arrF arr i) := by
        have hri := hr i hi
        rw [hvi] at hri
        cases d <;> first | exact hri | exact absurd hri id
      show OpOk P E C o a w (applyU (dstU o d) ((2 * t, .tup (vs.set i .undef)) :: s))
      refine ⟨_, w, G, pt, .inl hrun, R1.put o ho (fun _ => False) (Ext.refl _ _) (fun _ _ _ => ⟨rfl, rfl⟩) (fun b h => h.elim) hrd (fun b => ?_) R.gz rfl rfl rfl (Nat.le_refl _)⟩
      have h2 := tc1 b
      have h3 := R.ct b
      have h4 := R.cb b
      rw [hc1]
      exact ⟨by omega, fun h => ⟨by omega, h4 (by omega)⟩⟩
    · cases h
  · cases h

theorem fieldOff_ok (HP : POk P E) {T f k : Nat} (h : fieldOff E T f = some k) :
    ∃ fs fd, P.underlying T = some (.struct fs) ∧ fs[f]? = some fd ∧ fd.offset = k ∧ ∃ pi, P.info? fd.type = some pi ∧ 0 < pi.size := by
  unfold fieldOff at h
  split at h
  · rename_i i hi
    split at h
    · rename_i fs hd
      split at h
      · rename_i fd hfd
        split at h
        · rename_i fi hfi
          cases hb : Nat.blt 0 fi.size with
          | false => simp [hb] at h
          | true =>
            simp only [hb, cond_true, Option.some.injEq] at h
            obtain ⟨pi, z, h1, h2, _⟩ := (HP.ti _ _ hfi).info
            have hpos : 0 < fi.size := by simpa [Nat.blt_eq] using hb
            exact ⟨fs, fd, by rw [(HP.ti _ _ hi).und, hd], by simpa using hfd, h, pi, h1, by omega⟩
        · cases h
      · cases h
    · cases h
  · cases h

theorem fieldAt_run {T f k : Nat} {fs : Array Field} {fd : Field} {pi : TypeInfo} (hu : P.underlying T = some (.struct fs)) (hf : fs[f]? = some fd) (hk : fd.offset = k)
    (hi : P.info? fd.type = some pi) (hp : 0 < pi.size) (b off : Nat) :
    (Instr.fieldAt T (.pointer (some ⟨b, off, none⟩)) f).run P w = .ok (.pointer (some ⟨b, off + k, none⟩)) w := by
  have hne : ¬ pi.size = 0 := by omega
  simp [Instr.fieldAt, run_underlying hu, hf, Instr.sureAddr, fieldPlace, sizeOf, typeInfo, hi, hne, Go.Addr.add_mid, hk]

theorem fieldAddr_ok (HP : POk P E) (R : Rel E C s a w G pt) (ho : ∀ t, o.dst = some t → t < E.n) (T : Nat) (x : Operand) (f : Nat) (hop : o.op = .fieldAddr T x f)
    (h : aFieldAddr E o s T x f = some (true, u)) : OpOk P E C o a w (applyU u s) := by
  have hx := opd_rep R x
  simp only [aFieldAddr] at h
  split at h
  · rename_i k hk
    obtain ⟨fs, fd, hu, hf, hk', pi, hi, hp⟩ := fieldOff_ok HP hk
    have run : ∀ b off, a.eval x = .pointer (some ⟨b, off, none⟩) → (execOp a.eval o).run P w = .ok (.value (.pointer (some ⟨b, off + k, none⟩))) w := by
      intro b off hv
      have := fieldAt_run (P := P) (w := w) hu hf hk' hi hp b off
      simp [execOp, hop, hv, this]
    split at h
    · rename_i id st off h1
      rw [h1] at hx
      obtain ⟨b, hb, hv⟩ := hx
      simp only [Option.some.injEq, Prod.mk.injEq, true_and] at h; subst h
      exact pure_ok R ho (run _ _ hv) ⟨b, hb, rfl⟩ (fun _ => rfl)
    · rename_i id st i off es h1
      rw [h1] at hx
      obtain ⟨b, hb, hv⟩ := hx
      simp only [Option.some.injEq, Prod.mk.injEq, true_and] at h; subst h
      exact pure_ok R ho (run _ _ hv) ⟨b, hb, by rw [Nat.add_assoc]⟩ (fun _ => rfl)
    · rename_i g off h1
      rw [h1] at hx
      have hv : a.eval x = .pointer (some ⟨g, off, none⟩) := hx
      simp only [Option.some.injEq, Prod.mk.injEq, true_and] at h; subst h
      exact pure_ok R ho (run _ _ hv) rfl (fun _ => rfl)
    · rename_i t l i off h1
      rw [h1] at hx
      obtain ⟨b, ob, hv, h2⟩ := hx
      simp only [Option.some.injEq, Prod.mk.injEq, true_and] at h; subst h
      exact pure_ok R ho (run _ _ hv) ⟨b, ob, by rw [Nat.add_assoc], h2⟩ (fun _ => rfl)
    · cases h
  · cases h

theorem content_rep (R : Rel E C s a w G pt) {d : D} {v : Value} (h : RepV w G pt d v) {t : Ty} {l : List t.den} (hc : content s d = some ⟨t, l⟩) :
    ∃ ad n c, v = .slice ad n c ∧ n = l.length ∧ n * t.bsz ≤ big ∧ n ≤ c ∧ (l = [] ∨ ∃ b o, ad = some ⟨b, o, none⟩ ∧ RepE w G t l b o) := by
  cases d <;> simp only [content, reduceCtorEq] at hc
  · rename_i f t' l'
    simp only [Option.some.injEq, Sigma.mk.injEq] at hc
    obtain ⟨rfl, hc⟩ := hc
    have hc := eq_of_heq hc
    subst hc
    obtain ⟨ad, n, c, h1, h2, h3, h4⟩ := h
    refine ⟨ad, n, c, h1, h2, h3, ?_⟩
    match f, h4 with
    | 0, h4 =>
      refine ⟨by have := h4.1; omega, ?_⟩
      rcases h4.2 with h5 | ⟨b, o, h5, h6, h7⟩
      · exact .inl h5
      · exact .inr ⟨b, o, h5, h7⟩
    | 1, h4 =>
      rcases h4 with ⟨h5, h6, h7⟩ | ⟨b, h5, h6, h7, h8, h9, h10⟩
      · subst h6; subst h2; exact ⟨by simp, .inl rfl⟩
      · exact ⟨by omega, .inr ⟨b, 0, h5, h9⟩⟩
    | 2, h4 =>
      rcases h4 with ⟨h5, h6, h7⟩ | ⟨b, h5, h6, h7, h8, h9, h10⟩
      · subst h6; subst h2; exact ⟨by simp, .inl rfl⟩
      · exact ⟨by omega, .inr ⟨b, 0, h5, h9⟩⟩
    | (k + 3), h4 => exact h4.elim
  · rename_i id st
    split at hc
    · rename_i st' t' l' hb
      cases hs : Nat.beq st st' with
      | false => simp [hs] at hc
      | true =>
        simp only [hs, cond_true, Option.some.injEq, Sigma.mk.injEq] at hc
        obtain ⟨rfl, hc⟩ := hc
        have hc := eq_of_heq hc
        subst hc
        have hs := Nat.eq_of_beq_eq_true hs
        subst hs
        have hB := R.bx id
        rw [hb] at hB
        have hB := hB rfl
        simp only [Bool.false_eq_true, if_false] at hB
        obtain ⟨ad, n, c, h1, h2, h3, h4⟩ := hB
        have hv : pt id st = some v := h
        rw [hv] at h1
        injection h1 with h1
        refine ⟨ad, n, c, h1, h2, h3, ?_⟩
        rcases h4 with ⟨h5, h6, h7⟩ | ⟨b, h5, h6, h7, h8, h9, h10⟩
        · subst h6; subst h2; exact ⟨by simp, .inl rfl⟩
        · exact ⟨by omega, .inr ⟨b, 0, h5, h9⟩⟩
    · cases hc

end
end Go.Abs

namespace Go.Abs
section
variable {P : Program} {E : Env} {C : Ctx} {s : St} {a : Act} {w : World} {G : Nat → Nat} {pt : Nat → Nat → Option Value} {o : Oper} {u : St}

theorem i64_nat (n : Nat) (h : n ≤ mlen) : IntKind.i64.has (n : Int) := by
  unfold mlen at h
  unfold IntKind.has
  simp [IntKind.min, IntKind.max, IntKind.bits, IntKind.signed]
  omega

theorem len_ok (HP : POk P E) (R : Rel E C s a w G pt) (ho : ∀ t, o.dst = some t → t < E.n) (x : Operand) (T : Nat) (ts : Array TypeId) (hts : ts.toList = [T])
    (hop : o.op = .call { callee := .builtin .len, args := #[x], argTypes := ts }) {n : Nat} (h : lenD E s T (opd s x) = some n) :
    OpOk P E C o a w (applyU (dstU o (.int .i64 n)) s) := by
  have hx := opd_rep R x
  have hts' : ts = #[T] := by apply Array.ext'; simpa using hts
  subst hts'
  have fin : ∀ m : Nat, m ≤ mlen → (Builtin.len_ #[T] o.type #[a.eval x]).run P w = .ok (goInt m) w → OpOk P E C o a w (applyU (dstU o (.int .i64 m)) s) := by
    intro m hm hr
    refine pure_ok R ho (v := .int .i64 m) ?_ ⟨rfl, i64_nat m hm⟩ (fun _ => rfl)
    simp [execOp, hop, resolve, invoke, builtin, hr, goInt]
  unfold lenD at h
  split at h
  · rename_i i hi
    have hu := (HP.ti _ _ hi).und
    split at h
    · rename_i l hd h1
      rw [h1] at hx; rw [hd] at hu
      obtain ⟨b, hv, hl, hb⟩ := hx
      simp only [Option.some.injEq] at h; subst h
      refine fin _ hb ?_
      rw [← hl, sby_size, hv]
      simp [Builtin.len_, run_underlying hu]
    · rename_i _ len e hd
      rw [hd] at hu
      cases hb : Nat.ble len mlen with
      | false => simp [hb] at h
      | true =>
        simp only [hb, cond_true, Option.some.injEq] at h; subst h
        refine fin _ (Nat.le_of_ble_eq_true hb) ?_
        simp [Builtin.len_, run_underlying hu]
    · rename_i e hd h1
      rw [h1] at hx; rw [hd] at hu
      have hv : a.eval x = .slice none 0 0 := hx
      simp only [Option.some.injEq] at h; subst h
      refine fin 0 (by simp [mlen]) ?_
      rw [hv]
      simp [Builtin.len_, run_underlying hu]
    · rename_i e id st m hd h1
      rw [h1] at hx; rw [hd] at hu
      obtain ⟨hx, hm⟩ := hx
      simp only [Option.some.injEq] at h; subst h
      refine fin _ hm ?_
      rcases hx with ⟨b, c, _, hv⟩ | ⟨rfl, hv⟩ <;> rw [hv] <;> simp [Builtin.len_, run_underlying hu]
    · rename_i e d hd _ _
      rw [hd] at hu
      split at h
      · rename_i t l hc
        cases hb : Nat.blt 0 t.bsz with
        | false => simp [hb] at h
        | true =>
          simp only [hb, cond_true, Option.some.injEq] at h; subst h
          obtain ⟨ad, n, c, hv, hn, hbd, _⟩ := content_rep R hx hc
          have hbz : 0 < t.bsz := by simpa [Nat.blt_eq] using hb
          have : n ≤ n * t.bsz := Nat.le_mul_of_pos_right _ hbz
          have hm : l.length ≤ mlen := by unfold big at hbd; unfold mlen; omega
          refine fin _ hm ?_
          rw [hv, ← hn]
          simp [Builtin.len_, run_underlying hu]
      · cases h
    · cases h
  · cases h

theorem min_run (lt : Int → Int → Bool) (f : Value → Value → Sem Value) (hf : ∀ k x y, (f (.int k x) (.int k y)).run P w = .ok (.int k (bif lt y x then y else x)) w) (k : IntKind) :
    ∀ (xs : List Operand) (m r : Int), k.has m → (∀ x ∈ xs, RepV w G pt (opd s x) (a.eval x)) → minInts lt k m (xs.map (opd s)) = some r →
      ((xs.map a.eval).foldlM f (.int k m)).run P w = .ok (.int k r) w ∧ k.has r
  | [], m, r, hm, _, h => by
    simp only [List.map_nil, minInts, Option.some.injEq] at h
    subst h
    exact ⟨by simp, hm⟩
  | x :: xs, m, r, hm, hx, h => by
    have h0 := hx x (by simp)
    rw [List.map_cons] at h
    cases h1 : opd s x <;> rw [h1] at h <;> simp only [minInts, reduceCtorEq] at h
    rename_i k' n
    cases hk : kbeq k k' with
    | false => simp [hk] at h
    | true =>
      simp only [hk, cond_true] at h
      have hkk := eq_of_kbeq hk
      subst hkk
      rw [h1] at h0
      obtain ⟨hv, hn⟩ := h0
      have hm' : k.has (bif lt n m then n else m) := by cases lt n m <;> assumption
      obtain ⟨q1, q2⟩ := min_run lt f hf k xs _ r hm' (fun y hy => hx y (by simp [hy])) h
      refine ⟨?_, q2⟩
      simp only [List.map_cons, List.foldlM_cons, Sem.run_bind, hv, hf, Result.andThen_ok]
      exact q1

theorem minmax_ok (R : Rel E C s a w G pt) (ho : ∀ t, o.dst = some t → t < E.n) (xs : Array Operand) (ts : Array TypeId) (isMax : Bool)
    (hop : o.op = .call { callee := .builtin (bif isMax then .max else .min), args := xs, argTypes := ts })
    (h : aMin o s (bif isMax then (fun a b => decide (b < a)) else (fun a b => decide (a < b))) xs.toList = some (true, u)) : OpOk P E C o a w (applyU u s) := by
  simp only [aMin] at h
  split at h
  · rename_i k n r heq
    split at h
    · rename_i m hm
      simp only [Option.some.injEq, Prod.mk.injEq, true_and] at h
      subst h
      cases hxs : xs.toList with
      | nil => rw [hxs] at heq; simp at heq
      | cons x rest =>
        rw [hxs] at heq
        simp only [List.map_cons, List.cons.injEq] at heq
        obtain ⟨h1, h2⟩ := heq
        have hx := opd_rep R x
        rw [h1] at hx
        obtain ⟨hv, hn⟩ := hx
        rw [← h2] at hm
        have hargs : (xs.map a.eval).toList = a.eval x :: rest.map a.eval := by simp [hxs]
        cases isMax with
        | false =>
          obtain ⟨q1, q2⟩ := min_run (P := P) (w := w) (G := G) (pt := pt) (s := s) (a := a) (fun a b => decide (a < b)) Builtin.min2 (fun k x y => by
            simp only [Builtin.min2, Sem.run_pure]; by_cases h : y < x <;> simp [h]) k rest n m hn (fun y _ => opd_rep R y) hm
          refine pure_ok R ho (v := .int k m) ?_ ⟨rfl, q2⟩ (fun _ => rfl)
          simp only [execOp, hop, cond_false, resolve, invoke, builtin, Builtin.min_, hargs, hv, pure_bind, Sem.run_bind, q1, Result.andThen_ok, Sem.run_pure]
        | true =>
          obtain ⟨q1, q2⟩ := min_run (P := P) (w := w) (G := G) (pt := pt) (s := s) (a := a) (fun a b => decide (b < a)) Builtin.max2 (fun k x y => by
            simp only [Builtin.max2, Sem.run_pure]; by_cases h : x < y <;> simp [h]) k rest n m hn (fun y _ => opd_rep R y) hm
          refine pure_ok R ho (v := .int k m) ?_ ⟨rfl, q2⟩ (fun _ => rfl)
          simp only [execOp, hop, cond_true, resolve, invoke, builtin, Builtin.max_, hargs, hv, pure_bind, Sem.run_bind, q1, Result.andThen_ok, Sem.run_pure]
    · cases h
  · cases h

theorem allInts_get : ∀ {k : IntKind} {cs : List D} {l : List Int}, allInts k cs = some l → l.length = cs.length ∧ ∀ j (h : j < cs.length), cs[j] = .int k (l.getD j 0)
  | k, [], l, h => by simp [allInts] at h; subst h; exact ⟨rfl, fun j h => by simp at h⟩
  | k, d :: cs, l, h => by
    cases d <;> simp only [allInts, reduceCtorEq] at h
    rename_i k' n
    cases hk : kbeq k k' with
    | false => simp [hk] at h
    | true =>
      simp only [hk, cond_true] at h
      cases hr : allInts k cs with
      | none => simp [hr] at h
      | some l' =>
        simp only [hr, Option.some.injEq] at h
        subst h
        obtain ⟨h1, h2⟩ := allInts_get hr
        refine ⟨by simp [h1], fun j hj => ?_⟩
        match j, hj with
        | 0, _ => simp [eq_of_kbeq hk]
        | j + 1, hj => simpa using h2 j (by simpa using hj)

theorem index_ok (HP : POk P E) (R : Rel E C s a w G pt) (ho : ∀ t, o.dst = some t → t < E.n) (T : Nat) (x i : Operand) (hop : o.op = .index T x i)
    (h : aIndex E o s T x i = some (true, u)) : OpOk P E C o a w (applyU u s) := by
  have hx := opd_rep R x
  have hi := opd_rep R i
  simp only [aIndex] at h
  split at h
  · rename_i ti k n hti h2
    rw [h2] at hi
    obtain ⟨hiv, _⟩ := hi
    have hu := (HP.ti _ _ hti).und
    split at h
    · rename_i len e cs hd h1
      rw [h1] at hx; rw [hd] at hu
      obtain ⟨arr, hv, hsz, hr⟩ := hx
      split at h
      · rename_i ei hei
        split at h
        · rename_i kk hkk
          split at h
          · rename_i l hl
            cases hb : (Nat.beq ei.size 1 && !ei.agg && Nat.beq l.length len) with
            | false => simp [hb] at h
            | true =>
              simp only [hb, cond_true, Option.some.injEq, Prod.mk.injEq, Bool.and_eq_true, decide_eq_true_eq] at h
              simp only [Bool.and_eq_true, Bool.not_eq_true'] at hb
              obtain ⟨⟨hb1, hb2⟩, hb3⟩ := hb
              obtain ⟨⟨hn0, hn1⟩, rfl⟩ := h
              have hb1 := Nat.eq_of_beq_eq_true hb1
              have hb3 := Nat.eq_of_beq_eq_true hb3
              obtain ⟨q1, q2⟩ := allInts_get hl
              have hei' := HP.ti _ _ hei
              obtain ⟨pi, z, p1, p2, _⟩ := hei'.info
              have hjl : n.toNat < cs.length := by omega
              have hrep := (hr n.toNat hjl).1
              rw [q2 _ hjl] at hrep
              refine pure_ok R ho (v := arrF arr n.toNat) ?_ (by rw [hrep.1]; exact ⟨rfl, hrep.2⟩) (fun _ => by rw [hrep.1]; rfl)
              have hp := part_leaf (P := P) (w := w) hei'.und (by rw [← hei'.agg]; exact hb2) arr n.toNat (by omega)
              simp [execOp, hop, Instr.index, hiv, hv, asIntOf, run_underlying hu, hn0, hn1, sizeOf, typeInfo, p1, show pi.size = 1 by omega, hp]
          · cases h
        · cases h
      · cases h
    · rename_i len e kk l hd h1
      rw [h1] at hx; rw [hd] at hu
      obtain ⟨arr, hv, hsz, hr⟩ := hx
      split at h
      · rename_i ei hei
        cases hb : (Nat.beq ei.size 1 && !ei.agg) with
        | false => simp [hb] at h
        | true =>
          simp only [hb, cond_true, Option.some.injEq, Prod.mk.injEq, Bool.and_eq_true, decide_eq_true_eq] at h
          simp only [Bool.and_eq_true, Bool.not_eq_true'] at hb
          obtain ⟨hb1, hb2⟩ := hb
          obtain ⟨⟨⟨hn0, hn1⟩, hb3⟩, rfl⟩ := h
          have hb1 := Nat.eq_of_beq_eq_true hb1
          have hb3 := Nat.eq_of_beq_eq_true hb3
          have hei' := HP.ti _ _ hei
          obtain ⟨pi, z, p1, p2, _⟩ := hei'.info
          have hjl : n.toNat < l.length := by omega
          obtain ⟨e1, e2⟩ := hr n.toNat hjl
          have e3 : l.getD n.toNat 0 = l[n.toNat] := by simp [hjl]
          have e1 : arrF arr n.toNat = .int kk l[n.toNat] := e1
          refine pure_ok R ho (v := arrF arr n.toNat) ?_ (by rw [e1, e3]; exact ⟨rfl, e2⟩) (fun _ => by rw [e1]; rfl)
          have hp := part_leaf (P := P) (w := w) hei'.und (by rw [← hei'.agg]; exact hb2) arr n.toNat (by omega)
          simp [execOp, hop, Instr.index, hiv, hv, asIntOf, run_underlying hu, hn0, hn1, sizeOf, typeInfo, p1, show pi.size = 1 by omega, hp]
      · cases h
    · rename_i l hd h1
      rw [h1] at hx; rw [hd] at hu
      obtain ⟨b, hv, hl, hb⟩ := hx
      simp only [Option.some.injEq, Prod.mk.injEq, Bool.and_eq_true, decide_eq_true_eq] at h
      obtain ⟨⟨hn0, hn1⟩, rfl⟩ := h
      have hsz : l.length = b.size := by rw [← hl]; exact sby_size b
      have hlt : n.toNat < b.size := by omega
      have e1 : l.getD n.toNat 0 = ((b[n.toNat]'hlt).toNat : Int) := by
        rw [← hl]
        simp [sby, List.getD_eq_getElem?_getD, List.getElem?_map]
        rw [Array.getElem?_eq_getElem (by simpa using hlt)]
        rfl
      have e2 : IntKind.u8.has (l.getD n.toNat 0) := by
        rw [e1]
        have := (b[n.toNat]'hlt).toNat_lt
        unfold IntKind.has
        simp [IntKind.min, IntKind.max, IntKind.bits, IntKind.signed]
        omega
      refine pure_ok R ho (v := .int .u8 (l.getD n.toNat 0)) ?_ ⟨rfl, e2⟩ (fun _ => rfl)
      rw [e1]
      simp [execOp, hop, Instr.index, hiv, hv, asIntOf, run_underlying hu, hn0, hlt]
    · cases h
  · cases h
end
end Go.Abs
