/-
  A small evaluator of loaded Go code: it runs a function's code on values that bear Lean variables, and yields a tree of tests, calls and results.
  Soundness stands in the next texts: whatever the tree comes to is what the call returns.
-/
import Derived.WalkKit
import Derived.RangeFuncNested
import Derived.Laws.BytesArg
import Derived.Laws.Concat
import Derived.Laws.Strings
import Derived.Laws.ComplexArith
import Derived.RangeFuncLeaves
import Derived.Deep.Quiet
import Derived.KernelRfl
import Derived.Test.YtlbmjajjldfigaaGreatClean
namespace Go.Proofs.YtlbmjajjldfigaaGreat.Ev
open Go
universe u

/-- A tree: what a run comes to, by tests, named parts and list reads. -/
inductive Tr (ρ : Type) : Type 1 where
  | ret (r : ρ) : Tr ρ
  | fail : Tr ρ
  | br (b : Bool) (t e : Tr ρ) : Tr ρ
  | bind {α : Type} (x : α) (k : α → Tr ρ) : Tr ρ
  | get {α : Type} (o : Option α) (k : α → Tr ρ) : Tr ρ
  | sum {α β : Type} (x : α ⊕ β) (k : α → Tr ρ) (l : β → Tr ρ) : Tr ρ

def Tr.den {ρ : Type} : Tr ρ → Option ρ
  | .ret r => some r
  | .fail => none
  | .br b t e => match b with | true => t.den | false => e.den
  | .bind x k => (k x).den
  | .get o k => match o with | some x => (k x).den | none => none
  | .sum x k l => match x with | .inl a => (k a).den | .inr b => (l b).den

/-- The value of one cell: known whole; a known number; a known truth; a place in a box; a place in an element of a list; a whole slice. -/
inductive CV where
  | v (x : Value)
  | k (n : Int)
  | b (x : Bool)
  | own (i off : Nat)
  | el (i e sz off : Nat)
  | sl (i : Nat)

inductive AV where
  | c (x : CV)
  | agg (cs : List CV)
  | tup2 (a b : AV)
  | tup3 (a b c : AV)
  | clo (f : FuncId) (caps : List CV)

/-- What a name stands for: a box's block, a slice's value. -/
inductive Nm where
  | blk (b : Nat)
  | sv (a : Option Addr) (n cap : Nat)
  | none

def nth {α : Type u} : List α → Nat → Option α
  | [], _ => none
  | a :: _, 0 => some a
  | _ :: r, n + 1 => nth r n

def CV.val (N : List Nm) : CV → Option Value
  | .v x => some x
  | .k n => some (.int .i64 n)
  | .b x => some (.bool x)
  | .own i off => match nth N i with
    | some (.blk bk) => some (.pointer (some ⟨bk, off, none⟩))
    | _ => none
  | .el i e sz off => match nth N i with
    | some (.sv (some a) _ _) => some (.pointer (some ⟨a.block, a.off + e * sz + off, none⟩))
    | _ => none
  | .sl i => match nth N i with
    | some (.sv a n cap) => some (.slice a n cap)
    | _ => none

def CV.vals (N : List Nm) : List CV → Option (List Value)
  | [] => some []
  | y :: r => match y.val N with
    | some x => match CV.vals N r with
      | some l => some (x :: l)
      | none => none
    | none => none

def AV.val (N : List Nm) : AV → Option Value
  | .c x => x.val N
  | .agg cs => match CV.vals N cs with
    | some l => some (.agg l.toArray)
    | none => none
  | .tup2 a b => match a.val N with
    | some x => match b.val N with
      | some y => some (.tuple #[x, y])
      | none => none
    | none => none
  | .tup3 a b d => match a.val N with
    | some x => match b.val N with
      | some y => match d.val N with
        | some z => some (.tuple #[x, y, z])
        | none => none
      | none => none
    | none => none
  | .clo f caps => match CV.vals N caps with
    | some l => some (.func (.func f) #[] l.toArray)
    | none => none

def AV.vals (N : List Nm) : List AV → Option (List Value)
  | [] => some []
  | y :: r => match y.val N with
    | some x => match AV.vals N r with
      | some l => some (x :: l)
      | none => none
    | none => none

/-- Data in a run of cells. -/
structure CC (α : Type) where
  enc : α → List Value
  dec : List CV → Option (α × List CV)

def ccInt : CC Int where
  enc n := [.int .i64 n]
  dec l := match l with
    | .k n :: r => some (n, r)
    | .v (.int .i64 n) :: r => some (n, r)
    | _ => none
def ccBool : CC Bool where
  enc n := [.bool n]
  dec l := match l with
    | .b n :: r => some (n, r)
    | .v (.bool n) :: r => some (n, r)
    | _ => none
def ccStr : CC ByteArray where
  enc n := [.string n]
  dec l := match l with
    | .v (.string n) :: r => some (n, r)
    | _ => none
def ccByte : CC Int where
  enc n := [.int .u8 n]
  dec l := match l with
    | .v (.int .u8 n) :: r => some (n, r)
    | _ => none
abbrev Cx := Nat × Nat
def ccCx : CC Cx where
  enc n := [.complex .f64 n.1 n.2]
  dec l := match l with
    | .v (.complex .f64 a b) :: r => some ((a, b), r)
    | _ => none
def CC.seq {α β γ : Type} (c : CC α) (d : CC β) (f : α → β → γ) (p : γ → α) (q : γ → β) : CC γ where
  enc z := c.enc (p z) ++ d.enc (q z)
  dec l := match c.dec l with
    | some (x, l') => match d.dec l' with
      | some (y, r) => some (f x y, r)
      | none => none
    | none => none
def ccTwo {α β : Type} (c : CC α) (d : CC β) : CC (α × β) := c.seq d (fun a b => (a, b)) Prod.fst Prod.snd
def ccIv : CC Iv := ccInt.seq (ccTwo ccInt ccBool) (fun a b => ⟨a, b.1, b.2⟩) Iv.lo (fun z => (z.hi, z.no))
def ccV : CC V := ccIv.seq (ccTwo ccIv ccIv) (fun a b => ⟨a, b.1, b.2⟩) V.x (fun z => (z.y, z.z))
def ccRay : CC Ray := ccV.seq ccV Ray.mk Ray.o Ray.d
def ccSurf : CC Surf := (ccTwo ccBool ccBool).seq (ccTwo ccIv (ccTwo ccIv (ccTwo ccIv (ccTwo ccIv (ccTwo ccIv (ccTwo ccIv ccIv)))))) (fun a b => ⟨a.1, a.2, b.1, b.2.1, b.2.2.1, b.2.2.2.1, b.2.2.2.2.1, b.2.2.2.2.2.1, b.2.2.2.2.2.2⟩)
  (fun s => (s.stop, s.bent)) (fun s => (s.curve, s.conic, s.a4, s.a6, s.at_, s.open2, s.ratio))
def ccDec : CC Dec := ccInt.seq ccInt Dec.mk Dec.c Dec.scale
def ccFace : CC Face := (ccTwo ccBool (ccTwo ccDec (ccTwo ccDec ccDec))).seq (ccTwo ccDec (ccTwo ccDec (ccTwo ccDec ccStr))) (fun a b => ⟨a.1, a.2.1, a.2.2.1, a.2.2.2, b.1, b.2.1, b.2.2.1, b.2.2.2⟩)
  (fun s => (s.stop, s.radius, s.aperture, s.thick)) (fun s => (s.conic, s.a4, s.a6, s.glass))
def ccGlass : CC Glass := ccStr.seq (ccTwo ccDec (ccTwo ccDec (ccTwo ccDec (ccTwo ccDec (ccTwo ccDec ccDec))))) (fun a b => ⟨a, b.1, b.2.1, b.2.2.1, b.2.2.2.1, b.2.2.2.2.1, b.2.2.2.2.2⟩)
  Glass.name (fun s => (s.b0, s.b1, s.b2, s.c0, s.c1, s.c2))
def ccSix : CC (Int × Int × Int × Int × Int × Int) := ccTwo ccInt (ccTwo ccInt (ccTwo ccInt (ccTwo ccInt (ccTwo ccInt ccInt))))
def ccRawFace : CC RawFace := ccInt.seq (ccTwo ccInt (ccTwo ccInt (ccTwo ccInt (ccTwo ccInt ccInt)))) (fun a b => ⟨a, b.1, b.2.1, b.2.2.1, b.2.2.2.1, b.2.2.2.2⟩)
  RawFace.kind (fun s => (s.r, s.a, s.t, s.g, s.k))
def ccRawRay : CC RawRay := ccInt.seq (ccTwo ccInt (ccTwo ccInt (ccTwo ccInt (ccTwo ccInt ccInt)))) (fun a b => ⟨a, b.1, b.2.1, b.2.2.1, b.2.2.2.1, b.2.2.2.2⟩)
  RawRay.x (fun s => (s.y, s.u, s.w, s.wide, s.lean))
abbrev Quad := Int × Int × Int × Int
def ccQuad : CC Quad := ccTwo ccInt (ccTwo ccInt (ccTwo ccInt ccInt))
def ccPair : CC Pair := ccInt.seq ccInt Pair.mk Pair.x Pair.y

abbrev RepV := Int × Int × Int × Bool × Cx × Cx
def ccRep : CC RepV := ccTwo ccInt (ccTwo ccInt (ccTwo ccInt (ccTwo ccBool (ccTwo ccCx ccCx))))
abbrev DRep := Int × Int × Int × Bool × Pair × Pair
def ccDRep : CC DRep := ccTwo ccInt (ccTwo ccInt (ccTwo ccInt (ccTwo ccBool (ccTwo ccPair ccPair))))
abbrev RowV := Iv × Iv × RepV
def ccRow : CC RowV := ccTwo ccIv (ccTwo ccIv ccRep)
abbrev DRow := Iv × Iv × DRep
def ccDRow : CC DRow := ccTwo ccIv (ccTwo ccIv ccDRep)
abbrev Ivp := Iv × Iv
def ccIvp : CC Ivp := ccTwo ccIv ccIv

/-- The kinds of elements that lists have. -/
inductive Kd where
  | int | iv | surf | face | glass | rface | rray | pair | quad | byte | cx | ivp | row | drow
def Kd.T : Kd → Type
  | .int => Int
  | .iv => Iv
  | .surf => Surf
  | .face => Face
  | .glass => Glass
  | .rface => RawFace
  | .rray => RawRay
  | .pair => Pair
  | .quad => Quad
  | .byte => Int
  | .cx => Cx
  | .ivp => Ivp
  | .row => RowV
  | .drow => DRow
def Kd.cc : (k : Kd) → CC k.T
  | .int => ccInt
  | .iv => ccIv
  | .surf => ccSurf
  | .face => ccFace
  | .glass => ccGlass
  | .rface => ccRawFace
  | .rray => ccRawRay
  | .pair => ccPair
  | .quad => ccQuad
  | .byte => ccByte
  | .cx => ccCx
  | .ivp => ccIvp
  | .row => ccRow
  | .drow => ccDRow
def Kd.sz : Kd → Nat
  | .int => 1
  | .iv => 3
  | .surf => 23
  | .face => 14
  | .glass => 13
  | .rface => 6
  | .rray => 6
  | .pair => 2
  | .quad => 4
  | .byte => 1
  | .cx => 1
  | .ivp => 6
  | .row => 12
  | .drow => 14

/-- Lists of elements. -/
structure Lst where
  k : Kd
  l : List k.T

def Kd.cast : (k j : Kd) → List k.T → Option (List j.T)
  | .int, .int, l => some l
  | .iv, .iv, l => some l
  | .surf, .surf, l => some l
  | .face, .face, l => some l
  | .glass, .glass, l => some l
  | .rface, .rface, l => some l
  | .rray, .rray, l => some l
  | .pair, .pair, l => some l
  | .quad, .quad, l => some l
  | .byte, .byte, l => some l
  | .cx, .cx, l => some l
  | .ivp, .ivp, l => some l
  | .row, .row, l => some l
  | .drow, .drow, l => some l
  | _, _, _ => none
theorem Kd.cast_spec : ∀ {k j : Kd} {l : List k.T} {m : List j.T}, k.cast j l = some m → (⟨k, l⟩ : Lst) = ⟨j, m⟩ := by
  intro k j l m h
  cases k <;> cases j <;> first | (simp only [Kd.cast, Option.some.injEq] at h; subst h; rfl) | (simp [Kd.cast] at h)

/-- Elements out of cells. -/
def parse {α : Type} (c : CC α) : Nat → List CV → Option (List α)
  | 0, [] => some []
  | 0, _ :: _ => none
  | n + 1, cs => match c.dec cs with
    | some (x, r) => match parse c n r with | some l => some (x :: l) | none => none
    | none => none
def tryK (z n : Nat) (cs : List CV) : List Kd → Option Lst
  | [] => none
  | k :: r => match Nat.beq z k.sz with
    | true => match parse k.cc n cs with
      | some l => some ⟨k, l⟩
      | none => tryK z n cs r
    | false => tryK z n cs r
def kinds : List Kd := [.int, .iv, .surf, .face, .glass, .rface, .rray, .pair, .quad, .byte, .cx, .ivp, .row, .drow]
def lenOk {α : Type} (l : List α) : Bool := decide (l.length ≤ 1048576)

inductive Row where
  | box (cs : List CV)
  | ro (cs : List CV)
  | list (L : Lst)
  | grow (L : Lst) (e : TypeId)
  | nilr
  | dead

structure St where
  n : Nat
  tmps : List (Nat × AV)
  mem : List Row

def look : List (Nat × AV) → Nat → Option AV
  | [], _ => none
  | (d, x) :: r, t => match Nat.beq d t with | true => some x | false => look r t

def setNth {α : Type u} : List α → Nat → α → List α
  | [], _, _ => []
  | _ :: r, 0, x => x :: r
  | a :: r, n + 1, x => a :: setNth r n x

def St.put (s : St) (d : Nat) (x : AV) : St := { s with tmps := (d, x) :: s.tmps }

def cst : Value → AV
  | .int .i64 n => .c (.k n)
  | .bool x => .c (.b x)
  | .agg cs => .agg (cs.toList.map CV.v)
  | x => .c (.v x)

def opnd (s : St) : Operand → Option AV
  | .tmp t => look s.tmps t
  | .const x => some (cst x)
  | .func f => some (.clo f [])
  | .global _ => none

/-- Plain values: no place of ours in them. -/
def CV.plain : CV → Option Value
  | .v x => some x
  | .k n => some (.int .i64 n)
  | .b x => some (.bool x)
  | _ => none

def CV.plains : List CV → Option (List Value)
  | [] => some []
  | c :: r => match c.plain with
    | some x => match CV.plains r with
      | some l => some (x :: l)
      | none => none
    | none => none

def AV.plain : AV → Option Value
  | .c x => x.plain
  | .agg cs => match CV.plains cs with | some l => some (.agg l.toArray) | none => none
  | .clo f [] => some (.func (.func f) #[] #[])
  | _ => none

def AV.plains : List AV → Option (List Value)
  | [] => some []
  | y :: r => match y.plain with
    | some x => match AV.plains r with
      | some l => some (x :: l)
      | none => none
    | none => none

def AV.ofVal1 : Value → AV
  | .agg cs => .agg (cs.toList.map CV.v)
  | .func (.func f) ⟨[]⟩ ⟨[]⟩ => .clo f []
  | x => .c (.v x)
def AV.ofVal : Value → AV
  | .agg cs => .agg (cs.toList.map CV.v)
  | .tuple ⟨[x, y]⟩ => .tup2 (AV.ofVal1 x) (AV.ofVal1 y)
  | .tuple ⟨[x, y, z]⟩ => .tup3 (AV.ofVal1 x) (AV.ofVal1 y) (AV.ofVal1 z)
  | x => .c (.v x)

/-- Runs that only look at the program. -/
def pureRun {α : Type} (P : Program) : Sem α → Option α
  | .pure a => some a
  | .program k => pureRun P (k P)
  | _ => none

/-- One tree behind another. -/
def Tr.andK {α ρ : Type} (k : α → Tr ρ) : Tr α → Tr ρ
  | .ret r => k r
  | .fail => .fail
  | .br b t e => .br b (t.andK k) (e.andK k)
  | .bind x f => .bind x fun a => (f a).andK k
  | .get o f => .get o fun a => (f a).andK k
  | .sum x f g => .sum x (fun a => (f a).andK k) (fun b => (g b).andK k)

/-- What a callee comes to: a value without places; one with lists of its own; its body's tree, run in the caller's rows. -/
inductive CallR : Type 1 where
  | pure (α : Type) (x : α) (val : α → Value)
  | pre (b : Bool) (α : Type) (x : α) (val : α → Value)
  | rows (b : Bool) (α : Type) (x : α) (av : Nat → α → AV) (rows : α → List Row)
  | tree (T : Tr (AV × List Row))

abbrev Env := FuncId → List AV → List Row → Option CallR

def isAggT (P : Program) (t : TypeId) : Option Bool :=
  match P.underlying t with
  | some (.struct _) => some true
  | some (.array _ _) => some true
  | some _ => some false
  | none => none
def sizeT (P : Program) (t : TypeId) : Option Nat :=
  match P.info? t with
  | some i => some i.size
  | none => none
def zeroT (P : Program) (t : TypeId) : Option (List Value) :=
  match P.info? t with
  | some i => match i.zero with | some z => some z.cells.toList | none => none
  | none => none
def fieldT (P : Program) (t : TypeId) (f : Nat) : Option (Nat × TypeId) :=
  match P.underlying t with
  | some (.struct fs) => match fs[f]? with
    | some x => match sizeT P x.type with
      | some (_ + 1) => some (x.offset, x.type)
      | _ => none
    | none => none
  | _ => none

def takeN {α : Type u} : Nat → List α → Option (List α)
  | 0, _ => some []
  | _ + 1, [] => none
  | n + 1, a :: r => match takeN n r with | some l => some (a :: l) | none => none
def dropN {α : Type u} : Nat → List α → List α
  | 0, l => l
  | _ + 1, [] => []
  | n + 1, _ :: r => dropN n r
/-- Put a run of cells into a row. -/
def overlay {α : Type u} : List α → Nat → List α → Option (List α)
  | l, 0, [] => some l
  | [], 0, _ :: _ => none
  | _ :: r, 0, x :: xs => match overlay r 0 xs with | some q => some (x :: q) | none => none
  | [], _ + 1, _ => none
  | a :: r, n + 1, xs => match overlay r n xs with | some q => some (a :: q) | none => none

def AV.cells : AV → Option (List CV)
  | .c (.v (.agg _)) => none
  | .c x => some [x]
  | .agg cs => some cs
  | _ => none

/-- Values of one cell each. -/
def cellOk : CV → Bool
  | .v (.agg _) => false
  | .v (.tuple _) => false
  | _ => true
def cellsOk : List CV → Bool
  | [] => true
  | x :: r => match cellOk x with | true => cellsOk r | false => false

/-- Read a variable of a type from cells. -/
def readCells (P : Program) (t : TypeId) (cs : List CV) (off : Nat) : Option AV :=
  match isAggT P t with
  | some true => match sizeT P t with
    | some n => match takeN n (dropN off cs) with | some l => some (.agg l) | none => none
    | none => none
  | some false => match nth cs off with | some x => some (.c x) | none => none
  | none => none

/-- The list that a name stands for. -/
def lstOf (M : List Row) (i : Nat) : Option Lst :=
  match nth M i with
  | some (.list L) => some L
  | some (.grow L _) => some L
  | _ => none

section
variable (P : Program) (E : Env) {ρ : Type}

def loadK (s : St) (t : TypeId) (a : AV) (k : AV → Tr ρ) : Tr ρ :=
  match a with
  | .c (.own i off) => match nth s.mem i with
    | some (.box cs) => match readCells P t cs off with
      | some x => k x
      | none => .fail
    | some (.ro cs) => match readCells P t cs off with
      | some x => k x
      | none => .fail
    | _ => .fail
  | .c (.el i e sz off) => match lstOf s.mem i with
    | some L => match Nat.beq sz L.k.sz with
      | true => .get L.l[e]? fun x => match readCells P t ((L.k.cc.enc x).map CV.v) off with
        | some y => k y
        | none => .fail
      | false => .fail
    | none => .fail
  | _ => .fail

/-- A store into a box: which row, and what it then holds. -/
def storeA (M : List Row) (t : TypeId) (a v : AV) : Option (Nat × List CV) :=
  match a with
  | .c (.own i off) => match nth M i with
    | some (.box cs) => match v.cells with
      | some xs => match cellsOk xs with
        | true => match sizeT P t with
          | some n => match Nat.beq n xs.length with
            | true => match overlay cs off xs with
              | some q => some (i, q)
              | none => none
            | false => none
          | none => none
        | false => none
      | none => none
    | _ => none
  | _ => none
/-- A store into an element of a list of ours. -/
def storeElK (s : St) (t : TypeId) (a v : AV) (k : St → Tr ρ) : Tr ρ :=
  match a with
  | .c (.el i e sz off) => match nth s.mem i with
    | some (.grow L et) => match Nat.beq sz L.k.sz with
      | true => match v.cells with
        | some xs => match cellsOk xs with
          | true => match sizeT P t with
            | some n => match Nat.beq n xs.length with
              | true => .get L.l[e]? fun x => match overlay ((L.k.cc.enc x).map CV.v) off xs with
                | some q => match L.k.cc.dec q with
                  | some (y, []) => k { s with mem := setNth s.mem i (.grow ⟨L.k, L.l.set e y⟩ et) }
                  | _ => .fail
                | none => .fail
              | false => .fail
            | none => .fail
          | false => .fail
        | none => .fail
      | false => .fail
    | _ => .fail
  | _ => .fail
def storeK (s : St) (t : TypeId) (a v : AV) (k : St → Tr ρ) : Tr ρ :=
  match storeA P s.mem t a v with
  | some (i, q) => k { s with mem := setNth s.mem i (.box q) }
  | none => storeElK P s t a v k

def fieldAddrA (t : TypeId) (a : AV) (f : Nat) : Option AV :=
  match fieldT P t f with
  | some (o, _) => match a with
    | .c (.own i off) => some (.c (.own i (off + o)))
    | .c (.el i e sz off) => some (.c (.el i e sz (off + o)))
    | _ => none
  | none => none

def fieldA (t : TypeId) (x : AV) (f : Nat) : Option AV :=
  match fieldT P t f with
  | some (o, ft) => match x with
    | .agg cs => readCells P ft cs o
    | _ => none
  | none => none

/-- A part laid into an aggregate. -/
def buildA (place : Nat → Option (Nat × Nat)) (s : St) : List CV → List (Nat × Operand) → Option (List CV)
  | cs, [] => some cs
  | cs, (i, x) :: r => match place i with
    | some (off, n) => match opnd s x with
      | some a => match a.cells with
        | some xs => match Nat.beq n xs.length with
          | true => match overlay cs off xs with
            | some q => buildA place s q r
            | none => none
          | false => none
        | none => none
      | none => none
    | none => none

def places : List Field → Option (List (Nat × Nat))
  | [] => some []
  | f :: r => match sizeT P f.type with
    | some n => match places r with
      | some l => some ((f.offset, n) :: l)
      | none => none
    | none => none

def evBuild (s : St) (t : TypeId) (parts : List (Nat × Operand)) : Option AV :=
  match zeroT P t with
  | some z => match P.underlying t with
    | some (.struct fs) => match places P fs.toList with
      | some pl => match buildA (nth pl) s (z.map CV.v) parts with
        | some cs => some (.agg cs)
        | none => none
      | none => none
    | some (.array _ e) => match sizeT P e with
      | some n => match buildA (fun i => some (i * n, n)) s (z.map CV.v) parts with
        | some cs => some (.agg cs)
        | none => none
      | none => none
    | _ => none
  | none => none

/-- A test on numbers. -/
def cmpB : BinOp → Int → Int → Option Bool
  | .eql, x, y => some (x == y)
  | .neq, x, y => some (x != y)
  | .lss, x, y => some (decide (x < y))
  | .leq, x, y => some (decide (x ≤ y))
  | .gtr, x, y => some (decide (x > y))
  | .geq, x, y => some (decide (x ≥ y))
  | _, _, _ => none
def arithB : BinOp → Int → Int → Option Int
  | .add, x, y => some (IntKind.i64.wrap (x + y))
  | .sub, x, y => some (IntKind.i64.wrap (x - y))
  | .mul, x, y => some (IntKind.i64.wrap (x * y))
  | _, _, _ => none

/-- Two whole numbers, both known. -/
def binKK (op : BinOp) (x y : Int) : Option CV :=
  match cmpB op x y with
  | some b => some (.b b)
  | none => match arithB op x y with
    | some n => some (.k n)
    | none => match op with
      | .quo => match (y != 0) with | true => some (.k (IntKind.i64.wrap (x.tdiv y))) | false => none
      | .rem => match (y != 0) with | true => some (.k (x.tmod y)) | false => none
      | .shl => match decide (0 ≤ y) with | true => some (.k (IntKind.i64.wrap (x * 2 ^ (min y.toNat 64)))) | false => none
      | .shr => match decide (0 ≤ y) with | true => some (.k (x.fdiv (2 ^ (min y.toNat 64)))) | false => none
      | _ => none

def binInt (op : BinOp) (x y : Int) (k : AV → Tr ρ) : Tr ρ :=
  match cmpB op x y with
  | some b => k (.c (.v (.bool b)))
  | none => match arithB op x y with
    | some n => k (.c (.v (.int .i64 n)))
    | none => match op with
      | .quo => .br (y != 0) (k (.c (.v (.int .i64 (IntKind.i64.wrap (x.tdiv y)))))) .fail
      | .rem => .br (y != 0) (k (.c (.v (.int .i64 (x.tmod y))))) .fail
      | .shl => .br (decide (0 ≤ y)) (k (.c (.v (.int .i64 (IntKind.i64.wrap (x * 2 ^ (min y.toNat 64))))))) .fail
      | .shr => .br (decide (0 ≤ y)) (k (.c (.v (.int .i64 (x.fdiv (2 ^ (min y.toNat 64))))))) .fail
      | .or => k (.c (.v (.int .i64 (IntKind.i64.wrap (BitVec.ofInt 64 x ||| BitVec.ofInt 64 y).toNat))))
      | .and => k (.c (.v (.int .i64 (IntKind.i64.wrap (BitVec.ofInt 64 x &&& BitVec.ofInt 64 y).toNat))))
      | _ => .fail

/-- Shifts by what is not negative. -/
def binU (op : BinOp) (x y : Int) (k : AV → Tr ρ) : Tr ρ :=
  match op with
  | .shl => .br (decide (0 ≤ y)) (k (.c (.v (.int .i64 (IntKind.i64.wrap (x * 2 ^ (min y.toNat 64))))))) .fail
  | .shr => .br (decide (0 ≤ y)) (k (.c (.v (.int .i64 (x.fdiv (2 ^ (min y.toNat 64))))))) .fail
  | _ => .fail

/-- Division and shifts by a known number need no test. -/
def binIntK (op : BinOp) (x : Int) (y : Int) (k : AV → Tr ρ) : Tr ρ :=
  match op with
  | .quo => match (y != 0) with | true => k (.c (.v (.int .i64 (IntKind.i64.wrap (x.tdiv y))))) | false => .fail
  | .rem => match (y != 0) with | true => k (.c (.v (.int .i64 (x.tmod y)))) | false => .fail
  | .shl => match decide (0 ≤ y) with | true => k (.c (.v (.int .i64 (IntKind.i64.wrap (x * 2 ^ (min y.toNat 64)))))) | false => .fail
  | .shr => match decide (0 ≤ y) with | true => k (.c (.v (.int .i64 (x.fdiv (2 ^ (min y.toNat 64)))))) | false => .fail
  | op => binInt op x y k

def isEq : BinOp → Bool
  | .eql | .neq => true
  | _ => false

/-- Equality part by part. -/
def eqFs (rec : TypeId → AV → AV → Option Bool) (xs ys : List CV) : List Field → Option Bool
  | [] => some true
  | [f] => match f.name == "_" with
    | true => none
    | false => match readCells P f.type xs f.offset with
      | some x => match readCells P f.type ys f.offset with
        | some y => rec f.type x y
        | none => none
      | none => none
  | f :: r => match f.name == "_" with
    | true => none
    | false => match readCells P f.type xs f.offset with
      | some x => match readCells P f.type ys f.offset with
        | some y => match rec f.type x y with
          | some b => match eqFs rec xs ys r with
            | some c => some (b && c)
            | none => none
          | none => none
        | none => none
      | none => none
/-! Floats, complex numbers -/
def fEq (a b : Nat) : Bool := Op.floatEq .f64 a b
def fOrd (a b : Nat) : Option Ordering := FloatKind.f64.format.order a b
def fCmp (op : BinOp) (a b : Nat) : Option Bool :=
  match op with
  | .eql => some (fOrd a b == some .eq)
  | .neq => some (fOrd a b != some .eq)
  | .lss => some (fOrd a b == some .lt)
  | .leq => some (fOrd a b == some .lt || fOrd a b == some .eq)
  | .gtr => some (fOrd a b == some .gt)
  | .geq => some (fOrd a b == some .gt || fOrd a b == some .eq)
  | _ => none
def fInt (n : Int) : Nat := FloatKind.f64.nearest n
def fTo (b : Nat) : Option Int := floatToIntVal .f64 b .i64
def fMin (a b : Nat) : Option Nat := match fOrd a b with | none => none | some .lt => some a | some .gt => some b | some .eq => some (if (FloatKind.f64.decode a).neg = true then a else b)
def fMax (a b : Nat) : Option Nat := match fOrd a b with | none => none | some .lt => some b | some .gt => some a | some .eq => some (if (FloatKind.f64.decode a).neg = true then b else a)
def cEq (a b c d : Nat) : Bool := fEq a c && fEq b d

/-- Equality element by element, from the i-th of so many on. -/
def eqArr (rec : TypeId → AV → AV → Option Bool) (e : TypeId) (z : Nat) (xs ys : List CV) : Nat → Nat → Option Bool
  | _, 0 => some true
  | i, n + 1 => match readCells P e xs (i * z) with
    | some x => match readCells P e ys (i * z) with
      | some y => match rec e x y with
        | some b => match eqArr rec e z xs ys (i + 1) n with
          | some c => some (b && c)
          | none => none
        | none => none
      | none => none
    | none => none
def eqA : Nat → TypeId → AV → AV → Option Bool
  | 0, _, _, _ => none
  | d + 1, t, x, y => match x, y with
    | .agg xs, .agg ys => match P.underlying t with
      | some (.struct fs) => match P.stoodInHeld t with
        | true => none
        | false => eqFs P (eqA d) xs ys fs.toList
      | some (.array n e) => match sizeT P e with
        | some z => eqArr P (eqA d) e z xs ys 0 n
        | none => none
      | _ => none
    | .c x, .c y => match x.plain with
      | some u => match y.plain with
        | some v => match P.underlying t, u, v with
          | some (.int _), .int .i64 a, .int .i64 b => some (a == b)
          | some .bool, .bool a, .bool b => some (a == b)
          | some .string, .string a, .string b => some (a == b)
          | some (.complex _), .complex .f64 a b, .complex .f64 a' b' => some (cEq a b a' b')
          | _, _, _ => none
        | none => none
      | none => none
    | _, _ => none

def evBin (op : BinOp) (t : TypeId) (xo yo : Operand) (x y : AV) (k : AV → Tr ρ) : Tr ρ :=
  match x, y with
  | .c (.k a), .c (.k b) => match binKK op a b with
    | some r => k (.c r)
    | none => binIntK op a b k
  | .c (.v (.int .i64 a)), .c (.k b) => binIntK op a b k
  | .c (.k a), .c (.v (.int .i64 b)) => binInt op a b k
  | .c (.v (.int .i64 a)), .c (.v (.int .i64 b)) => binInt op a b k
  | .c (.v (.int .i64 a)), .c (.v (.int .u64 b)) => binU op a b k
  | .c (.k a), .c (.v (.int .u64 b)) => binU op a b k
  | .clo _ _, .c (.v .nilFunc) => match P.underlying t with
    | some (.func _ _ _) => match op with
      | .eql => k (.c (.b false))
      | .neq => k (.c (.b true))
      | _ => .fail
    | _ => .fail
  | .agg xs, .agg ys => match P.eqGuardType P.depth t with
    | true => .fail
    | false => match eqA P 20 t (.agg xs) (.agg ys) with
      | some r => match op with
        | .eql => k (.c (.v (.bool r)))
        | .neq => k (.c (.v (.bool (!r))))
        | _ => .fail
      | none => .fail
  | x, y => match x.plain with
    | some x => match y.plain with
      | some y => match pureRun P (do eqGuard op t xo yo x y; binOp op t x y) with
        | some r => k (AV.ofVal r)
        | none => .fail
      | none => .fail
    | none => .fail

def evNot (x : AV) : Option AV :=
  match x with
  | .c (.b a) => some (.c (.b (!a)))
  | .c (.v (.bool a)) => some (.c (.v (.bool (!a))))
  | _ => none

def evPick (c a b : Option AV) (k : AV → Tr ρ) : Tr ρ :=
  match c with
  | some (.c (.b true)) => match a with | some x => k x | none => .fail
  | some (.c (.b false)) => match b with | some x => k x | none => .fail
  | some (.c (.v (.bool x))) => .br x (match a with | some x => k x | none => .fail) (match b with | some x => k x | none => .fail)
  | _ => .fail

def opnds (s : St) : List Operand → Option (List AV)
  | [] => some []
  | x :: r => match opnd s x with
    | some a => match opnds s r with
      | some l => some (a :: l)
      | none => none
    | none => none

/-- A number cut to a whole one, towards zero. -/
def fTrunc (b : Nat) : Option Nat := match FloatKind.f64.decode b with
  | .nan _ _ => none
  | .infinity s => some (FloatKind.f64.encode (Ieee.Datum.integral .zero (.infinity s)))
  | .number s m e => some (FloatKind.f64.encode (Ieee.Datum.integral .zero (.number s m e)))
def isTrunc (P : Program) (f : FuncId) : Bool := match P.funcs[f]? with
  | some fn => fn.body.isNone && (fn.name == "math.archTrunc" && fn.origin == "")
  | none => false
def extF (f : FuncId) (args : List AV) : Option (Option Nat) :=
  match isTrunc P f with
  | true => match args with
    | [.c (.v (.float .f64 b))] => some (fTrunc b)
    | _ => none
  | false => none
def callK (f : FuncId) (args : List AV) (s : St) (k : AV → Tr ρ) : Tr ρ :=
  match E f args s.mem with
  | some (.pure _ x val) => .bind x fun t => k (AV.ofVal (val t))
  | some (.pre b _ x val) => .br b (.bind x fun t => k (AV.ofVal (val t))) .fail
  | some (.rows _ _ _ _ _) => .fail
  | some (.tree _) => .fail
  | none => match extF P f args with
    | some o => .get o fun n => k (.c (.v (.float .f64 n)))
    | none => .fail

def callee (s : St) : Operand → Option (FuncId × List AV)
  | .func f => some (f, [])
  | .tmp t => match look s.tmps t with
    | some (.clo f caps) => some (f, caps.map AV.c)
    | _ => none
  | _ => none

def avInt : AV → Option Int
  | .c (.k n) => some n
  | .c (.v (.int .i64 n)) => some n
  | _ => none
def avInts : List AV → Option (List Int)
  | [] => some []
  | y :: r => match avInt y with
    | some x => match avInts r with
      | some l => some (x :: l)
      | none => none
    | none => none
/-- Built-in calls on plain data. -/
def evBuiltin (b : Builtin) (ts : Array TypeId) (t : TypeId) (l : List AV) : Option AV :=
  match b, l with
  | .max, [x, y] => match avInt x with
    | some x => match avInt y with | some y => some (.c (.v (.int .i64 (max x y)))) | none => none
    | none => none
  | .min, [x, y] => match avInt x with
    | some x => match avInt y with | some y => some (.c (.v (.int .i64 (min x y)))) | none => none
    | none => none
  | .max, [x, y, z] => match avInt x with
    | some x => match avInt y with
      | some y => match avInt z with | some z => some (.c (.v (.int .i64 (max (max x y) z)))) | none => none
      | none => none
    | none => none
  | .max, [x, y, z, u] => match avInt x with
    | some x => match avInt y with
      | some y => match avInt z with
        | some z => match avInt u with | some u => some (.c (.v (.int .i64 (max (max (max x y) z) u)))) | none => none
        | none => none
      | none => none
    | none => none
  | .len, [.c (.sl _)] => none
  | b, l => match AV.plains l with
    | some vs => match b with
      | .real => match pureRun P (Builtin.real_ ts t vs.toArray) with | some v => some (AV.ofVal v) | none => none
      | .imag => match pureRun P (Builtin.imag_ ts t vs.toArray) with | some v => some (AV.ofVal v) | none => none
      | .complex => match pureRun P (Builtin.complex_ ts t vs.toArray) with | some v => some (AV.ofVal v) | none => none
      | _ => none
    | none => none

/-- An element of an array, by a known number. -/
def indexA (t : TypeId) (x ix : AV) : Option AV :=
  match x, ix with
  | .agg cs, .c (.k n) => match P.underlying t with
    | some (.array len e) => match decide (0 ≤ n ∧ n < (len : Int)) with
      | true => match sizeT P e with
        | some z => readCells P e cs (n.toNat * z)
        | none => none
      | false => none
    | _ => none
  | _, _ => none
/-- A place in an array of ours, by a known number. -/
def indexAddrA (t : TypeId) (x ix : AV) : Option AV :=
  match x, ix with
  | .c (.own i off), .c (.k n) => match P.underlying t with
    | some (.array len e) => match decide (0 ≤ n ∧ n < (len : Int)) with
      | true => match sizeT P e with
        | some z => some (.c (.own i (off + n.toNat * z)))
        | none => none
      | false => none
    | _ => none
  | _, _ => none
/-- A place in a list. -/
def indexAddrK (M : List Row) (t : TypeId) (x ix : AV) (k : AV → Tr ρ) : Tr ρ :=
  match x, avInt ix with
  | .c (.sl i), some n => match lstOf M i with
    | some L => match P.underlying t with
      | some (.slice e) => match sizeT P e with
        | some z => match Nat.beq z L.k.sz with
          | true => .br (decide (0 ≤ n ∧ n < (L.l.length : Int))) (k (.c (.el i n.toNat z 0))) .fail
          | false => .fail
        | none => .fail
      | _ => .fail
    | none => .fail
  | x, _ => match indexAddrA P t x ix with
    | some r => k r
    | none => .fail

/-- How long a list is. -/
def lenK (M : List Row) (b : Builtin) (ts : List TypeId) (l : List AV) : Option AV :=
  match b, l, ts with
  | .len, [.c (.sl i)], [t] => match P.underlying t with
    | some (.slice _) => match lstOf M i with
      | some L => some (.c (.v (.int .i64 L.l.length)))
      | none => match nth M i with
        | some .nilr => some (.c (.k 0))
        | _ => none
    | _ => none
  | .len, [.c (.v (.slice none 0 0))], [t] => match P.underlying t with
    | some (.slice _) => some (.c (.k 0))
    | _ => none
  | .len, [.c (.v (.string s))], [t] => match P.underlying t with
    | some .string => some (.c (.v (.int .i64 (s.size : Int))))
    | _ => none
  | _, _, _ => none

/-- Cells of captured values. -/
def capsOf : List AV → Option (List CV)
  | [] => some []
  | .c x :: r => match capsOf r with | some l => some (x :: l) | none => none
  | _ :: _ => none

/-! Strings -/
def strsOf (x y : AV) : Option (ByteArray × ByteArray) :=
  match x with
  | .c (.v (.string a)) => match y with
    | .c (.v (.string b)) => some (a, b)
    | _ => none
  | _ => none
def strEq (a b : ByteArray) : Bool := a.data.toList == b.data.toList
def strOk (a b : ByteArray) : Bool := decide (a.size + b.size ≤ 1048576)
def evBinS (op : BinOp) (t : TypeId) (xo yo : Operand) (x y : AV) (k : AV → Tr ρ) : Tr ρ :=
  match strsOf x y with
  | some (a, b) => match op with
    | .add => .br (strOk a b) (k (.c (.v (.string (a ++ b))))) .fail
    | .eql => k (.c (.v (.bool (strEq a b))))
    | .neq => k (.c (.v (.bool (!strEq a b))))
    | _ => .fail
  | none => evBin P op t xo yo x y k
def fltsOf (x y : AV) : Option (Nat × Nat) :=
  match x with
  | .c (.v (.float .f64 a)) => match y with
    | .c (.v (.float .f64 b)) => some (a, b)
    | _ => none
  | _ => none
def cplxOf (x y : AV) : Option (Cx × Cx) :=
  match x with
  | .c (.v (.complex .f64 a b)) => match y with
    | .c (.v (.complex .f64 c d)) => some ((a, b), (c, d))
    | _ => none
  | _ => none
def evBinF (op : BinOp) (t : TypeId) (xo yo : Operand) (x y : AV) (k : AV → Tr ρ) : Tr ρ :=
  match fltsOf x y with
  | some (a, b) => match fCmp op a b with
    | some r => k (.c (.v (.bool r)))
    | none => .get (floatBits op .f64 a b) fun r => k (.c (.v (.float .f64 r)))
  | none => match cplxOf x y with
    | some ((a, b), (c, d)) => match op with
      | .add => .get (cSumBits .add .f64 a b c d) fun r => k (.c (.v (.complex .f64 r.1 r.2)))
      | .sub => .get (cSumBits .sub .f64 a b c d) fun r => k (.c (.v (.complex .f64 r.1 r.2)))
      | .mul => .get (cMulBits a b c d) fun r => k (.c (.v (.complex .f64 r.1 r.2)))
      | .eql => k (.c (.v (.bool (cEq a b c d))))
      | .neq => k (.c (.v (.bool (!cEq a b c d))))
      | _ => .fail
    | none => evBinS P op t xo yo x y k
/-- Numbers made floats, floats made numbers. -/
def cvtF (src dst : TypeId) (a : AV) : Option (Nat ⊕ Nat) :=
  match P.underlying src with
  | some _ => match P.underlying dst with
    | some (.float .f64) => match avInt a with | some n => some (.inl (fInt n)) | none => none
    | some (.int .i64) => match a with | .c (.v (.float .f64 b)) => some (.inr b) | _ => none
    | _ => none
  | none => none
def mmF (b : Builtin) (l : List AV) : Option (Option Nat) :=
  match b, l with
  | .max, [.c (.v (.float .f64 x)), .c (.v (.float .f64 y))] => some (fMax x y)
  | .min, [.c (.v (.float .f64 x)), .c (.v (.float .f64 y))] => some (fMin x y)
  | _, _ => none
/-- A byte of a string. -/
def strIx (t : TypeId) (x ix : AV) : Option (ByteArray × Int) :=
  match x with
  | .c (.v (.string s)) => match avInt ix with
    | some n => match P.underlying t with
      | some .string => some (s, n)
      | _ => none
    | none => none
  | _ => none
def indexK (t : TypeId) (x ix : AV) (k : AV → Tr ρ) : Tr ρ :=
  match strIx P t x ix with
  | some (s, n) => .br (decide (0 ≤ n)) (.get s[n.toNat]? fun c => k (.c (.v (.int .u8 (c.toNat : Int))))) .fail
  | none => match indexA P t x ix with | some r => k r | none => .fail
/-- Bytes as a string. -/
def bytesStr (M : List Row) (src dst : TypeId) (x : AV) : Option ByteArray :=
  match x with
  | .c (.sl i) => match P.underlying src with
    | some (.slice e) => match P.underlying e with
      | some (.int .u8) => match P.underlying dst with
        | some .string => match lstOf M i with
          | some ⟨.byte, x :: l⟩ => some (strOfNums (x :: l))
          | _ => none
        | _ => none
      | _ => none
    | _ => none
  | _ => none
/-- A string's end. -/
def strCut (s : St) (t : TypeId) (x : AV) (low high : Option Operand) : Option (ByteArray × Int) :=
  match x with
  | .c (.v (.string u)) => match P.underlying t with
    | some .string => match high with
      | none => match low with
        | some l => match opnd s l with
          | some a => match avInt a with
            | some n => some (u, n)
            | none => none
          | none => none
        | none => none
      | some _ => none
    | _ => none
  | _ => none

/-- Operations that leave the world alone: the value goes on. -/
def evQuiet (s : St) (op : Op) (ty : TypeId) (k : AV → Tr ρ) : Tr ρ :=
  match op with
  | .move x => match opnd s x with | some a => k a | none => .fail
  | .assign x => match opnd s x with | some a => k a | none => .fail
  | .pick c a b => evPick (opnd s c) (opnd s a) (opnd s b) k
  | .load t a => match opnd s a with | some a => loadK P s t a k | none => .fail
  | .fieldAddr t x f => match opnd s x with
    | some a => match fieldAddrA P t a f with | some r => k r | none => .fail
    | none => .fail
  | .field t x f => match opnd s x with
    | some a => match fieldA P t a f with | some r => k r | none => .fail
    | none => .fail
  | .unOp .not _ x => match opnd s x with
    | some a => match evNot a with | some r => k r | none => .fail
    | none => .fail
  | .unOp .neg _ x => match opnd s x with
    | some a => match a.plain with
      | some v => match pureRun P (Op.unary .neg v) with | some r => k (AV.ofVal r) | none => .fail
      | none => .fail
    | none => .fail
  | .convert src dst x => match opnd s x with
    | some a => match cvtF P src dst a with
      | some (.inl b) => k (.c (.v (.float .f64 b)))
      | some (.inr b) => .get (fTo b) fun n => k (.c (.v (.int .i64 n)))
      | none => match bytesStr P s.mem src dst a with
        | some u => k (.c (.v (.string u)))
        | none => match a.plain with
          | some v => match pureRun P (convert src dst v) with | some r => k (AV.ofVal r) | none => .fail
          | none => .fail
    | none => .fail
  | .index t x ix => match opnd s x with
    | some a => match opnd s ix with
      | some b => indexK P t a b k
      | none => .fail
    | none => .fail
  | .indexAddr t x ix => match opnd s x with
    | some a => match opnd s ix with
      | some b => indexAddrK P s.mem t a b k
      | none => .fail
    | none => .fail
  | .makeFunc (.func f) first captured => match first.toList with
    | [] => match opnds s captured.toList with
      | some l => match capsOf l with | some cs => k (.clo f cs) | none => .fail
      | none => .fail
    | _ => .fail
  | .nilCheck x => match opnd s x with
    | some (.clo f cs) => k (.clo f cs)
    | some (.c (.own i off)) => k (.c (.own i off))
    | some (.c (.el i e z off)) => k (.c (.el i e z off))
    | _ => .fail
  | .binOp op t x y _ => match opnd s x with
    | some a => match opnd s y with
      | some b => evBinF P op t x y a b k
      | none => .fail
    | none => .fail
  | .build t parts => match evBuild P s t parts.toList with | some r => k r | none => .fail
  | .extract x i => match opnd s x with
    | some (.tup2 a b) => match i with | 0 => k a | 1 => k b | _ => .fail
    | some (.tup3 a b c) => match i with | 0 => k a | 1 => k b | 2 => k c | _ => .fail
    | _ => .fail
  | .call { callee := .value f, args, .. } => match callee s f with
    | some (f, caps) => match opnds s args.toList with
      | some l => callK P E f (l ++ caps) s k
      | none => .fail
    | none => .fail
  | .call { callee := .builtin b, args, argTypes } => match opnds s args.toList with
    | some l => match lenK P s.mem b argTypes.toList l with
      | some r => k r
      | none => match mmF b l with
        | some o => .get o fun n => k (.c (.v (.float .f64 n)))
        | none => match evBuiltin P b argTypes ty l with | some r => k r | none => .fail
    | none => .fail
  | _ => .fail

def outQ (s : St) (dst : Option Nat) (k : St → Tr ρ) (x : AV) : Tr ρ :=
  match dst with
  | some d => match Nat.blt d s.n with | true => k (s.put d x) | false => .fail
  | none => k s

/-- The element type of a slice type, its size, its zero cells. -/
def sliceT (t : TypeId) : Option (TypeId × Nat × List Value) :=
  match P.underlying t with
  | some (.slice e) => match P.info? e with
    | some i => match i.zero with
      | some z => match Nat.beq z.cells.size i.size && (Nat.blt 0 i.size && Nat.ble i.bytes 67108864) with
        | true => some (e, i.size, z.cells.toList)
        | false => none
      | none => none
    | none => none
  | _ => none
def cells0 (n z : Nat) (zc : List Value) : List CV := (List.range (n * z)).map fun i => CV.v ((nth zc (i % z)).getD undef)
/-- A slice literal: a list of ours. -/
def buildSliceA (s : St) (t : TypeId) (len : Nat) (parts : List (Nat × Operand)) : Option (Lst × TypeId) :=
  match sliceT P t with
  | some (e, z, zc) => match Nat.blt 0 len && Nat.ble (len * z) 16777216 with
    | true => match buildA (fun i => some (i * z, z)) s (cells0 len z zc) parts with
      | some cs => match cellsOk cs with
        | true => match tryK z len cs kinds with
          | some L => some (L, e)
          | none => none
        | false => none
      | none => none
    | false => none
  | none => none
/-- What 'append' appends to, and what comes of it. -/
def appendA (M : List Row) (ts : List TypeId) (l : List AV) : Option (Option Nat × Lst × TypeId) :=
  match ts, l with
  | [t, u], [x, .c (.sl j)] => match Nat.beq t u with
    | true => match sliceT P t with
      | some (e, z, _) => match lstOf M j with
        | some L2 => match Nat.beq z L2.k.sz with
          | true => match x with
            | .c (.v (.slice none 0 0)) => some (none, L2, e)
            | .c (.sl i) => match Nat.beq i j with
              | true => none
              | false => match nth M i with
                | some (.grow L f) => match Nat.beq f e with
                  | true => match L2.k.cast L.k L2.l with
                    | some l2 => some (some i, ⟨L.k, L.l ++ l2⟩, e)
                    | none => none
                  | false => none
                | some .nilr => some (none, L2, e)
                | _ => none
            | _ => none
          | false => none
        | none => none
      | none => none
    | false => none
  | _, _ => none
def bound (s : St) (d : Int) : Option Operand → Option Int
  | none => some d
  | some x => match opnd s x with | some a => avInt a | none => none
/-- A part of a list. -/
def sliceK (s : St) (t : TypeId) (x : AV) (low high : Option Operand) (k : St → AV → Tr ρ) : Tr ρ :=
  match x with
  | .c (.sl i) => match lstOf s.mem i with
    | some L => match sliceT P t with
      | some (_, z, _) => match Nat.beq z L.k.sz with
        | true => match bound s 0 low with
          | some lo => match bound s L.l.length high with
            | some hi => .br (decide (0 ≤ lo ∧ lo ≤ hi ∧ hi ≤ (L.l.length : Int)))
              (k { s with mem := setNth s.mem i (.list L) ++ [.list ⟨L.k, (L.l.take hi.toNat).drop lo.toNat⟩] } (.c (.sl s.mem.length))) .fail
            | none => .fail
          | none => .fail
        | false => .fail
      | none => .fail
    | none => .fail
  | _ => .fail
def rowsOff (M : List Row) : Option Nat → List Row
  | some i => setNth M i .dead
  | none => M

/-- All operations. -/
def evOp (s : St) (dst : Option Nat) (op : Op) (ty : TypeId) (k : St → Tr ρ) : Tr ρ :=
  match op with
  | .alloc t => match zeroT P t with
    | some z => outQ { s with mem := s.mem ++ [.box (z.map CV.v)] } dst k (.c (.own s.mem.length 0))
    | none => .fail
  | .box _ x => match opnd s x with
    | some a => match a.cells with
      | some cs => outQ { s with mem := s.mem ++ [.box cs] } dst k (.c (.own s.mem.length 0))
      | none => .fail
    | none => .fail
  | .store t a x => match opnd s a with
    | some a => match opnd s x with
      | some v => storeK P s t a v fun s => outQ s dst k (.c (.v undef))
      | none => .fail
    | none => .fail
  | .call { callee := .value f, args, .. } => match callee s f with
    | some (f, caps) => match opnds s args.toList with
      | some l => match E f (l ++ caps) s.mem with
        | some (.pure _ x val) => .bind x fun t => outQ s dst k (AV.ofVal (val t))
        | some (.pre b _ x val) => .br b (.bind x fun t => outQ s dst k (AV.ofVal (val t))) .fail
        | some (.rows b _ x av rows) => .br b (.bind x fun t => outQ { s with mem := s.mem ++ rows t } dst k (av s.mem.length t)) .fail
        | some (.tree T) => T.andK fun y => outQ { s with mem := y.2 } dst k y.1
        | none => match extF P f (l ++ caps) with
          | some o => .get o fun n => outQ s dst k (.c (.v (.float .f64 n)))
          | none => .fail
      | none => .fail
    | none => .fail
  | .buildSlice t len parts => match buildSliceA P s t len parts.toList with
    | some (L, e) => outQ { s with mem := s.mem ++ [.grow L e] } dst k (.c (.sl s.mem.length))
    | none => .fail
  | .call { callee := .builtin .append, args, argTypes } => match opnds s args.toList with
    | some l => match appendA P s.mem argTypes.toList l with
      | some (i, L, e) => .br (lenOk L.l) (outQ { s with mem := rowsOff s.mem i ++ [.grow L e] } dst k (.c (.sl s.mem.length))) .fail
      | none => .fail
    | none => .fail
  | .slice t x low high none => match opnd s x with
    | some a => match strCut P s t a low high with
      | some (u, n) => .br (decide (0 ≤ n ∧ n ≤ (u.size : Int))) (outQ s dst k (.c (.v (.string (u.extract n.toNat u.size))))) .fail
      | none => sliceK P s t a low high fun s r => outQ s dst k r
    | none => .fail
  | op => evQuiet P E s op ty (outQ s dst k)

/-- A guard's look. -/
def guardK (ops : List Oper) (s : St) (g : Option (Nat × Bool)) (run skip : St → Tr ρ) : Tr ρ :=
  match g with
  | none => run s
  | some (j, want) => match nth ops j with
    | some o => match o.dst with
      | some d => match look s.tmps d with
        | some (.c (.b x)) => match want, x with
          | true, true => run s
          | false, false => run s
          | _, _ => skip s
        | some (.c (.v (.bool x))) => match want with
          | true => .br x (run (s.put d (.c (.b true)))) (skip (s.put d (.c (.b false))))
          | false => .br x (skip (s.put d (.c (.b true)))) (run (s.put d (.c (.b false))))
        | some (.c (.v (.tuple _))) => skip s
        | _ => .fail
      | none => .fail
    | none => .fail

def skipK (s : St) (dst : Option Nat) (k : St → Tr ρ) : Tr ρ :=
  match dst with
  | some d => match Nat.blt d s.n with | true => k (s.put d (.c (.v undef))) | false => .fail
  | none => k s

def evOps (ops : List Oper) : List Oper → St → (St → Tr ρ) → Tr ρ
  | [], s, k => k s
  | o :: r, s, k => guardK ops s o.guard (fun s => evOp P E s o.dst o.op o.type fun s => evOps ops r s k) (fun s => skipK s o.dst fun s => evOps ops r s k)

/-! Regions in whatever order -/

/-- What an operation did to the rows. -/
inductive Did where
  | none
  | fresh (m : Nat) (r : Row)
  | store (b : Nat) (q : List CV)

/-- An operation's account: its value, what it did, which boxes it touched. -/
structure Acc where
  res : AV
  did : Did
  touch : List Nat

def Did.app : Did → List Row → List Row
  | .none, M => M
  | .fresh m r, M => setNth M m r
  | .store b q, M => setNth M b (.box q)
def Did.row : Did → Option Nat
  | .none => Option.none
  | .fresh m _ => some m
  | .store b _ => some b

def memNat (x : Nat) : List Nat → Bool
  | [] => false
  | y :: r => match Nat.beq x y with | true => true | false => memNat x r

def CV.rowsOf : CV → List Nat
  | .own i _ => [i]
  | .el i _ _ _ => [i]
  | .sl i => [i]
  | _ => []
def CV.rowsOfs : List CV → List Nat
  | [] => []
  | x :: r => x.rowsOf ++ CV.rowsOfs r
def AV.rowsOf : AV → List Nat
  | .c x => x.rowsOf
  | .agg l => CV.rowsOfs l
  | .clo _ l => CV.rowsOfs l
  | .tup2 a b => a.rowsOf ++ b.rowsOf
  | .tup3 a b d => a.rowsOf ++ (b.rowsOf ++ d.rowsOf)
def rowsOp (s : St) (x : Operand) : List Nat :=
  match opnd s x with
  | some a => a.rowsOf
  | none => []
def rowsOps (s : St) : List Operand → List Nat
  | [] => []
  | x :: r => rowsOp s x ++ rowsOps s r
/-- Which rows an operation looks at or changes. -/
def touchOf (s : St) : Op → List Nat
  | .load _ a => rowsOp s a
  | .store _ a _ => rowsOp s a
  | .indexAddr _ x _ => rowsOp s x
  | .convert _ _ x => rowsOp s x
  | .slice _ x _ _ _ => rowsOp s x
  | .call { callee := .value f, args, .. } => rowsOp s f ++ rowsOps s args.toList
  | .call { callee := .builtin _, args, .. } => rowsOps s args.toList
  | _ => []
/-- Rows that an operation in a region may make or change: seen by those alone that touch them. -/
def Kd.hid : Kd → Bool
  | .surf => true
  | _ => false
def Row.hid : Row → Bool
  | .box _ => true
  | .grow _ _ => true
  | .list L => L.k.hid
  | _ => false
def restM (keep : List Nat) : Nat → List Row → List Row
  | _, [] => []
  | i, .box cs :: r => (match memNat i keep with | true => .box cs | false => .dead) :: restM keep (i + 1) r
  | i, .grow L e :: r => (match memNat i keep with | true => .grow L e | false => .dead) :: restM keep (i + 1) r
  | i, .list L :: r => (match L.k.hid with | true => (match memNat i keep with | true => .list L | false => .dead) | false => .list L) :: restM keep (i + 1) r
  | i, x :: r => x :: restM keep (i + 1) r
def restT (ts : List Nat) : List (Nat × AV) → List (Nat × AV)
  | [] => []
  | (t, x) :: r => match memNat t ts with | true => (t, x) :: restT ts r | false => restT ts r
/-- What an operation may look at. -/
def looks (ops : List Oper) (o : Oper) : List Nat :=
  (o.op.operands.toList.filterMap fun | .tmp t => some t | _ => none) ++
  (match o.guard with
   | some (g, _) => match nth ops g with
     | some q => match q.dst with | some d => [d] | none => []
     | none => []
   | none => [])
def rest (ops : List Oper) (s : St) (o : Oper) : St := { s with tmps := restT (looks ops o) s.tmps, mem := restM (touchOf s o.op) 0 s.mem }

def isFresh : Op → Bool
  | .alloc _ | .box _ _ | .buildSlice _ _ _ | .slice _ _ _ _ _ => true
  | .call { callee := .value _, .. } => true
  | _ => false
def isCut : Op → Bool
  | .call { callee := .builtin .append, .. } => true
  | _ => false
def takeL {α : Type u} : Nat → List α → List α
  | 0, _ => []
  | _ + 1, [] => []
  | n + 1, a :: r => a :: takeL n r
def freshN : List Oper → Nat
  | [] => 0
  | o :: r => match isFresh o.op with | true => freshN r + 1 | false => freshN r
def deads : Nat → List Row
  | 0 => []
  | n + 1 => .dead :: deads n

/-- One operation, looked at alone: its account goes on. -/
def accK (ops : List Oper) (s : St) (m : Nat) (o : Oper) (k : Acc → Tr ρ) : Tr ρ :=
  match o.op with
  | .alloc t => match zeroT P t with
    | some z => k ⟨.c (.own m 0), .fresh m (.box (z.map CV.v)), touchOf s o.op⟩
    | none => .fail
  | .box _ x => match opnd (rest ops s o) x with
    | some a => match a.cells with
      | some cs => k ⟨.c (.own m 0), .fresh m (.box cs), touchOf s o.op⟩
      | none => .fail
    | none => .fail
  | .buildSlice t len parts => match buildSliceA P (rest ops s o) t len parts.toList with
    | some (L, e) => k ⟨.c (.sl m), .fresh m (.grow L e), touchOf s o.op⟩
    | none => .fail
  | .call { callee := .value f, args, .. } => match callee (rest ops s o) f with
    | some (g, caps) => match opnds (rest ops s o) args.toList with
      | some l => match E g (l ++ caps) (rest ops s o).mem with
        | some (.rows b _ x av rows) => .br b (.bind x fun t => match rows t with
          | [.grow L e] => k ⟨av m t, .fresh m (.grow L e), touchOf s o.op⟩
          | _ => .fail) .fail
        | _ => evQuiet P E (rest ops s o) o.op o.type fun y => k ⟨y, .none, touchOf s o.op⟩
      | none => .fail
    | none => .fail
  | .store t a x => match opnd (rest ops s o) a with
    | some a => match opnd (rest ops s o) x with
      | some v => match storeA P (rest ops s o).mem t a v with
        | some (i, q) => k ⟨.c (.v undef), .store i q, touchOf s o.op⟩
        | none => .fail
      | none => .fail
    | none => .fail
  | .slice t x low high none => match opnd (rest ops s o) x with
    | some (.c (.sl i)) => match nth (rest ops s o).mem i with
      | some (.list L) => match L.k.hid with
        | true => match sliceT P t with
          | some (_, z, _) => match Nat.beq z L.k.sz with
            | true => match bound (rest ops s o) 0 low with
              | some lo => match bound (rest ops s o) L.l.length high with
                | some hi => .br (decide (0 ≤ lo ∧ lo ≤ hi ∧ hi ≤ (L.l.length : Int)))
                  (k ⟨.c (.sl m), .fresh m (.list ⟨L.k, (L.l.take hi.toNat).drop lo.toNat⟩), touchOf s o.op⟩) .fail
                | none => .fail
              | none => .fail
            | false => .fail
          | none => .fail
        | false => .fail
      | _ => .fail
    | _ => .fail
  | op => evQuiet P E (rest ops s o) op o.type fun y => k ⟨y, .none, touchOf s o.op⟩
/-- Before a region that cuts slices, lists that may grow are lists. -/
def isSlice : Op → Bool
  | .slice _ _ _ _ _ => true
  | _ => false
def anySlice : List Oper → Bool
  | [] => false
  | o :: r => match isSlice o.op with | true => true | false => anySlice r
def softM : List Row → List Row
  | [] => []
  | .grow L e :: r => (match L.k.hid with | true => .list L | false => .grow L e) :: softM r
  | x :: r => x :: softM r
def soft (ops : List Oper) (s : St) : St := match anySlice ops with | true => { s with mem := softM s.mem } | false => s

def evOpsD (ops : List Oper) : List Oper → Nat → St → List Acc → (St → List Acc → Tr ρ) → Tr ρ
  | [], _, s, acc, k => k s acc
  | o :: r, m, s, acc, k =>
    guardK ops s o.guard
      (fun s => accK P E ops s m o fun x => evOpsD ops r (match isFresh o.op with | true => m + 1 | false => m)
        (match o.dst with | some d => { s with mem := x.did.app s.mem }.put d x.res | none => { s with mem := x.did.app s.mem }) (acc ++ [x]) k)
      (fun s => evOpsD ops r (match isFresh o.op with | true => m + 1 | false => m)
        (match o.dst with | some d => s.put d (.c (.v undef)) | none => s) (acc ++ [⟨.c (.v undef), .none, []⟩]) k)

def waitsOn (o : Oper) (j : Nat) : Bool := o.after.any fun e => Region.binds .any e && Nat.beq e.on j
def edgesOf (o : Oper) : List Nat := (o.after.toList.filter fun e => Region.binds .any e).map fun e => e.on
/-- Does the wait go on to 'j', through whatever lies between? -/
def ancJ (ops : List Oper) (j : Nat) : Nat → List Nat → Bool
  | 0, _ => false
  | k + 1, R => match memNat k R with
    | true => match Nat.beq k j with
      | true => true
      | false => ancJ ops j k ((match nth ops k with | some o => edgesOf o | none => []) ++ R)
    | false => ancJ ops j k R
/-- Two operations come in the text's order, whatever the schedule. -/
def ordB (ops : List Oper) (i : Nat) (oi : Oper) (j : Nat) (oj : Oper) : Bool :=
  match Nat.blt j i with
  | true => match waitsOn oi j with | true => true | false => ancJ ops j i (edgesOf oi)
  | false => match waitsOn oj i with | true => true | false => ancJ ops i j (edgesOf oj)

def pairB (ops : List Oper) (i : Nat) (oi : Oper) (xi : Acc) (j : Nat) (oj : Oper) (xj : Acc) : Bool :=
  match Nat.beq i j with
  | true => true
  | false =>
    (match oj.dst with
     | some d => (match memNat d (looks ops oi) with | true => ordB ops i oi j oj | false => true) &&
        (match oi.dst with | some e => !Nat.beq d e | none => true)
     | none => true) &&
    (match xj.did.row with
     | some b => (match memNat b xi.touch with | true => ordB ops i oi j oj | false => true) &&
        (match xi.did, xj.did with
         | .store b _, .store c _ => !Nat.beq b c
         | .fresh b _, .fresh c _ => !Nat.beq b c
         | .store b _, .fresh c _ => (match Nat.beq b c with | true => Nat.blt j i && waitsOn oi j | false => true)
         | _, _ => true)
     | none => true)
def rowB (base : Nat) (M : List Row) (x : Acc) : Bool :=
  match x.did with
  | .none => true
  | .fresh m _ => match nth M m with | some .dead => Nat.ble base m | _ => false
  | .store b _ => memNat b x.touch && (match nth M b with | some (.box _) => true | some .dead => true | _ => false)
def dstB (n : Nat) (o : Oper) : Bool := match o.dst with | some d => Nat.blt d n | none => true
def edgesB (i : Nat) (o : Oper) : Bool := o.after.all fun e => !Region.binds .any e || Nat.blt e.on i
def allI {α : Type} (f : Nat → α → Bool) : Nat → List α → Bool
  | _, [] => true
  | i, a :: r => match f i a with | true => allI f (i + 1) r | false => false
def zipA : List Oper → List Acc → List (Oper × Acc)
  | o :: r, x :: q => (o, x) :: zipA r q
  | _, _ => []
/-- All that comes before in the text comes before in every order. -/
def ancB (ops : List Oper) : Nat → List Nat → Bool
  | 0, _ => true
  | i + 1, R => match memNat i R with
    | true => ancB ops i ((match nth ops i with | some o => edgesOf o | none => []) ++ R)
    | false => false
def tailB (ops : List Oper) : Nat → List Oper → Bool
  | _, [] => true
  | j, o :: r => match edgesB j o with
    | true => match ancB ops j (edgesOf o) with
      | true => tailB ops (j + 1) r
      | false => false
    | false => false
/-- Where the part of a region begins that comes in the text's order. -/
def cutGo (ops : List Oper) : Nat → Nat
  | 0 => 0
  | j + 1 => match nth ops j with
    | some o => match edgesB j o with
      | true => match ancB ops j (edgesOf o) with
        | true => cutGo ops j
        | false => j + 1
      | false => j + 1
    | none => j + 1
def cutAt (ops : List Oper) : Nat := cutGo ops ops.length
def checkD (n base : Nat) (M : List Row) (ops : List Oper) (acc : List Acc) : Bool :=
  let z := zipA ops acc
  allI (fun i p => dstB n p.1 && edgesB i p.1 && rowB base M p.2 && allI (fun j q => pairB ops i p.1 p.2 j q.1 q.2) 0 z) 0 z

def condK (s : St) (c : Operand) (t e : St → Tr ρ) : Tr ρ :=
  match c with
  | .tmp d => match look s.tmps d with
    | some (.c (.b true)) => t s
    | some (.c (.b false)) => e s
    | some (.c (.v (.bool x))) => .br x (t (s.put d (.c (.b true)))) (e (s.put d (.c (.b false))))
    | _ => .fail
  | .const (.bool true) => t s
  | .const (.bool false) => e s
  | _ => .fail

/-! Loops that have a law of their own -/

/-- Which region a piece of code begins with. -/
def keyOf : Code → Option Nat
  | .region id _ _ => some id
  | .seq a b => match keyOf a with | some k => some k | none => keyOf b
  | .block _ b => keyOf b
  | .loop b => keyOf b
  | .scope b => keyOf b
  | _ => none
/-- The bodies of all loops. -/
def loops : Code → List Code
  | .seq a b => loops a ++ loops b
  | .cond _ a b => loops a ++ loops b
  | .block _ b => loops b
  | .loop b => b :: loops b
  | .scope b => loops b
  | _ => []

/-- A loop's law: of what a state holds at its beginning, it comes to what it yields. -/
structure LoopR : Type 1 where
  X : Type
  Y : Type
  ts : List Nat
  dec : St → Option X
  run : X → Option Y
  out : Y → Exit × St
  outK : (ρ : Type) → Y → (Exit → St → Tr ρ) → Tr ρ
  outK_den : ∀ ρ y k, (outK ρ y k).den = (k (out y).1 (out y).2).den
abbrev Laws := Nat → Option LoopR

/-! A state made plain: its temporaries, and the rows that they come to, in the order in which they come -/

def idx (i : Nat) : List Nat → Nat → Option Nat
  | [], _ => none
  | a :: r, k => match Nat.beq a i with | true => some k | false => idx i r (k + 1)
def reach (m : List Nat) (i : Nat) : Nat × List Nat :=
  match idx i m 0 with
  | some j => (j, m)
  | none => (m.length, m ++ [i])
def CV.ren (m : List Nat) : CV → CV × List Nat
  | .k n => (.v (.int .i64 n), m)
  | .b x => (.v (.bool x), m)
  | .v x => (.v x, m)
  | .own i off => match reach m i with | (j, m) => (.own j off, m)
  | .el i e sz off => match reach m i with | (j, m) => (.el j e sz off, m)
  | .sl i => match reach m i with | (j, m) => (.sl j, m)
def CV.rens (m : List Nat) : List CV → List CV × List Nat
  | [] => ([], m)
  | x :: r => match x.ren m with
    | (y, m) => match CV.rens m r with
      | (l, m) => (y :: l, m)
def AV.ren (m : List Nat) : AV → AV × List Nat
  | .c x => match x.ren m with | (y, m) => (.c y, m)
  | .agg l => match CV.rens m l with | (l, m) => (.agg l, m)
  | .clo f l => match CV.rens m l with | (l, m) => (.clo f l, m)
  | .tup2 a b => match a.ren m with
    | (a, m) => match b.ren m with
      | (b, m) => (.tup2 a b, m)
  | .tup3 a b d => match a.ren m with
    | (a, m) => match b.ren m with
      | (b, m) => match d.ren m with
        | (d, m) => (.tup3 a b d, m)
def normT (l : List (Nat × AV)) (m : List Nat) : List Nat → Option (List (Nat × AV) × List Nat)
  | [] => some ([], m)
  | t :: r => match look l t with
    | some x => match x.ren m with
      | (y, m) => match normT l m r with
        | some (q, m) => some ((t, y) :: q, m)
        | none => none
    | none => none
def normM (M : List Row) : Nat → Nat → List Nat → Option (List Row × List Nat)
  | 0, _, _ => none
  | n + 1, k, m => match nth m k with
    | none => some ([], m)
    | some i => match nth M i with
      | some (.box cs) => match CV.rens m cs with
        | (cs, m) => match normM M n (k + 1) m with
          | some (q, m) => some (.box cs :: q, m)
          | none => none
      | some (.ro cs) => match CV.rens m cs with
        | (cs, m) => match normM M n (k + 1) m with
          | some (q, m) => some (.ro cs :: q, m)
          | none => none
      | some r => match normM M n (k + 1) m with
        | some (q, m) => some (r :: q, m)
        | none => none
      | none => none
def norm0 (ts : List Nat) (s : St) : Option St :=
  match normT s.tmps [] ts with
  | some (t, m) => match normM s.mem (s.mem.length + 1) 0 m with
    | some (q, _) => some { n := s.n, tmps := t, mem := q }
    | none => none
  | none => none
/-- Slices that are nil become rows. -/
def CV.up (n : Nat) : CV → CV × Nat
  | .v (.slice none 0 0) => (.sl n, n + 1)
  | x => (x, n)
def CV.ups (n : Nat) : List CV → List CV × Nat
  | [] => ([], n)
  | x :: r => match x.up n with
    | (y, n) => match CV.ups n r with
      | (l, n) => (y :: l, n)
def AV.up (n : Nat) : AV → AV × Nat
  | .c x => match x.up n with | (y, n) => (.c y, n)
  | .agg l => match CV.ups n l with | (l, n) => (.agg l, n)
  | .clo f l => match CV.ups n l with | (l, n) => (.clo f l, n)
  | x => (x, n)
def upT (l : List (Nat × AV)) (n : Nat) : List Nat → Option (List (Nat × AV) × Nat)
  | [] => some ([], n)
  | t :: r => match look l t with
    | some x => match x.up n with
      | (y, n) => match upT l n r with
        | some (q, n) => some ((t, y) :: q, n)
        | none => none
    | none => none
def upM (n : Nat) : List Row → List Row × Nat
  | [] => ([], n)
  | .box cs :: r => match CV.ups n cs with | (cs, n) => match upM n r with | (q, n) => (.box cs :: q, n)
  | .ro cs :: r => match CV.ups n cs with | (cs, n) => match upM n r with | (q, n) => (.ro cs :: q, n)
  | x :: r => match upM n r with | (q, n) => (x :: q, n)
def nilrs : Nat → List Row
  | 0 => []
  | n + 1 => .nilr :: nilrs n
def up (ts : List Nat) (s : St) : Option St :=
  match upT s.tmps s.mem.length ts with
  | some (t, n) => match upM n s.mem with
    | (M, n') => some { n := s.n, tmps := t, mem := M ++ nilrs (n' - s.mem.length) }
  | none => none
def norm (ts : List Nat) (s : St) : Option St :=
  match up ts s with
  | some s1 => norm0 ts s1
  | none => none

def lawOf (LE : Laws) (b : Code) : Option LoopR := match keyOf b with | some i => LE i | none => none
variable (LE : Laws)

/-- Code, in a scope that jumps may go back to ('sc'). -/
def ev (n : Nat) (sc : Option Code) (c : Code) (s : St) (k : Exit → St → Tr ρ) : Tr ρ :=
  match n with
  | 0 => .fail
  | n + 1 => match sc with
    | some body => ev n none c s fun e s => match e with
      | .goto l => match findLabel body l with
        | some rest => ev n (some body) rest s k
        | none => k (.goto l) s
      | e => k e s
    | none => match c with
      | .skip => k .normal s
      | .label _ => k .normal s
      | .region _ ops false => evOps P E ops.toList ops.toList s (k .normal)
      | .region _ ops true => match P.follows .mixedOrders with
        | true => evOpsD P E ops.toList (takeL (cutAt ops.toList) ops.toList) (soft ops.toList s).mem.length { soft ops.toList s with mem := (soft ops.toList s).mem ++ deads (freshN (takeL (cutAt ops.toList) ops.toList)) } [] fun s' acc =>
          match checkD (soft ops.toList s).n (soft ops.toList s).mem.length ((soft ops.toList s).mem ++ deads (freshN (takeL (cutAt ops.toList) ops.toList))) ops.toList acc with
          | true => match tailB ops.toList (cutAt ops.toList) (dropN (cutAt ops.toList) ops.toList) with
            | true => evOps P E ops.toList (dropN (cutAt ops.toList) ops.toList) s' (k .normal)
            | false => .fail
          | false => .fail
        | false => .fail
      | .seq a b => ev n none a s fun e s => match e with
        | .normal => ev n none b s k
        | e => k e s
      | .cond c t e => condK s c (fun s => ev n none t s k) (fun s => ev n none e s k)
      | .block id b => ev n none b s fun e s => match e with
        | .exit j => match Nat.beq j id with
          | true => k .normal s
          | false => k (.exit j) s
        | e => k e s
      | .loop b => match lawOf LE b with
        | some R => match norm R.ts s with
          | some s1 => match R.dec s1 with
            | some x => .get (R.run x) fun y => R.outK ρ y k
            | none => .fail
          | none => .fail
        | none => ev n none b s fun e s => match e with
          | .normal => ev n none (.loop b) s k
          | e => k e s
      | .scope b => ev n (some b) b s k
      | .exit i => k (.exit i) s
      | .ret => k .ret s
      | .goto l => k (.goto l) s
      | _ => .fail

/-- What the result variables hold. -/
def res1 (s : St) : ResultVar → Option AV
  | .tmp t => look s.tmps t
  | .cell a t => match look s.tmps a with
    | some (.c (.own i off)) => match nth s.mem i with
      | some (.box cs) => readCells P t cs off
      | _ => none
    | _ => none
def resV (s : St) : List ResultVar → Option AV
  | [a] => res1 P s a
  | [a, b] => match res1 P s a with
    | some x => match res1 P s b with
      | some y => some (.tup2 x y)
      | none => none
    | none => none
  | [a, b, c] => match res1 P s a with
    | some x => match res1 P s b with
      | some y => match res1 P s c with
        | some z => some (.tup3 x y z)
        | none => none
      | none => none
    | none => none
  | _ => none

def argTmps : Nat → List AV → List (Nat × AV)
  | _, [] => []
  | i, a :: r => (i, a) :: argTmps (i + 1) r

def endK (fn : Func) (dec : AV → Option ρ) (e : Exit) (s : St) : Tr ρ :=
  match e with
  | .ret => match resV P s fn.results.toList with
    | some a => match dec a with
      | some r => .ret r
      | none => .fail
    | none => .fail
  | .normal => match resV P s fn.results.toList with
    | some a => match dec a with
      | some r => .ret r
      | none => .fail
    | none => .fail
  | _ => .fail

/-- Results that hold lists: the state of the results alone, made plain. -/
def parts : AV → List AV
  | .tup2 a b => [a, b]
  | .tup3 a b c => [a, b, c]
  | a => [a]
def endR (fn : Func) (ts : List Nat) (dec : St → Option ρ) (e : Exit) (s : St) : Tr ρ :=
  match (match e with | .ret => true | .normal => true | _ => false) with
  | true => match resV P s fn.results.toList with
    | some a => match Nat.beq (parts a).length ts.length with
      | true => match norm ts { n := (parts a).length, tmps := argTmps 0 (parts a), mem := s.mem } with
        | some s1 => match dec s1 with
          | some r => .ret r
          | none => .fail
        | none => .fail
      | false => .fail
    | none => .fail
  | false => .fail
def evFnR (n : Nat) (fn : Func) (args : List AV) (mem : List Row) (ts : List Nat) (dec : St → Option ρ) : Tr ρ :=
  match fn.body with
  | some c => ev P E LE n none c { n := fn.ntmps, tmps := argTmps 0 args, mem := mem } (endR P fn ts dec)
  | none => .fail

/-- A callee's body, run in the caller's rows. -/
def endT (fn : Func) (e : Exit) (s : St) : Tr (AV × List Row) :=
  match (match e with | .ret => true | .normal => true | _ => false) with
  | true => match fn.results.toList with
    | [] => .ret (.c (.v (.tuple #[])), s.mem)
    | _ => match resV P s fn.results.toList with
      | some a => .ret (a, s.mem)
      | none => .fail
  | false => .fail
def inl (n : Nat) (fn : Func) (args : List AV) (M : List Row) : Tr (AV × List Row) :=
  match fn.body with
  | some c => match Nat.ble args.length fn.ntmps with
    | true => ev P E (fun _ => none) n none c { n := fn.ntmps, tmps := argTmps 0 args, mem := M } (endT P fn)
    | false => .fail
  | none => .fail

/-- A whole call. -/
def evFn (n : Nat) (fn : Func) (args : List AV) (mem : List Row) (dec : AV → Option ρ) : Tr ρ :=
  match fn.body with
  | some c => ev P E LE n none c { n := fn.ntmps, tmps := argTmps 0 args, mem := mem } (endK P fn dec)
  | none => .fail
end
end Go.Proofs.YtlbmjajjldfigaaGreat.Ev
