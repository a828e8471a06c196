/- An abstract machine over the model, proved sound once: by-value states, weakest preconditions, contracts of functions (part 0).
   Conditions: none. -/
import Derived.Orders
import Derived.Below
import Derived.WalkKit
import Derived.Laws.CopyRow
import Derived.Laws.Cells
import Derived.Laws.AppendOwn
import Derived.Laws.IdiomStrings
set_option linter.unusedVariables false
set_option linter.unusedSimpArgs false
namespace Go.Proofs.YtjnpnpkjmlihdaaDoor.Ab
open Go

/-- One cell of memory, as far as it is known. -/
inductive Cell where
  | u
  | sk
  | int (k : IntKind) (n : Int)
  | bool (b : Bool)
  | str (s : ByteArray)
  | ro (sz n : Nat) (get : Nat → Nat → Cell)
  | fr (sz n : Nat) (get : Nat → Nat → Cell)
  | own (k n : Nat)
  | own1 (k i j n : Nat)
  | box (s o : Nat)
  | elt (k i o : Nat)
  | elt1 (k i j i2 o : Nat)
  | pro (m : Nat) (get : Nat → Cell)
  | fn (f : Nat) (bs : List Nat)
  | fnp (f m : Nat) (sz : Nat → Nat) (get : Nat → Nat → Cell)
  | emp
  | pv (φ : Value → Prop)
  | pb (k n : Nat)
  | fnx (f k n i m : Nat) (sz : Nat → Nat) (get : Nat → Nat → Cell)

inductive V where
  | one (c : Cell)
  | agg (cs : List Cell)

inductive T where
  | v (x : V)
  | tup (xs : List V)

abbrev T.u : T := .v (.one .u)

/-- a row of the frame's own: `deep`: its elements may hold rows of their own -/
structure Row where
  deep : Bool
  sz : Nat
  n : Nat
  get : Nat → Nat → Cell

def lk {α : Type} : List (Nat × α) → Nat → Option α
  | [], _ => none
  | (k, x) :: l, s => bif Nat.beq k s then some x else lk l s
def up {α : Type} : List (Nat × α) → Nat → α → List (Nat × α)
  | [], _, _ => []
  | (k, y) :: l, s, x => bif Nat.beq k s then (k, x) :: l else (k, y) :: up l s x
def rm {α : Type} : List (Nat × α) → Nat → List (Nat × α)
  | [], _ => []
  | (k, y) :: l, s => bif Nat.beq k s then rm l s else (k, y) :: rm l s

structure St where
  tm : List T
  bx : List (Nat × List Cell)
  ob : List (Nat × Row)

def getL : List T → Nat → T
  | [], _ => .u
  | t :: _, 0 => t
  | _ :: l, n + 1 => getL l n
def setL : List T → Nat → T → List T
  | [], _, _ => []
  | _ :: l, 0, x => x :: l
  | t :: l, n + 1, x => t :: setL l n x

def St.put (st : St) (d : Option Nat) (x : T) : St :=
  match d with
  | some s => { st with tm := setL st.tm s x }
  | none => st

/-- operands -/
inductive CA where
  | t (s : Nat)
  | k (c : T)
  | g (n : Nat)

inductive COp where
  | mv (x : CA)
  | alloc (z : List Cell)
  | box (x : CA)
  | build (z : List Cell) (parts : List (Nat × Nat × CA))
  | bslice (deep : Bool) (sz : Nat) (parts : List CA)
  | bsl1 (x : CA)
  | nilO (deep : Bool) (sz j : Nat)
  | ld (n : Nat) (agg : Bool) (x : CA)
  | st (n : Nat) (x y : CA)
  | bin (op : BinOp) (x y : CA)
  | eqB (neq : Bool) (x y : CA)
  | neg (x : CA)
  | not (x : CA)
  | conv (k : IntKind) (x : CA)
  | mkS (deep : Bool) (sz bytes : Nat) (z : List Cell) (x : CA)
  | slc (sz : Nat) (x : CA) (lo hi : Option CA)
  | slcO (sz : Nat) (x : CA) (lo hi : Option CA)
  | slcS (x : CA) (lo hi : Option CA)
  | fa (off : Nat) (x : CA)
  | fld (off sz : Nat) (agg : Bool) (x : CA)
  | ia (sz : Nat) (x i : CA)
  | iaA (len sz : Nat) (x i : CA)
  | idxS (x i : CA)
  | ext (j : Nat) (x : CA)
  | len (x : CA)
  | lenS (x : CA)
  | app (sz bytes : Nat) (x y : CA)
  | mx (x y : CA)
  | mn (x y : CA)
  | call (ref : Bool) (f : Nat) (xs : List CA)
  | callv (x : CA) (xs : List CA)
  | mkf (f : Nat) (xs : List CA)
  | pick (c x y : CA)
  | bts (x : CA)
  | ncx (x : CA)
  | isn (x : CA)
  | dead
  | emp
  | buildO (z : List Cell) (off sz : Nat) (parts : List (Nat × Nat × CA))
  | half (x : CA)

def optA : Option CA → List CA
  | none => []
  | some x => [x]
def COp.args : COp → List CA
  | .alloc _ | .nilO _ _ _ | .dead | .emp => []
  | .mv x | .box x | .ld _ _ x | .neg x | .not x | .conv _ x | .mkS _ _ _ _ x | .fa _ x | .fld _ _ _ x | .ext _ x | .len x | .lenS x | .bsl1 x | .bts x | .ncx x | .isn x | .half x => [x]
  | .st _ x y | .bin _ x y | .eqB _ x y | .ia _ x y | .iaA _ _ x y | .idxS x y | .app _ _ x y | .mx x y | .mn x y => [x, y]
  | .build _ ps => ps.map fun p => p.2.2
  | .buildO _ _ _ ps => ps.map fun p => p.2.2
  | .bslice _ _ ps => ps
  | .slc _ x l h | .slcO _ x l h | .slcS x l h => x :: (optA l ++ optA h)
  | .call _ _ xs | .mkf _ xs => xs
  | .callv x xs => x :: xs
  | .pick c x y => [c, x, y]

structure CI where
  dst : Option Nat
  op : COp
  guard : Option (Nat × Bool)

inductive CC where
  | skip
  | reg (is : List CI)
  | drw (is : List CI) (tail : List CI)
  | seq (a b : CC)
  | cond (x : CA) (a b : CC)
  | block (id : Nat) (a : CC)
  | loop (a : CC)
  | exit (id : Nat)
  | ret

inductive Ex where
  | normal
  | exit (id : Nat)
  | ret

/-- what a result slot is -/
inductive RV where
  | tmp (t : Nat)
  | cell (t n : Nat) (agg : Bool)

structure CF where
  np : Nat
  ntmps : Nat
  results : List RV
  body : CC

/-! ### cells and values -/
def cellsFrom (g : Nat → Cell) : Nat → Nat → List Cell
  | 0, _ => []
  | n + 1, o => g o :: cellsFrom g n (o + 1)
def hd : List Cell → Cell
  | [] => .u
  | c :: _ => c
def mk (agg : Bool) (cs : List Cell) : V := bif agg then .agg cs else .one (hd cs)
def V.cells : V → List Cell
  | .one c => [c]
  | .agg cs => cs
def nth : List Cell → Nat → Cell
  | [], _ => .u
  | c :: _, 0 => c
  | _ :: l, n + 1 => nth l n
/-- write `ys` into `cs` from place `o` on -/
def splice : List Cell → Nat → List Cell → List Cell
  | [], _, _ => []
  | c :: cs, 0, [] => c :: cs
  | _ :: cs, 0, y :: ys => y :: splice cs 0 ys
  | c :: cs, o + 1, ys => c :: splice cs o ys

/-- a cell of an element of a row, as it is read: a row in it is told by its place -/
def inRow (k i j : Nat) : Cell → Cell
  | .fr _ n _ => .own1 k i j n
  | c => c
def Cell.plain : Cell → Bool
  | .int .. | .bool .. | .str .. | .ro .. => true
  | _ => false
def Cell.isKey (k : Nat) : Cell → Bool
  | .own k' _ | .own1 k' .. | .elt k' .. | .elt1 k' .. | .pb k' _ | .fnx _ k' .. => Nat.beq k' k
  | _ => false
def Cell.isDeep (k : Nat) : Cell → Bool
  | .own1 k' .. | .elt1 k' .. => Nat.beq k' k
  | _ => false
def killC (p : Cell → Bool) (c : Cell) : Cell := bif p c then .u else c
def killL (p : Cell → Bool) : List Cell → List Cell
  | [] => []
  | c :: l => killC p c :: killL p l
def killV (p : Cell → Bool) : V → V
  | .one c => .one (killC p c)
  | .agg cs => .agg (killL p cs)
def killVs (p : Cell → Bool) : List V → List V
  | [] => []
  | x :: l => killV p x :: killVs p l
def killT (p : Cell → Bool) : T → T
  | .v x => .v (killV p x)
  | .tup xs => .tup (killVs p xs)
def killTs (p : Cell → Bool) : List T → List T
  | [] => []
  | x :: l => killT p x :: killTs p l
def killB (p : Cell → Bool) : List (Nat × List Cell) → List (Nat × List Cell)
  | [] => []
  | (s, cs) :: l => (s, killL p cs) :: killB p l
def St.kill (st : St) (p : Cell → Bool) : St := { st with tm := killTs p st.tm, bx := killB p st.bx }
def St.drop (st : St) (k : Nat) : St := { tm := killTs (Cell.isKey k) st.tm, bx := killB (Cell.isKey k) st.bx, ob := rm st.ob k }

/-- the first row of the frame's own among cells: its place, its name -/
def ownAt : List Cell → Option (Nat × Nat)
  | [] => none
  | c :: l => match c with
    | .own k _ => some (0, k)
    | _ => match ownAt l with
      | some (j, k) => some (j + 1, k)
      | none => none
def repl : List Cell → Nat → Cell → List Cell
  | [], _, _ => []
  | _ :: l, 0, x => x :: l
  | c :: l, j + 1, x => c :: repl l j x

/-! ### what a callee that only reads is given -/
def toRo : Cell → Cell
  | .fr sz n g => .ro sz n g
  | c => c
def snapC (st : St) : Cell → Option Cell
  | .own k _ => match lk st.ob k with
    | some r => some (.ro r.sz r.n fun i j => toRo (r.get i j))
    | none => none
  | .own1 k i j _ => match lk st.ob k with
    | some r => some (toRo (r.get i j))
    | none => none
  | .box .. | .elt .. | .elt1 .. | .fn .. | .fr .. | .pb .. | .fnx .. => none
  | c => some c
def snapL (st : St) : List Cell → Option (List Cell)
  | [] => some []
  | c :: l => match snapC st c with
    | some c' => match snapL st l with
      | some l' => some (c' :: l')
      | none => none
    | none => none
/-- the boxes that a function value has caught -/
def caught (st : St) : List Nat → Option (List (List Cell))
  | [] => some []
  | b :: l => match lk st.bx b with
    | some cs => match snapL st cs with
      | some cs' => match caught st l with
        | some l' => some (cs' :: l')
        | none => none
      | none => none
    | none => none
def nthL : List (List Cell) → Nat → List Cell
  | [], _ => []
  | c :: _, 0 => c
  | _ :: l, n + 1 => nthL l n
def snapF (st : St) : Cell → Option Cell
  | .fn f bs => match caught st bs with
    | some l => some (.fnp f bs.length (fun i => (nthL l i).length) (fun i j => nth (nthL l i) j))
    | none => none
  | .fnx f k _ i m sz get => match lk st.ob k with
    | some r => some (.fnp f m (fun q => bif Nat.beq q i then 1 else sz q) (fun q o => bif Nat.beq q i then .ro r.sz r.n (fun a b => toRo (r.get a b)) else get q o))
    | none => none
  | c => snapC st c
def snapV (st : St) : T → Option V
  | .v (.one c) => match snapF st c with
    | some c' => some (.one c')
    | none => none
  | .v (.agg cs) => match snapL st cs with
    | some cs' => some (.agg cs')
    | none => none
  | .tup _ => none
def snapVs (st : St) : List T → Option (List V)
  | [] => some []
  | x :: l => match snapV st x with
    | some x' => match snapVs st l with
      | some l' => some (x' :: l')
      | none => none
    | none => none
/-- does a callee see, by this value, what the frame may write? -/
def Cell.hot : Cell → Bool
  | .own .. | .own1 .. | .fn .. | .fnx .. => true
  | _ => false
def anyC (p : Cell → Bool) : List Cell → Bool
  | [] => false
  | c :: l => p c || anyC p l
def V.any (p : Cell → Bool) : V → Bool
  | .one c => p c
  | .agg cs => anyC p cs
def anyV (p : Cell → Bool) : List V → Bool
  | [] => false
  | x :: l => x.any p || anyV p l
def T.any (p : Cell → Bool) : T → Bool
  | .v x => x.any p
  | .tup xs => anyV p xs
def anyT (p : Cell → Bool) : List T → Bool
  | [] => false
  | x :: l => x.any p || anyT p l
/-- does a value lead to memory that was there before? -/
def Cell.isRo : Cell → Bool
  | .ro .. | .pro .. | .fnp .. => true
  | _ => false

/-- may a call hand this back (`hot`: the callee saw rows that the frame may write) -/
def Cell.resOk (hot : Bool) : Cell → Bool
  | .own .. | .int .. | .bool .. | .str .. | .u => true
  | .ro _ n _ => !hot || Nat.beq n 0
  | _ => false
/-- a cell that leads to no memory -/
def Cell.noRo : Cell → Bool
  | .int .. | .bool .. | .str .. => true
  | .ro _ n _ => Nat.beq n 0
  | _ => false

/-! ### keys -/
/-- the name of a row that slot `d`'s operation makes; the name of a row that came in -/
def dkey (d j : Nat) : Nat := 1000 * (d + 1) + j
def pkey (a j : Nat) : Nat := 1000000 + 1000 * a + j

/-- a result's rows take names here -/
def instC (b : Nat) : Cell → Cell
  | .own k n => .own (b + k) n
  | c => c
def instL (b : Nat) : List Cell → List Cell
  | [] => []
  | c :: l => instC b c :: instL b l
def instV (b : Nat) : V → V
  | .one c => .one (instC b c)
  | .agg cs => .agg (instL b cs)
def instVs (b : Nat) : List V → List V
  | [] => []
  | x :: l => instV b x :: instVs b l
def instT (b : Nat) : T → T
  | .v x => .v (instV b x)
  | .tup xs => .tup (instVs b xs)
def shift (b : Nat) : List (Nat × Row) → List (Nat × Row)
  | [] => []
  | (k, r) :: l => (b + k, r) :: shift b l
def freshL {α β : Type} (ob : List (Nat × α)) : List (Nat × β) → Bool
  | [] => true
  | (k, _) :: l => (match lk ob k with | some _ => false | none => true) && freshL ob l
/-- the names of rows that came in -/
def isP (k : Nat) : Bool := Nat.ble 1000000 k && Nat.blt k 2000000
def noP : List (Nat × Row) → Bool
  | [] => true
  | (k, _) :: l => !isP k && noP l
def freshK {α : Type} (ob : List (Nat × α)) (k : Nat) : Bool := match lk ob k with
  | some _ => false
  | none => true
def newK (ob : List (Nat × Row)) (k : Nat) : Bool := freshK ob k && !isP k
def newL (ob o : List (Nat × Row)) : Bool := freshL ob o && noP o

/-- what is handed back: rows of the frame's own are named by their places -/
def retC (st : St) (j : Nat) : Cell → Option (Cell × List (Nat × Row) × St)
  | .own k n => match lk st.ob k with
    | some r => bif isP k then some (.own k n, [], st) else some (.own j n, [(j, r)], st.drop k)
    | none => none
  | .u => some (.u, [], st)
  | .pro .. | .fnp .. => none
  | c => bif c.plain then some (c, [], st) else none
def retL (st : St) (j : Nat) : List Cell → Option (List Cell × List (Nat × Row) × St)
  | [] => some ([], [], st)
  | c :: l => match retC st j c with
    | some (c', o, st') => match retL st' (j + 1) l with
      | some (l', o', st'') => some (c' :: l', o ++ o', st'')
      | none => none
    | none => none
def retV (st : St) (j : Nat) : V → Option (V × List (Nat × Row) × St)
  | .one c => match retC st j c with
    | some (c', o, st') => some (.one c', o, st')
    | none => none
  | .agg cs => match retL st j cs with
    | some (l', o, st') => some (.agg l', o, st')
    | none => none
def V.len : V → Nat
  | .one _ => 1
  | .agg cs => cs.length
def retVs (st : St) (j : Nat) : List V → Option (List V × List (Nat × Row) × St)
  | [] => some ([], [], st)
  | x :: l => match retV st j x with
    | some (x', o, st') => match retVs st' (j + x.len) l with
      | some (l', o', st'') => some (x' :: l', o ++ o', st'')
      | none => none
    | none => none

/-- rows that are lent to a callee that writes them: where they come from -/
inductive Tgt where
  | top (k : Nat)
  | sub (k i j : Nat)
/-- a result's rows take names here; rows that were lent and come back as a result are the frame's own ones -/
def instCR (ts : List (Nat × Tgt)) (b : Nat) : Cell → Cell
  | .own k n => match lk ts k with
    | some (.top k') => .own k' n
    | _ => .own (b + k) n
  | c => c
def instLR (ts : List (Nat × Tgt)) (b : Nat) : List Cell → List Cell
  | [] => []
  | c :: l => instCR ts b c :: instLR ts b l
def instVR (ts : List (Nat × Tgt)) (b : Nat) : V → V
  | .one c => .one (instCR ts b c)
  | .agg cs => .agg (instLR ts b cs)
def instVsR (ts : List (Nat × Tgt)) (b : Nat) : List V → List V
  | [] => []
  | x :: l => instVR ts b x :: instVsR ts b l
def instTR (ts : List (Nat × Tgt)) (b : Nat) : T → T
  | .v x => .v (instVR ts b x)
  | .tup xs => .tup (instVsR ts b xs)
def allC (p : Cell → Bool) : List Cell → Bool
  | [] => true
  | c :: l => p c && allC p l
/-- the boxes that a function value has caught, one of which holds a row of the frame's own, alone -/
def caughtX (st : St) : Nat → List Nat → Option (List (List Cell) × Option (Nat × Nat × Nat))
  | _, [] => some ([], none)
  | q, b :: l => match lk st.bx b with
    | some cs => match caughtX st (q + 1) l with
      | some (l', x) => match cs with
        | [.own k n] => match x with
          | none => some ([] :: l', some (q, k, n))
          | some _ => none
        | _ => bif allC Cell.plain cs then some (cs :: l', x) else none
      | none => none
    | none => none
def lendC (st : St) (a j : Nat) : Cell → Option (Cell × List (Nat × Row) × List (Nat × Tgt))
  | .own k n => match lk st.ob k with
    | some r => some (.own (pkey a j) n, [(pkey a j, r)], [(pkey a j, .top k)])
    | none => none
  | .own1 k i j' n => match lk st.ob k with
    | some r => match r.get i j' with
      | .fr sz m g => some (.own (pkey a j) n, [(pkey a j, ⟨false, sz, m, g⟩)], [(pkey a j, .sub k i j')])
      | _ => none
    | none => none
  | .pb k n => match lk st.ob k with
    | some r => some (.pb (pkey a j) n, [(pkey a j, r)], [(pkey a j, .top k)])
    | none => none
  | .fnx f k n i m sz get => match lk st.ob k with
    | some r => some (.fnx f (pkey a j) n i m sz get, [(pkey a j, r)], [(pkey a j, .top k)])
    | none => none
  | .fn f bs => match caughtX st 0 bs with
    | some (l, some (i, k, n)) => match lk st.ob k with
      | some r => some (.fnx f (pkey a j) n i bs.length (fun q => (nthL l q).length) (fun q o => nth (nthL l q) o), [(pkey a j, r)], [(pkey a j, .top k)])
      | none => none
    | _ => none
  | c => match snapC st c with
    | some c' => some (c', [], [])
    | none => none
def lendL (st : St) (a j : Nat) : List Cell → Option (List Cell × List (Nat × Row) × List (Nat × Tgt))
  | [] => some ([], [], [])
  | c :: l => match lendC st a j c with
    | some (c', o, g) => match lendL st a (j + 1) l with
      | some (l', o', g') => some (c' :: l', o ++ o', g ++ g')
      | none => none
    | none => none
def lendV (st : St) (a : Nat) : T → Option (V × List (Nat × Row) × List (Nat × Tgt))
  | .v (.one c) => match lendC st a 0 c with
    | some (c', o, g) => some (.one c', o, g)
    | none => none
  | .v (.agg cs) => match lendL st a 0 cs with
    | some (l', o, g) => some (.agg l', o, g)
    | none => none
  | .tup _ => none
def lendVs (st : St) (a : Nat) : List T → Option (List V × List (Nat × Row) × List (Nat × Tgt))
  | [] => some ([], [], [])
  | x :: l => match lendV st a x with
    | some (x', o, g) => match lendVs st (a + 1) l with
      | some (l', o', g') => some (x' :: l', o ++ o', g ++ g')
      | none => none
    | none => none
/-- is each row lent once -/
def Tgt.key : Tgt → Nat
  | .top k => k
  | .sub k _ _ => k
def onceKey : List (Nat × Tgt) → Bool
  | [] => true
  | (_, t) :: l => (!(l.any fun y => Nat.beq y.2.key t.key)) && onceKey l
def setCell (g : Nat → Nat → Cell) (i j : Nat) (c : Cell) : Nat → Nat → Cell :=
  fun i' j' => bif Nat.beq i' i && Nat.beq j' j then c else g i' j'
def backOb (ob : List (Nat × Row)) (r : Row) : Tgt → List (Nat × Row)
  | .top k => up ob k r
  | .sub k i j => match lk ob k with
    | some q => up ob k { q with get := setCell q.get i j (.fr r.sz r.n r.get) }
    | none => ob
def back (obo : List (Nat × Row)) : List (Nat × Tgt) → St → Option St
  | [], st => some st
  | (p, t) :: l, st => match lk obo p with
    | some r => back obo l (({ st with ob := backOb st.ob r t } : St).kill (Cell.isDeep t.key))
    | none => none
end Go.Proofs.YtjnpnpkjmlihdaaDoor.Ab
namespace Go.Proofs.YtjnpnpkjmlihdaaDoor.Ab
open Go Go.RowKit

/-- where a row lies; `jk`: where no row is, whatever a slice of capacity 0 points to -/
structure Hd where
  base : Option Nat
  cap : Nat
  jk : Option Addr
  off : Nat
def Hd.val (h : Hd) (n : Nat) : Value :=
  match h.base with
  | some b => .slice (some ⟨b, h.off, none⟩) n h.cap
  | none => .slice h.jk n h.cap

/-- a cell whose memory nobody writes (`I`: the blocks that stay) -/
inductive CRep (w : World) (I : Nat → Prop) : Value → Cell → Prop
  | u (v : Value) : CRep w I v .u
  | sk : CRep w I undef .sk
  | int (k : IntKind) (n : Int) : CRep w I (.int k n) (.int k n)
  | bool (b : Bool) : CRep w I (.bool b) (.bool b)
  | str (s : ByteArray) : CRep w I (.string s) (.str s)
  | ro0 (b : Option Addr) (c sz : Nat) (g : Nat → Nat → Cell) : CRep w I (.slice b 0 c) (.ro sz 0 g)
  | ro (b o c sz n : Nat) (g : Nat → Nat → Cell) (vals : Nat → Nat → Value) (hn : n ≤ c) (hpl : ∀ i j, i < n → j < sz → (g i j).plain = true) (hI : I b)
      (hc : ∀ i j, i < n → j < sz → w.cell? ⟨b, o + (i * sz + j), none⟩ = some (vals i j))
      (hr : ∀ i j, i < n → j < sz → CRep w I (vals i j) (g i j)) : CRep w I (.slice (some ⟨b, o, none⟩) n c) (.ro sz n g)
  | pro (b o m : Nat) (g : Nat → Cell) (vals : Nat → Value) (hI : I b)
      (hc : ∀ j, j < m → w.cell? ⟨b, o + j, none⟩ = some (vals j))
      (hr : ∀ j, j < m → CRep w I (vals j) (g j)) : CRep w I (Value.pointer (some ⟨b, o, none⟩)) (.pro m g)
  | fnp (f m : Nat) (sz : Nat → Nat) (g : Nat → Nat → Cell) (caps : Array Value) (bs : Nat → Nat) (vals : Nat → Nat → Value)
      (hs : caps.size = m) (hI : ∀ i, i < m → I (bs i)) (hp : ∀ i : Nat, i < m → caps[i]? = some (Value.pointer (some ⟨bs i, 0, none⟩)))
      (hc : ∀ i j, i < m → j < sz i → w.cell? ⟨bs i, j, none⟩ = some (vals i j))
      (hr : ∀ i j, i < m → j < sz i → CRep w I (vals i j) (g i j)) : CRep w I (.func (.func f) #[] caps) (.fnp f m sz g)
  | emp (b : Option Addr) : CRep w I (.slice b 0 0) .emp
  | pv (v : Value) (φ : Value → Prop) (h : φ v) : CRep w I v (.pv φ)

theorem CRep.mono {w w' : World} {I I' : Nat → Prop} (hI : ∀ b, I b → I' b) (hw : ∀ b, I b → w'.heap[b]? = w.heap[b]?) {v : Value} {c : Cell}
    (h : CRep w I v c) : CRep w' I' v c := by
  induction h with
  | u v => exact .u v
  | sk => exact .sk
  | int k n => exact .int k n
  | bool b => exact .bool b
  | str s => exact .str s
  | emp b => exact .emp b
  | pv v φ h => exact .pv v φ h
  | ro0 b c sz g => exact .ro0 b c sz g
  | ro b o c sz n g vals hn hpl h1 hc hr ih =>
    exact .ro b o c sz n g vals hn hpl (hI _ h1) (fun i j hi hj => (World.cell?_of_block (w := w) (hw b h1)).trans (hc i j hi hj)) ih
  | pro b o m g vals h1 hc hr ih =>
    exact .pro b o m g vals (hI _ h1) (fun j hj => (World.cell?_of_block (w := w) (hw b h1)).trans (hc j hj)) ih
  | fnp f m sz g caps bs vals hs h1 hp hc hr ih =>
    exact .fnp f m sz g caps bs vals hs (fun i hi => hI _ (h1 i hi)) hp (fun i j hi hj => (World.cell?_of_block (w := w) (hw _ (h1 i hi))).trans (hc i j hi hj)) ih

/-- where the frame's own memory lies -/
structure Gh where
  bx : Nat → Nat
  top : Nat → Hd
  sub : Nat → Nat → Nat → Hd

inductive Pos where
  | bx (s : Nat)
  | top (k : Nat)
  | sub (k i j : Nat)

def Gh.blk (G : Gh) : Pos → Option Nat
  | .bx s => some (G.bx s)
  | .top k => (G.top k).base
  | .sub k i j => (G.sub k i j).base

abbrev Bx := List (Nat × List Cell)
abbrev Ob := List (Nat × Row)

def Live (bx : Bx) (ob : Ob) : Pos → Prop
  | .bx s => ∃ cs, lk bx s = some cs
  | .top k => ∃ r, lk ob k = some r
  | .sub k i j => ∃ r sz n g, lk ob k = some r ∧ i < r.n ∧ j < r.sz ∧ r.get i j = .fr sz n g

def RowAt (w : World) (h : Hd) (sz n : Nat) (cr : Nat → Nat → Value → Prop) : Prop :=
  n ≤ h.cap ∧ (h.base = none → h.cap = 0) ∧ ∀ b, h.base = some b → ∃ cs t, w.heap[b]? = some (Obj.cells cs t (0, 0)) ∧ h.off + h.cap * sz ≤ cs.size ∧
    ∀ i j, i < n → j < sz → ∃ v, cs[h.off + (i * sz + j)]? = some v ∧ cr i j v

/-- a cell of the frame -/
def SRep (w : World) (I : Nat → Prop) (G : Gh) (bx : Bx) (ob : Ob) (v : Value) : Cell → Prop
  | .own k n => ∃ r, lk ob k = some r ∧ r.n = n ∧ v = (G.top k).val n
  | .own1 k i j n => ∃ r sz g, lk ob k = some r ∧ i < r.n ∧ j < r.sz ∧ r.get i j = .fr sz n g ∧ v = (G.sub k i j).val n
  | .box s o => ∃ cs, lk bx s = some cs ∧ v = Value.pointer (some ⟨G.bx s, o, none⟩)
  | .elt k i o => ∃ r b, lk ob k = some r ∧ i < r.n ∧ (G.top k).base = some b ∧ v = Value.pointer (some ⟨b, (G.top k).off + (i * r.sz + o), none⟩)
  | .elt1 k i j i2 o => ∃ r sz n g b, lk ob k = some r ∧ i < r.n ∧ j < r.sz ∧ r.get i j = .fr sz n g ∧ i2 < n ∧ (G.sub k i j).base = some b ∧
      v = Value.pointer (some ⟨b, (G.sub k i j).off + (i2 * sz + o), none⟩)
  | .fn f bs => ∃ caps : Array Value, v = Value.func (.func f) #[] caps ∧ caps.size = bs.length ∧
      ∀ (j s : Nat), bs[j]? = some s → (∃ cs, lk bx s = some cs) ∧ caps[j]? = some (Value.pointer (some ⟨G.bx s, 0, none⟩))
  | .fr .. => False
  | .pb k n => ∃ r b, lk ob k = some r ∧ r.n = n ∧ v = Value.pointer (some ⟨b, 0, none⟩) ∧ I b ∧ w.cell? ⟨b, 0, none⟩ = some ((G.top k).val n)
  | .fnx f k n i m sz get => ∃ (r : Row) (caps : Array Value) (bs : Nat → Nat) (vals : Nat → Nat → Value), lk ob k = some r ∧ r.n = n ∧ v = Value.func (.func f) #[] caps ∧ caps.size = m ∧ i < m ∧
      (∀ j, j < m → I (bs j)) ∧ (∀ j : Nat, j < m → caps[j]? = some (Value.pointer (some ⟨bs j, 0, none⟩))) ∧
      (∀ j o, j < m → j ≠ i → o < sz j → w.cell? ⟨bs j, o, none⟩ = some (vals j o) ∧ CRep w I (vals j o) (get j o)) ∧ w.cell? ⟨bs i, 0, none⟩ = some ((G.top k).val n)
  | c => CRep w I v c

def VRep (w : World) (I : Nat → Prop) (G : Gh) (bx : Bx) (ob : Ob) (v : Value) : V → Prop
  | .one c => SRep w I G bx ob v c
  | .agg cs => ∃ arr, v = Value.agg arr ∧ arr.size = cs.length ∧ ∀ (j : Nat) (u : Value), arr[j]? = some u → SRep w I G bx ob u (nth cs j)

def nthV : List V → Nat → V
  | [], _ => .one .u
  | x :: _, 0 => x
  | _ :: l, n + 1 => nthV l n

def TRep (w : World) (I : Nat → Prop) (G : Gh) (bx : Bx) (ob : Ob) (v : Value) : T → Prop
  | .v x => VRep w I G bx ob v x
  | .tup xs => ∃ arr, v = Value.tuple arr ∧ arr.size = xs.length ∧ ∀ (j : Nat) (u : Value), arr[j]? = some u → VRep w I G bx ob u (nthV xs j)

/-- what stands in a row -/
def Cont (w w0 : World) (I : Nat → Prop) (G : Gh) (k : Nat) (deep : Bool) (i j : Nat) (v : Value) : Cell → Prop
  | .fr sz n g => deep = true ∧ v = (G.sub k i j).val n ∧ RowAt w (G.sub k i j) sz n (fun i' j' v' => CRep w0 I v' (g i' j') ∧ (g i' j').plain = true)
  | c => CRep w0 I v c ∧ c.plain = true

/-- may a cell stand in memory -/
def Cell.stor : Cell → Bool
  | .u | .sk | .emp | .pv _ | .pb .. | .fnx .. | .fr .. => false
  | _ => true

structure Objs (w w0 : World) (I ok : Nat → Prop) (G : Gh) (bx : Bx) (ob : Ob) : Prop where
  bxr : ∀ s cs, lk bx s = some cs → ∃ arr t, w.heap[G.bx s]? = some (Obj.cells arr t (0, 0)) ∧ arr.size = cs.length ∧
    ∀ (j : Nat) (u : Value), arr[j]? = some u → SRep w0 I G bx ob u (nth cs j) ∧ True
  obr : ∀ k r, lk ob k = some r → RowAt w (G.top k) r.sz r.n (fun i j v => Cont w w0 I G k r.deep i j v (r.get i j))
  inj : ∀ p q b, Live bx ob p → Live bx ob q → G.blk p = some b → G.blk q = some b → p = q
  okb : ∀ p b, Live bx ob p → G.blk p = some b → ok b ∧ ¬ I b

structure Env where
  P : Program
  gl : List (Nat × (Nat × (Nat → Cell)))
  bl : List (Nat × (Array Value → Prop))

def Env.gok (E : Env) (w : World) (I : Nat → Prop) : Prop :=
  (∀ g m get, lk E.gl g = some (m, get) → CRep w I (Value.pointer (some ⟨g, 0, none⟩)) (.pro m get)) ∧
    ∀ p ∈ E.bl, I p.1 ∧ ∃ cs t f, w.heap[p.1]? = some (Obj.cells cs t f) ∧ p.2 cs

theorem Env.gok_mono {E : Env} {w w' : World} {I I' : Nat → Prop} (hI : ∀ b, I b → I' b) (hw : ∀ b, I b → w'.heap[b]? = w.heap[b]?) (h : E.gok w I) : E.gok w' I' :=
  ⟨fun g m get hg => (h.1 g m get hg).mono hI hw, fun p hp => by
    obtain ⟨h1, cs, t, f, h2, h3⟩ := h.2 p hp
    exact ⟨hI _ h1, cs, t, f, by rw [hw _ h1]; exact h2, h3⟩⟩

/-- The blocks of rows that are lent. -/
def lent (G : Gh) (ob : Ob) (b : Nat) : Prop := ∃ p, Live [] ob p ∧ G.blk p = some b

structure Keep (w w' : World) (D : Nat → Prop) : Prop where
  os : w'.os = w.os
  tape : w'.tape = w.tape
  output : w'.output = w.output
  size : w.heap.size ≤ w'.heap.size
  block : ∀ b, b < w.heap.size → ¬ D b → w'.heap[b]? = w.heap[b]?

def lkV : List V → Nat → Option V
  | [], _ => none
  | x :: _, 0 => some x
  | _ :: l, n + 1 => lkV l n

def isBody (P : Program) (f : Nat) : Bool :=
  match P.funcs[f]? with
  | some fn => fn.body.isSome && !(fn.name == "runtime.NumGoroutine")
  | none => false

/-- a row that leads to no memory but its own -/
def NoRo (r : Row) : Prop := ∀ i j, i < r.n → j < r.sz → match r.get i j with
  | .fr sz n g => ∀ i' j', i' < n → j' < sz → (g i' j').noRo = true
  | c => c.noRo = true

/-- A CALL's CONTRACT: with these arguments (`ob`: rows that are lent) it hands back `r` (`obr`: rows that it makes), and the lent rows read `obo`. -/
def Fun (E : Env) (f : Nat) (args : List V) (ob : Ob) (r : T) (obr obo : Ob) : Prop :=
  isBody E.P f = true ∧ (∀ k q, lk (obr ++ obo) k = some q → NoRo q) ∧ ∀ (w : World) (I : Nat → Prop) (G : Gh) (vs : Array Value), (∀ b, I b → b < w.heap.size) → E.gok w I →
    vs.size = args.length → (∀ (j : Nat) (v : Value), vs[j]? = some v → VRep w I G [] ob v (nthV args j)) →
    Objs w w I (fun _ => True) G [] ob →
    Calls E.P f vs w fun e w' => ∃ v G', e = .returned v ∧ TRep w I G' [] (obr ++ obo) v r ∧
      Objs w' w I (fun b => w.heap.size ≤ b ∨ lent G ob b) G' [] (obr ++ obo) ∧
      (∀ k q, lk obo k = some q → G'.top k = G.top k) ∧ Keep w w' (lent G ob)

/-- the same where only something is told of what comes back -/
def FunE (E : Env) (f : Nat) (args : List V) (ob : Ob) (Φ : T → Ob → Ob → Prop) : Prop :=
  isBody E.P f = true ∧ ∀ (w : World) (I : Nat → Prop) (G : Gh) (vs : Array Value), (∀ b, I b → b < w.heap.size) → E.gok w I →
    vs.size = args.length → (∀ (j : Nat) (v : Value), vs[j]? = some v → VRep w I G [] ob v (nthV args j)) →
    Objs w w I (fun _ => True) G [] ob →
    Calls E.P f vs w fun e w' => ∃ r obr obo, Φ r obr obo ∧ ∃ v G', e = .returned v ∧ TRep w I G' [] (obr ++ obo) v r ∧
      Objs w' w I (fun b => w.heap.size ≤ b ∨ lent G ob b) G' [] (obr ++ obo) ∧
      (∀ k q, lk obo k = some q → G'.top k = G.top k) ∧ Keep w w' (lent G ob)
theorem Fun.toE {E : Env} {f : Nat} {args : List V} {ob : Ob} {r : T} {obr obo : Ob} (h : Fun E f args ob r obr obo) : FunE E f args ob (fun r' o o' => r' = r ∧ o = obr ∧ o' = obo) :=
  ⟨h.1, fun w I G vs h1 h2 h3 h4 h5 => (h.2.2 w I G vs h1 h2 h3 h4 h5).mono fun _ _ hh => ⟨r, obr, obo, ⟨rfl, rfl, rfl⟩, hh⟩⟩
end Go.Proofs.YtjnpnpkjmlihdaaDoor.Ab
namespace Go.Proofs.YtjnpnpkjmlihdaaDoor.Ab
open Go Go.RowKit

def Cnd (b : Bool) (A B : Prop) : Prop := (b = true → A) ∧ (b = false → B)
def Bnd (p A : Prop) : Prop := p ∧ A

structure RowEq (r s : Row) : Prop where
  deep : r.deep = s.deep
  sz : r.sz = s.sz
  n : r.n = s.n
  get : ∀ i j, i < r.n → j < r.sz → r.get i j = s.get i j
/-- a row that is made, told in whatever way -/
def Rw (r : Row) (K : Row → Prop) : Prop := ∃ s, RowEq r s ∧ K s

def ev (E : Env) (st : St) : CA → T
  | .t s => getL st.tm s
  | .k c => c
  | .g n => match lk E.gl n with
    | some (m, get) => .v (.one (.pro m get))
    | none => .u
def evs (E : Env) (st : St) : List CA → List T
  | [] => []
  | x :: l => ev E st x :: evs E st l
def one (c : Cell) : T := .v (.one c)

def kk (k k' : IntKind) (A : Prop) : Prop := match k, k' with
  | .i8, .i8 | .i16, .i16 | .i32, .i32 | .i64, .i64 | .u8, .u8 | .u16, .u16 | .u32, .u32 | .u64, .u64 => A
  | _, _ => False
def binI (op : BinOp) (k : IntKind) (a b : Int) (K : Cell → Prop) : Prop :=
  match op with
  | .add => K (.int k (k.wrap (a + b)))
  | .sub => K (.int k (k.wrap (a - b)))
  | .mul => K (.int k (k.wrap (a * b)))
  | .quo => Bnd (b ≠ 0) (K (.int k (k.wrap (a.tdiv b))))
  | .rem => Bnd (b ≠ 0) (K (.int k (a.tmod b)))
  | .eql => K (.bool (a == b))
  | .neq => K (.bool (a != b))
  | .lss => K (.bool (decide (a < b)))
  | .leq => K (.bool (decide (a ≤ b)))
  | .gtr => K (.bool (decide (a > b)))
  | .geq => K (.bool (decide (a ≥ b)))
  | _ => False
def binS (op : BinOp) (a b : ByteArray) (K : Cell → Prop) : Prop :=
  match op with
  | .add => Bnd (a.size + b.size < 4611686018427387904) (K (.str (a ++ b)))
  | .eql => K (.bool (a.toList == b.toList))
  | .neq => K (.bool (!(a.toList == b.toList)))
  | .lss => K (.bool (Op.bytesLess a.toList b.toList))
  | .gtr => K (.bool (!(Op.bytesLess a.toList b.toList || a.toList == b.toList)))
  | _ => False
def bin (op : BinOp) (x y : T) (K : Cell → Prop) : Prop :=
  match x, y with
  | .v (.one (.int k a)), .v (.one (.int k' b)) => kk k k' (binI op k a b K)
  | .v (.one (.str a)), .v (.one (.str b)) => binS op a b K
  | _, _ => False

/-- cells that are read, told in whatever way -/
def Lc (cs : List Cell) (K : List Cell → Prop) : Prop := K cs
/-- the cells at a pointer -/
def ldK (st : St) (n : Nat) (x : T) (K : List Cell → Prop) : Prop :=
  match x with
  | .v (.one (.box s o)) => match lk st.bx s with
    | some cs => Bnd (Nat.ble (o + n) cs.length = true) (K (cellsFrom (nth cs) n o))
    | none => False
  | .v (.one (.elt k i o)) => match lk st.ob k with
    | some r => Bnd (Nat.ble (o + n) r.sz = true) (Lc (cellsFrom (fun j => inRow k i j (r.get i j)) n o) K)
    | none => False
  | .v (.one (.elt1 k i j i2 o)) => match lk st.ob k with
    | some r => match r.get i j with
      | .fr sz _ g => Bnd (Nat.ble (o + n) sz = true) (Lc (cellsFrom (g i2) n o) K)
      | _ => False
    | none => False
  | .v (.one (.pro m g)) => Bnd (Nat.ble n m = true) (K (cellsFrom g n 0))
  | .v (.one (.pb k m)) => bif Nat.beq n 1 then K [.own k m] else False
  | _ => False

def intK (x : T) (K : IntKind → Int → Prop) : Prop :=
  match x with
  | .v (.one (.int k n)) => K k n
  | _ => False
/-- bounds of a cut -/
def cutK (E : Env) (st : St) (n : Nat) (lo hi : Option CA) (K : Nat → Nat → Prop) : Prop :=
  let up (l : Int) : Prop := match hi with
    | some h => intK (ev E st h) fun _ h => Bnd (0 ≤ l ∧ l ≤ h ∧ h ≤ n) (K l.toNat h.toNat)
    | none => Bnd (0 ≤ l ∧ l ≤ n) (K l.toNat n)
  match lo with
  | some l => intK (ev E st l) fun _ l => up l
  | none => up 0

def addr (sz : Nat) (st : St) (x : T) (i : Int) (K : Cell → Prop) : Prop :=
  match x with
  | .v (.one (.ro sz' n g)) => bif Nat.beq sz sz' then Bnd (0 ≤ i ∧ i < n) (K (.pro sz (g i.toNat))) else False
  | .v (.one (.own k n)) => match lk st.ob k with
    | some r => bif Nat.beq sz r.sz then Bnd (0 ≤ i ∧ i < n) (K (.elt k i.toNat 0)) else False
    | none => False
  | .v (.one (.own1 k a b n)) => match lk st.ob k with
    | some r => match r.get a b with
      | .fr sz' _ _ => bif Nat.beq sz sz' then Bnd (0 ≤ i ∧ i < n) (K (.elt1 k a b i.toNat 0)) else False
      | _ => False
    | none => False
  | _ => False
def addrA (len sz : Nat) (x : T) (i : Int) (K : Cell → Prop) : Prop :=
  match x with
  | .v (.one (.pro m g)) => bif Nat.ble (len * sz) m then Bnd (0 ≤ i ∧ i < len) (K (.pro sz fun j => g (i.toNat * sz + j))) else False
  | .v (.one (.box s o)) => Bnd (0 ≤ i ∧ i < len) (K (.box s (o + i.toNat * sz)))
  | .v (.one (.elt k i' o)) => Bnd (0 ≤ i ∧ i < len) (K (.elt k i' (o + i.toNat * sz)))
  | _ => False
def fieldA (off : Nat) (x : T) (K : Cell → Prop) : Prop :=
  match x with
  | .v (.one (.pro m g)) => bif Nat.ble off m then K (.pro (m - off) fun j => g (off + j)) else False
  | .v (.one (.box s o)) => K (.box s (o + off))
  | .v (.one (.elt k i o)) => K (.elt k i (o + off))
  | .v (.one (.elt1 k i j i2 o)) => K (.elt1 k i j i2 (o + off))
  | _ => False
/-- a byte of a text -/
def bt (s : ByteArray) (i : Int) : Int := ((s.data[i.toNat]?).getD 0).toNat

def fillP (E : Env) (st : St) : List Cell → List (Nat × Nat × CA) → Option (List Cell)
  | z, [] => some z
  | z, (o, n, x) :: l => match ev E st x with
    | .v y => bif Nat.beq y.cells.length n && (Nat.ble (o + n) z.length && allC Cell.stor y.cells) then fillP E st (splice z o y.cells) l else none
    | .tup _ => none
/-- the parts of a row that is written out: each `sz` cells, nothing of the frame's own in them -/
def partsP (E : Env) (st : St) (sz : Nat) : List CA → Option (List (List Cell))
  | [] => some []
  | x :: l => match ev E st x with
    | .v y => bif Nat.beq y.cells.length sz && allC Cell.plain y.cells then
        match partsP E st sz l with
        | some ys => some (y.cells :: ys)
        | none => none
      else none
    | .tup _ => none
def litRow (deep : Bool) (sz : Nat) (ps : List (List Cell)) : Row := ⟨deep, sz, ps.length, fun i j => nth (nthL ps i) j⟩
def zeroRow (deep : Bool) (sz n : Nat) (z : List Cell) : Row := ⟨deep, sz, n, fun _ j => nth z j⟩
def boxesOf : List T → Option (List Nat)
  | [] => some []
  | .v (.one (.box s 0)) :: l => match boxesOf l with
    | some l' => some (s :: l')
    | none => none
  | _ => none

/-- the call of a function that only reads what it is given -/
def CallQ (E : Env) (f : Nat) (as : List V) (hot : Bool) (b : Option Nat) (ob : Ob) (K : T → Ob → Prop) : Prop :=
  ∃ r obr, Fun E f as [] r obr [] ∧ (!(r.any fun c => !c.resOk hot)) = true ∧
    match b with
    | some d => newL ob (shift (dkey d 0) obr) = true ∧ K (instT (dkey d 0) r) (shift (dkey d 0) obr)
    | none => obr = [] ∧ K .u []

/-- the text of bytes that stand in a row -/
def Bts (n : Nat) (get : Nat → Nat → Cell) (K : Cell → Prop) : Prop :=
  ∃ l : List UInt8, 1 ≤ l.length ∧ l.length = n ∧ (∀ (i : Nat) (b : UInt8), l[i]? = some b → get i 0 = .int .u8 b.toNat) ∧ K (.str ⟨l.toArray⟩)
def btsK (st : St) (x : T) (K : Cell → Prop) : Prop :=
  match x with
  | .v (.one (.ro sz n g)) => bif Nat.beq sz 1 then Bts n g K else False
  | .v (.one (.own k _)) => match lk st.ob k with
    | some r => bif Nat.beq r.sz 1 then Bts r.n r.get K else False
    | none => False
  | _ => False
def ncK (x : T) (K : Cell → Prop) : Prop :=
  match x with
  | .v (.one (.box s o)) => K (.box s o)
  | .v (.one (.elt k i o)) => K (.elt k i o)
  | .v (.one (.elt1 k i j i2 o)) => K (.elt1 k i j i2 o)
  | _ => False

/-- what is appended to an empty slice that has no room -/
def Emp (n : Nat) (A B : Prop) : Prop := (n = 0 → A) ∧ (n ≠ 0 → B)
/-- operations that change nothing that there is: a value, new rows, new variables -/
def val (E : Env) (st : St) (d : Option Nat) (o : COp) (K : T → Ob → Bx → Prop) : Prop :=
  match o with
  | .mv x => K (ev E st x) [] []
  | .alloc z => match d with
    | some s => bif freshK st.bx s && allC Cell.plain z then K (one (.box s 0)) [] [(s, z)] else False
    | none => False
  | .box x => match d with
    | some s => match ev E st x with
      | .v y => bif freshK st.bx s && allC Cell.stor y.cells then K (one (.box s 0)) [] [(s, y.cells)] else False
      | .tup _ => False
    | none => False
  | .build z ps => match fillP E st z ps with
    | some cs => K (.v (.agg cs)) [] []
    | none => False
  | .buildO z off sz ps => match d with
    | some s => match fillP E st z ps with
      | some cs => match nth cs off with
        | .emp => bif newK st.ob (dkey s 0) && Nat.blt off cs.length then
            Rw ⟨false, sz, 0, fun _ _ => .u⟩ fun r => K (.v (.agg (splice cs off [.own (dkey s 0) r.n]))) [(dkey s 0, r)] []
          else False
        | _ => False
      | none => False
    | none => False
  | .bslice deep sz ps => match d with
    | some s => match partsP E st sz ps with
      | some ys => bif newK st.ob (dkey s 0) then
          Rw (litRow deep sz ys) fun r => K (one (.own (dkey s 0) r.n)) [(dkey s 0, r)] []
        else False
      | none => False
    | none => False
  | .emp => K (one .emp) [] []
  | .app sz bytes x y => match d with
    | some s => match ev E st x with
      | .v (.one .emp) => match ev E st y with
        | .v (.one (.ro sz' n g)) => bif Nat.beq sz sz' && Nat.blt bytes 65536 then
            Emp n (K (one (.ro sz 0 fun _ _ => .u)) [] []) (bif newK st.ob (dkey s 0) then Bnd (n < 1073741824) (Rw ⟨false, sz, n, g⟩ fun r => K (one (.own (dkey s 0) r.n)) [(dkey s 0, r)] []) else False)
          else False
        | _ => False
      | _ => False
    | none => False
  | .nilO deep sz j => match d with
    | some s => bif newK st.ob (dkey s j) then
        Rw ⟨deep, sz, 0, fun _ _ => .u⟩ fun r => K (one (.own (dkey s j) r.n)) [(dkey s j, r)] []
      else False
    | none => False
  | .ld n agg x => ldK st n (ev E st x) fun cs => K (.v (mk agg cs)) [] []
  | .bin op x y => bin op (ev E st x) (ev E st y) fun c => K (one c) [] []
  | .eqB neq x y => match ev E st x, ev E st y with
    | .v (.one (.bool a)), .v (.one (.bool b)) => K (one (.bool (bif neq then !(a == b) else a == b))) [] []
    | _, _ => False
  | .neg x => intK (ev E st x) fun k n => K (one (.int k (k.wrap (0 - n)))) [] []
  | .not x => match ev E st x with
    | .v (.one (.bool b)) => K (one (.bool (!b))) [] []
    | _ => False
  | .conv k x => intK (ev E st x) fun _ n => K (one (.int k (k.wrap n))) [] []
  | .half x => intK (ev E st x) fun k n => K (one (.int k (n / 2))) [] []
  | .mkS deep sz bytes z x => match d with
    | some s => intK (ev E st x) fun _ n => bif newK st.ob (dkey s 0) && allC Cell.plain z && Nat.beq z.length sz then
        Bnd (0 ≤ n ∧ bytes * n ≤ 140737488355328) (Rw (zeroRow deep sz n.toNat z) fun r => K (one (.own (dkey s 0) r.n)) [(dkey s 0, r)] [])
      else False
    | none => False
  | .slc sz' x lo hi => match ev E st x with
    | .v (.one (.ro sz n g)) => bif Nat.beq sz' sz then cutK E st n lo hi fun l h => K (one (.ro sz (h - l) fun i j => g (i + l) j)) [] [] else False
    | _ => False
  | .slcS x lo hi => match ev E st x with
    | .v (.one (.str s)) => cutK E st s.size lo hi fun l h => K (one (.str (s.extract l h))) [] []
    | _ => False
  | .fa off x => fieldA off (ev E st x) fun c => K (one c) [] []
  | .fld off sz agg x => match ev E st x with
    | .v (.agg cs) => bif Nat.ble (off + sz) cs.length then K (.v (mk agg (cellsFrom (nth cs) sz off))) [] [] else False
    | _ => False
  | .ia sz x i => intK (ev E st i) fun _ i => addr sz st (ev E st x) i fun c => K (one c) [] []
  | .iaA len sz x i => intK (ev E st i) fun _ i => addrA len sz (ev E st x) i fun c => K (one c) [] []
  | .idxS x i => match ev E st x with
    | .v (.one (.str s)) => intK (ev E st i) fun _ i => Bnd (0 ≤ i ∧ i < s.size) (K (one (.int .u8 (bt s i))) [] [])
    | _ => False
  | .ext j x => match ev E st x with
    | .tup xs => match lkV xs j with
      | some y => K (.v y) [] []
      | none => False
    | .v _ => False
  | .len x => match ev E st x with
    | .v (.one (.ro _ n _)) => K (one (.int .i64 n)) [] []
    | .v (.one (.own _ n)) => K (one (.int .i64 n)) [] []
    | .v (.one (.own1 _ _ _ n)) => K (one (.int .i64 n)) [] []
    | _ => False
  | .lenS x => match ev E st x with
    | .v (.one (.str s)) => K (one (.int .i64 s.size)) [] []
    | _ => False
  | .mx x y => match ev E st x, ev E st y with
    | .v (.one (.int k a)), .v (.one (.int k' b)) => kk k k' (K (one (.int k (if b > a then b else a))) [] [])
    | _, _ => False
  | .mn x y => match ev E st x, ev E st y with
    | .v (.one (.int k a)), .v (.one (.int k' b)) => kk k k' (K (one (.int k (if b < a then b else a))) [] [])
    | _, _ => False
  | .call false f xs => match snapVs st (evs E st xs) with
    | some as => CallQ E f as (anyT Cell.hot (evs E st xs)) d st.ob fun r ob => K r ob []
    | none => False
  | .callv x xs => match snapV st (ev E st x) with
    | some (.one (.fnp f m sz get)) => match snapVs st (evs E st xs) with
      | some as => CallQ E f (as ++ ((List.range m).map fun i => .one (.pro (sz i) (get i)))) (anyT Cell.hot (ev E st x :: evs E st xs)) d st.ob fun r ob => K r ob []
      | none => False
    | _ => False
  | .mkf f xs => match boxesOf (evs E st xs) with
    | some bs => K (one (.fn f bs)) [] []
    | none => False
  | .pick c x y => match ev E st c with
    | .v (.one (.bool b)) => Cnd b (K (ev E st x) [] []) (K (ev E st y) [] [])
    | _ => False
  | .bts x => btsK st (ev E st x) fun c => K (one c) [] []
  | .ncx x => ncK (ev E st x) fun c => K (one c) [] []
  | _ => False

/-- writing into an element of a row -/
def wrG (g : Nat → Nat → Cell) (i o : Nat) (ys : List Cell) : Nat → Nat → Cell :=
  fun i' j' => bif Nat.beq i' i && (Nat.ble o j' && Nat.blt j' (o + ys.length)) then nth ys (j' - o) else g i' j'
def Cell.isFr : Cell → Bool
  | .fr .. => true
  | _ => false
def appRow (r : Row) (n : Nat) (g : Nat → Nat → Cell) : Row :=
  ⟨r.deep, r.sz, r.n + n, fun i j => bif Nat.blt i r.n then r.get i j else g (i - r.n) j⟩
def St.add (st : St) (ob : Ob) (bx : Bx) : St := { st with ob := ob ++ st.ob, bx := bx ++ st.bx }

/-- the row that is appended: its cells; is it used up -/
def srcK (st : St) (sz : Nat) (x : T) (K : Nat → (Nat → Nat → Cell) → Option Nat → Prop) : Prop :=
  match x with
  | .v (.one (.ro sz' n g)) => bif Nat.beq sz sz' || Nat.beq n 0 then K n g none else False
  | .v (.one (.own k _)) => match lk st.ob k with
    | some r => bif Nat.beq sz r.sz then K r.n r.get (bif r.deep then some k else none) else False
    | none => False
  | .v (.one (.own1 k i j _)) => match lk st.ob k with
    | some r => match r.get i j with
      | .fr sz' n g => bif Nat.beq sz sz' then K n g none else False
      | _ => False
    | none => False
  | _ => False

def St.dropO (st : St) : Option Nat → St
  | some k => st.drop k
  | none => st
def noneB : Option Nat → Bool
  | some _ => false
  | none => true

def onceL : Ob → Bool
  | [] => true
  | (k, _) :: l => freshK l k && onceL l
/-- lent rows keep their names and their shapes -/
def Shape : Ob → Ob → Prop
  | [], [] => True
  | (k, r) :: l, (k', r') :: l' => k = k' ∧ r'.deep = r.deep ∧ r'.sz = r.sz ∧ r'.n = r.n ∧ Shape l l'
  | _, _ => False
/-- what a call may hand back that may write rows that it is lent -/
def Cell.resR (ts : List (Nat × Tgt)) (obr : Ob) : Cell → Bool
  | .own k _ => match lk ts k with
    | some (.top _) => true
    | some _ => false
    | none => !(freshK obr k)
  | .int .. | .bool .. | .str .. | .u => true
  | .ro _ n _ => Nat.beq n 0
  | _ => false
/-- the call of a function that may write rows that it is lent -/
def CallR (E : Env) (f : Nat) (as : List V) (ob : Ob) (ts : List (Nat × Tgt)) (d : Option Nat) (st : St) (Q : St → Prop) : Prop :=
  ∃ Φ : T → Ob → Ob → Prop, FunE E f as ob Φ ∧ ∀ r obr obo, Φ r obr obo → Shape ob obo ∧ (!(r.any fun c => !c.resR ts obr)) = true ∧ freshL obr obo = true ∧
    match back obo ts st with
    | some st' => match d with
      | some s => newL st.ob (shift (dkey s 0) obr) = true ∧ Q ((st'.add (shift (dkey s 0) obr) []).put d (instTR ts (dkey s 0) r))
      | none => obr = [] ∧ Q st'
    | none => False

/-- a cell that leads to a row of the frame's own through a variable that was caught -/
def Cell.isX : Cell → Bool
  | .pb .. | .fnx .. => true
  | _ => false
/-- such a call where a function value has caught a row that is lent: what comes back leads to no memory but its own -/
def CallRX (E : Env) (f : Nat) (as : List V) (ob : Ob) (ts : List (Nat × Tgt)) (d : Option Nat) (st : St) (Q : St → Prop) : Prop :=
  ∃ Φ : T → Ob → Ob → Prop, FunE E f as ob Φ ∧ ∀ r obr obo, Φ r obr obo → (∀ k q, lk (obr ++ obo) k = some q → NoRo q) ∧ Shape ob obo ∧ (!(r.any fun c => !c.resR ts obr)) = true ∧ freshL obr obo = true ∧
    match back obo ts st with
    | some st' => match d with
      | some s => newL st.ob (shift (dkey s 0) obr) = true ∧ Q ((st'.add (shift (dkey s 0) obr) []).put d (instTR ts (dkey s 0) r))
      | none => obr = [] ∧ Q st'
    | none => False
def fnxA (k n i m : Nat) (sz : Nat → Nat) (get : Nat → Nat → Cell) : List T :=
  (List.range m).map fun j => bif Nat.beq j i then T.v (.one (.pb k n)) else T.v (.one (.pro (sz j) (get j)))

/-- is a row of that length nil: of an empty one that is not known -/
def Isn (n : Nat) (K : Bool → Prop) : Prop := K false ∧ (n = 0 → K true)
/-- one operation, whatever it does -/
def wo (E : Env) (d : Option Nat) (o : COp) (st : St) (Q : St → Prop) : Prop :=
  match o with
  | .st n x y => match d with
   | some _ => False
   | none => match ev E st y with
    | .v y => bif Nat.beq y.cells.length n then
        match ev E st x with
        | .v (.one (.box s o)) => match lk st.bx s with
          | some cs => bif allC Cell.stor y.cells then
              Bnd (Nat.ble (o + n) cs.length = true) (Q { st with bx := up st.bx s (splice cs o y.cells) }) else False
          | none => False
        | .v (.one (.elt k i o)) => match ownAt y.cells with
          | none => match lk st.ob k with
            | some r => bif allC Cell.plain y.cells then
                Bnd (Nat.ble (o + n) r.sz = true) (Rw ⟨r.deep, r.sz, r.n, wrG r.get i o y.cells⟩ fun q =>
                  Q (({ st with ob := up st.ob k q } : St).kill (Cell.isDeep k)))
              else False
            | none => False
          | some (j, k2) => match lk st.ob k2 with
            | some r2 => match lk st.ob k with
              | some r => bif allC Cell.plain (repl y.cells j (.bool true)) && (r.deep && (!r2.deep && !(Nat.beq k k2))) then
                  Bnd (Nat.ble (o + n) r.sz = true) (Rw ⟨r.deep, r.sz, r.n, wrG r.get i o (repl y.cells j (.fr r2.sz r2.n r2.get))⟩ fun q =>
                    Q (({ st with ob := up (rm st.ob k2) k q } : St).kill (fun c => c.isKey k2 || c.isDeep k)))
                else False
              | none => False
            | none => False
        | _ => False
      else False
    | .tup _ => False
  | .app sz bytes x y => match d with
    | some s => match ev E st x with
      | .v (.one (.own k _)) => match lk st.ob k with
        | some r => bif Nat.beq sz r.sz && Nat.blt bytes 65536 then
            srcK (st.drop k) sz (ev E (st.drop k) y) fun n g k2 =>
              bif (r.deep || noneB k2) && newK ((st.drop k).dropO k2).ob (dkey s 0) then
                Bnd (r.n + n < 1073741824) (Rw (appRow r n g) fun q => Q ((((st.drop k).dropO k2).add [(dkey s 0, q)] []).put d (one (.own (dkey s 0) q.n))))
              else False
          else False
        | none => False
      | _ => False
    | none => False
  | .bsl1 x => match d with
    | some s => match ev E st x with
      | .v (.one (.own k _)) => match lk st.ob k with
        | some r => bif newK (st.drop k).ob (dkey s 0) && !r.deep then
            Rw ⟨true, 1, 1, fun _ _ => .fr r.sz r.n r.get⟩ fun q => Q (((st.drop k).add [(dkey s 0, q)] []).put d (one (.own (dkey s 0) q.n)))
          else False
        | none => False
      | _ => False
    | none => False
  | .slcO sz' x lo hi => match d with
    | some s => match ev E st x with
      | .v (.one (.own k n)) => match lk st.ob k with
        | some r => cutK E st n lo hi fun l h =>
            bif newK (st.drop k).ob (dkey s 0) && (Nat.beq sz' r.sz && (Nat.beq l 0 || !r.deep)) then
              Rw ⟨r.deep, r.sz, h - l, fun i j => r.get (i + l) j⟩ fun q => Q (((st.drop k).add [(dkey s 0, q)] []).put d (one (.own (dkey s 0) q.n)))
            else False
        | none => False
      | _ => False
    | none => False
  | .call true f xs => match lendVs st 0 (evs E st xs) with
    | some (as, ob, ts) => bif onceKey ts && onceL ob then (bif anyV Cell.isX as then CallRX E f as ob ts d st Q else CallR E f as ob ts d st Q) else False
    | none => False
  | .callv x xs => match ev E st x with
    | .v (.one (.fnx f k n i m sz get)) => match lendVs st 0 (evs E st xs ++ fnxA k n i m sz get) with
      | some (as, ob, ts) => bif onceKey ts && onceL ob then CallRX E f as ob ts d st Q else False
      | none => False
    | _ => val E st d (.callv x xs) fun t ob bx => Q ((st.add ob bx).put d t)
  | .isn x => match ev E st x with
    | .v (.one (.ro _ n _)) => Isn n fun b => Q (st.put d (one (.bool b)))
    | _ => False
  | o => val E st d o fun t ob bx => Q ((st.add ob bx).put d t)

def wi (E : Env) (i : CI) (st : St) (Q : St → Prop) : Prop :=
  match i.guard with
  | none => wo E i.dst i.op st Q
  | some (s, true) => match getL st.tm s with
    | .v (.one (.bool c)) => Cnd c (wo E i.dst i.op st Q) (Q (st.put i.dst (one .sk)))
    | .v (.one .sk) => Q (st.put i.dst (one .sk))
    | _ => False
  | some (s, false) => match getL st.tm s with
    | .v (.one (.bool c)) => Cnd c (Q (st.put i.dst (one .sk))) (wo E i.dst i.op st Q)
    | .v (.one .sk) => Q (st.put i.dst (one .sk))
    | _ => False
def wis (E : Env) : List CI → St → (St → Prop) → Prop
  | [], st, Q => Q st
  | i :: l, st, Q => wi E i st fun st' => wis E l st' Q

/-- the operations of a region whose order is open, told in the text's order over the memory at its begin -/
def vi (E : Env) (i : CI) (st0 : St) (tm : List T) (Q : T → Ob → Bx → Prop) : Prop :=
  match i.guard with
  | none => val E { st0 with tm := tm } i.dst i.op Q
  | some (s, true) => match getL tm s with
    | .v (.one (.bool c)) => Cnd c (val E { st0 with tm := tm } i.dst i.op Q) (Q (one .sk) [] [])
    | .v (.one .sk) => Q (one .sk) [] []
    | _ => False
  | some (s, false) => match getL tm s with
    | .v (.one (.bool c)) => Cnd c (Q (one .sk) [] []) (val E { st0 with tm := tm } i.dst i.op Q)
    | .v (.one .sk) => Q (one .sk) [] []
    | _ => False
def vis (E : Env) : List CI → List T → Ob → Bx → (List T → Ob → Bx → Prop) → Prop
  | [], tm, ob, bx, Q => Q tm ob bx
  | i :: l, tm, ob, bx, Q => vi E i ⟨[], bx, ob⟩ tm fun t o b => bif freshL ob o && freshL bx b then
      vis E l (match i.dst with | some s => setL tm s t | none => tm) (o ++ ob) (b ++ bx) Q else False

/-! ### what is kept at a loop's head -/
structure Kp where
  tm : List Nat
  bx : List Nat
  al : List (Nat × Nat)
def vkey (s : Nat) : Nat := 2000000 + s
def bkey (s j : Nat) : Nat := 3000000 + 1000 * s + j
/-- the row behind a cell, under a new name; the state without it -/
def nameC (st : St) (k' : Nat) : Cell → Option (Cell × Ob × St)
  | .own k n => match lk st.ob k with
    | some r => bif isP k then some (.own k n, [(k, r)], st.drop k) else some (.own k' n, [(k', r)], st.drop k)
    | none => none
  | .pb k n => match lk st.ob k with
    | some r => bif isP k then some (.pb k n, [(k, r)], st.drop k) else none
    | none => none
  | .fnx f k n i m sz get => match lk st.ob k with
    | some r => bif isP k then some (.fnx f k n i m sz get, [(k, r)], st.drop k) else none
    | none => none
  | .own1 .. | .box .. | .elt .. | .elt1 .. | .fn .. | .fr .. => none
  | c => some (c, [], st)
def nameL (st : St) (s j : Nat) : List Cell → Option (List Cell × Ob × St)
  | [] => some ([], [], st)
  | c :: l => match nameC st (bkey s j) c with
    | some (c', o, st') => match nameL st' s (j + 1) l with
      | some (l', o', st'') => some (c' :: l', o ++ o', st'')
      | none => none
    | none => none
def masked : Nat → List T
  | 0 => []
  | n + 1 => .u :: masked n
/-- a slot that is kept: a plain value, or the pointer to a variable that is kept -/
def keepT (bs : List Nat) : List Nat → St → List T → Option (List T × Ob × St)
  | [], st, tm => some (tm, [], st)
  | s :: l, st, tm => match getL st.tm s with
    | .v (.one (.box b 0)) => bif bs.any (Nat.beq b) then keepT bs l st (setL tm s (one (.box b 0))) else none
    | .v (.one (.fn f caps)) => bif caps.all fun b => bs.any (Nat.beq b) then keepT bs l st (setL tm s (one (.fn f caps))) else none
    | .v (.one c) => match nameC st (vkey s) c with
      | some (c', o, st') => match keepT bs l st' (setL tm s (one c')) with
        | some (tm', o', st'') => some (tm', o ++ o', st'')
        | none => none
      | none => none
    | _ => none
def keepB : List Nat → St → Option (Bx × Ob × St)
  | [], st => some ([], [], st)
  | s :: l, st => match lk st.bx s with
    | some cs => match nameL st s 0 cs with
      | some (cs', o, st') => match keepB l st' with
        | some (bx, o', st'') => some ((s, cs') :: bx, o ++ o', st'')
        | none => none
      | none => none
    | none => none
def keep0 (κ : Kp) (st : St) : Option St :=
  match keepB κ.bx st with
  | some (bx, o, st') => match keepT κ.bx κ.tm st' (masked st.tm.length) with
    | some (tm, o', _) => bif onceL (o ++ o') then some ⟨tm, bx, o ++ o'⟩ else none
    | none => none
  | none => none

/-- a slot that holds the same row as another -/
def sameRow (x y : T) : Bool := match x, y with
  | .v (.one (.own k _)), .v (.one (.own k' _)) => Nat.beq k k'
  | _, _ => false
/-- a row in a row that another slot holds: the slot's new content -/
def subRow (x y z : T) : Option T := match x, y, z with
  | .v (.one (.own1 k i j n)), .v (.one (.own k' _)), .v (.one (.own k2 _)) => bif Nat.beq k k' then some (one (.own1 k2 i j n)) else none
  | _, _, _ => none
/-- a slot, or (from 1000000 on) the first cell of a box -/
def alS (tm : List T) (bx : Bx) (s : Nat) : T := bif Nat.ble 1000000 s then
    match lk bx (s - 1000000) with
    | some (c :: _) => .v (.one c)
    | _ => .v (.one .u)
  else getL tm s
def keepA (tm0 : List T) (bx0 bx : Bx) : List (Nat × Nat) → List T → Option (List T)
  | [], tm => some tm
  | (s', s) :: l, tm => bif sameRow (getL tm0 s') (alS tm0 bx0 s) then keepA tm0 bx0 bx l (setL tm s' (alS tm bx s)) else
    match subRow (getL tm0 s') (getL tm0 s) (getL tm s) with
    | some t => keepA tm0 bx0 bx l (setL tm s' t)
    | none => none
def keep (κ : Kp) (st : St) : Option St :=
  match keep0 κ st with
  | some ⟨tm, bx, ob⟩ => match keepA st.tm st.bx bx κ.al tm with
    | some tm' => some ⟨tm', bx, ob⟩
    | none => none
  | none => none

def WLoop (body : St → (Ex → St → Prop) → Prop) (st : St) (Q : Ex → St → Prop) : Prop :=
  ∃ (κ : Kp) (Inv : Nat → St → Prop) (k : Nat) (s0 : St), keep κ st = some s0 ∧ Inv k s0 ∧
    ∀ k s, Inv k s → body s fun x st' => match x with
      | .normal => ∃ k' s', keep κ st' = some s' ∧ k' < k ∧ Inv k' s'
      | x => Q x st'

def wc (E : Env) : CC → St → (Ex → St → Prop) → Prop
  | .skip, st, Q => Q .normal st
  | .reg is, st, Q => wis E is st (Q .normal)
  | .drw is tl, st, Q => vis E is st.tm st.ob st.bx fun tm ob bx => wis E tl ⟨tm, bx, ob⟩ (Q .normal)
  | .seq a b, st, Q => wc E a st fun x st' => match x with
    | .normal => wc E b st' Q
    | x => Q x st'
  | .cond x a b, st, Q => match ev E st x with
    | .v (.one (.bool c)) => Cnd c (wc E a st Q) (wc E b st Q)
    | _ => False
  | .block id a, st, Q => wc E a st fun x st' => match x with
    | .exit i => bif Nat.beq i id then Q .normal st' else Q (.exit i) st'
    | x => Q x st'
  | .loop a, st, Q => WLoop (fun s Q => wc E a s Q) st Q
  | .exit id, st, Q => Q (.exit id) st
  | .ret, st, Q => Q .ret st

/-! ### a function's end -/
def resV (st : St) : RV → Option V
  | .tmp t => match getL st.tm t with
    | .v x => some x
    | .tup _ => none
  | .cell t n agg => match getL st.tm t with
    | .v (.one (.box s 0)) => match lk st.bx s with
      | some cs => bif Nat.beq cs.length n then some (mk agg cs) else none
      | none => none
    | _ => none
def resVs (st : St) : List RV → Option (List V)
  | [] => some []
  | r :: l => match resV st r with
    | some x => match resVs st l with
      | some xs => some (x :: xs)
      | none => none
    | none => none
def tupOf : List V → T
  | [x] => .v x
  | xs => .tup xs
def lentBack (st : St) : Ob → Option Ob
  | [] => some []
  | (k, _) :: l => match lk st.ob k with
    | some q => match lentBack st l with
      | some l' => some ((k, q) :: l')
      | none => none
    | none => none
/-- a row that was lent and comes back as a result is among those lent -/
def backC (q : Ob) : Cell → Bool
  | .own k _ => !isP k || !(freshK q k)
  | _ => true
def backT (q : Ob) (r : T) : Bool := !(r.any fun c => !(backC q c))
def Ret (rs : List RV) (ob : Ob) (r : T) (obr obo : Ob) (st : St) : Prop :=
  match resVs st rs with
  | some xs => match retVs st 0 xs with
    | some (ys, o, st') => match lentBack st' ob with
      | some q => bif backT q (tupOf ys) then tupOf ys = r ∧ o = obr ∧ q = obo else False
      | none => False
    | none => False
  | none => False
/-- the same, of what only something is told -/
def RetE (rs : List RV) (ob : Ob) (Φ : T → Ob → Ob → Prop) (st : St) : Prop :=
  match resVs st rs with
  | some xs => match retVs st 0 xs with
    | some (ys, o, st') => match lentBack st' ob with
      | some q => bif backT q (tupOf ys) then Φ (tupOf ys) o q else False
      | none => False
    | none => False
  | none => False
def tms : List V → List T
  | [] => []
  | x :: l => .v x :: tms l
def enterSt (cf : CF) (args : List V) (ob : Ob) : St := ⟨tms args ++ masked (cf.ntmps - args.length), [], ob⟩
end Go.Proofs.YtjnpnpkjmlihdaaDoor.Ab
namespace Go.Proofs.YtjnpnpkjmlihdaaDoor.Ab
open Go Go.RowKit

section lists
variable {α : Type}
theorem beq_self (k : Nat) : Nat.beq k k = true := by simp
theorem beq_ne {a b : Nat} (h : a ≠ b) : Nat.beq a b = false := by
  cases e : Nat.beq a b with
  | false => rfl
  | true => exact absurd (Nat.eq_of_beq_eq_true e) h
theorem lk_cons (k : Nat) (x : α) (l : List (Nat × α)) (s : Nat) : lk ((k, x) :: l) s = if k = s then some x else lk l s := by
  by_cases h : k = s
  · subst h; simp [lk, beq_self]
  · simp [lk, beq_ne h, h]
theorem lk_up (l : List (Nat × α)) (k : Nat) (x : α) (s : Nat) : lk (up l k x) s = if k = s then (lk l k).map (fun _ => x) else lk l s := by
  induction l with
  | nil => simp [up, lk]
  | cons p l ih =>
    obtain ⟨a, y⟩ := p
    by_cases h : a = k
    · subst h
      simp only [up, beq_self, cond_true, lk_cons]
      by_cases h2 : a = s <;> simp [h2]
    · simp only [up, beq_ne h, cond_false, lk_cons, ih]
      by_cases h2 : k = s
      · subst h2; simp [h]
      · by_cases h3 : a = s <;> simp [h2, h3]
theorem lk_rm (l : List (Nat × α)) (k s : Nat) : lk (rm l k) s = if k = s then none else lk l s := by
  induction l with
  | nil => simp [rm, lk]
  | cons p l ih =>
    obtain ⟨a, y⟩ := p
    by_cases h : a = k
    · subst h
      simp only [rm, beq_self, cond_true, lk_cons, ih]
      by_cases h2 : a = s <;> simp [h2]
    · simp only [rm, beq_ne h, cond_false, lk_cons, ih]
      by_cases h2 : k = s
      · subst h2; simp [h]
      · by_cases h3 : a = s <;> simp [h2, h3]
theorem lk_append (a b : List (Nat × α)) (s : Nat) : lk (a ++ b) s = (lk a s).or (lk b s) := by
  induction a with
  | nil => simp [lk]
  | cons p a ih =>
    obtain ⟨k, y⟩ := p
    simp only [List.cons_append, lk_cons, ih]
    by_cases h : k = s <;> simp [h]
theorem lk_shift (b : Nat) (l : Ob) (s : Nat) : lk (shift b l) (b + s) = lk l s := by
  induction l with
  | nil => simp [shift, lk]
  | cons p l ih =>
    obtain ⟨k, y⟩ := p
    simp only [shift, lk_cons, ih]
    by_cases h : k = s <;> simp [h]
theorem lk_shift_some {b : Nat} {l : Ob} {s : Nat} {r : Row} (h : lk (shift b l) s = some r) : ∃ k, s = b + k ∧ lk l k = some r := by
  induction l with
  | nil => simp [shift, lk] at h
  | cons p l ih =>
    obtain ⟨k, y⟩ := p
    simp only [shift, lk_cons] at h ⊢
    by_cases h2 : b + k = s
    · simp only [h2, if_true, Option.some.injEq] at h
      exact ⟨k, h2.symm, by simp [h]⟩
    · simp only [h2, if_false] at h
      obtain ⟨k', hk', hl⟩ := ih h
      refine ⟨k', hk', ?_⟩
      have : k ≠ k' := fun e => h2 (by rw [e]; exact hk'.symm)
      simp [this, hl]
theorem freshK_none {l : List (Nat × α)} {k : Nat} (h : freshK l k = true) : lk l k = none := by
  unfold freshK at h
  split at h
  · cases h
  · assumption
theorem noP_isP {ob : Ob} (h : noP ob = true) {k : Nat} {r : Row} (hk : lk ob k = some r) : isP k = false := by
  induction ob with
  | nil => simp [lk] at hk
  | cons p ob ih =>
    obtain ⟨a, y⟩ := p
    simp only [noP, Bool.and_eq_true, Bool.not_eq_true'] at h
    simp only [lk_cons] at hk
    by_cases e : a = k
    · subst e; exact h.1
    · simp only [e, if_false] at hk; exact ih h.2 hk
theorem freshL_none {β : Type} {l : List (Nat × α)} {ob : List (Nat × β)} (h : freshL l ob = true) {k : Nat} {r : β} (hk : lk ob k = some r) : lk l k = none := by
  induction ob with
  | nil => simp [lk] at hk
  | cons p ob ih =>
    obtain ⟨a, y⟩ := p
    simp only [freshL, Bool.and_eq_true] at h
    simp only [lk_cons] at hk
    by_cases e : a = k
    · subst e
      have h1 := h.1
      split at h1
      · cases h1
      · assumption
    · simp only [e, if_false] at hk
      exact ih h.2 hk

theorem getL_setL (l : List T) (s : Nat) (x : T) (s' : Nat) : getL (setL l s x) s' = if s = s' ∧ s < l.length then x else getL l s' := by
  induction l generalizing s s' with
  | nil => simp [setL, getL]
  | cons t l ih =>
    cases s with
    | zero => cases s' <;> simp [setL, getL]
    | succ s => cases s' with
      | zero => simp [setL, getL]
      | succ s' => simp [setL, getL, ih]
theorem length_setL (l : List T) (s : Nat) (x : T) : (setL l s x).length = l.length := by
  induction l generalizing s with
  | nil => simp [setL]
  | cons t l ih => cases s <;> simp [setL, ih]
theorem getL_out (l : List T) (s : Nat) (h : l.length ≤ s) : getL l s = .u := by
  induction l generalizing s with
  | nil => simp [getL]
  | cons t l ih =>
    cases s with
    | zero => simp at h
    | succ s => simp only [getL]; exact ih s (by simpa using h)
theorem getL_tms (xs : List V) (n s : Nat) : getL (tms xs ++ masked n) s = if s < xs.length then .v (nthV xs s) else .u := by
  induction xs generalizing s with
  | nil =>
    simp only [tms, List.nil_append, List.length_nil, Nat.not_lt_zero, if_false]
    induction n generalizing s with
    | zero => simp [masked, getL]
    | succ n ih => cases s <;> simp [masked, getL, ih]
  | cons x xs ih =>
    cases s with
    | zero => simp [tms, getL, nthV]
    | succ s => simp [tms, getL, nthV, ih]
theorem length_tms (xs : List V) : (tms xs).length = xs.length := by
  induction xs with
  | nil => rfl
  | cons x xs ih => simp [tms, ih]
theorem length_masked (n : Nat) : (masked n).length = n := by
  induction n with
  | zero => rfl
  | succ n ih => simp [masked, ih]
theorem getL_masked (n s : Nat) : getL (masked n) s = .u := by
  have := getL_tms [] n s
  simpa [tms] using this

theorem nth_out (l : List Cell) (j : Nat) (h : l.length ≤ j) : nth l j = .u := by
  induction l generalizing j with
  | nil => simp [nth]
  | cons t l ih =>
    cases j with
    | zero => simp at h
    | succ s => simp only [nth]; exact ih s (by simpa using h)
theorem nth_splice (cs : List Cell) (o : Nat) (ys : List Cell) (j : Nat) (hj : j < cs.length) :
    nth (splice cs o ys) j = if o ≤ j ∧ j < o + ys.length then nth ys (j - o) else nth cs j := by
  induction cs generalizing o ys j with
  | nil => simp at hj
  | cons c cs ih =>
    cases o with
    | zero =>
      cases ys with
      | nil => simp [splice]
      | cons y ys =>
        cases j with
        | zero => simp [splice, nth]
        | succ j =>
          simp only [splice, nth]
          rw [ih 0 ys j (by simpa using hj)]
          simp
          by_cases h : j < ys.length
          · simp [h]; simp [nth]
          · simp [h]
    | succ o =>
      cases j with
      | zero => simp [splice, nth]
      | succ j =>
        simp only [splice, nth]
        rw [ih o ys j (by simpa using hj)]
        have e : (o + 1 ≤ j + 1 ∧ j + 1 < o + 1 + ys.length) ↔ (o ≤ j ∧ j < o + ys.length) := by omega
        simp only [e]
        split
        · congr 1; omega
        · rfl
theorem length_splice (cs : List Cell) (o : Nat) (ys : List Cell) : (splice cs o ys).length = cs.length := by
  induction cs generalizing o ys with
  | nil => simp [splice]
  | cons c cs ih =>
    cases o with
    | zero => cases ys <;> simp [splice, ih]
    | succ o => simp [splice, ih]
theorem length_cellsFrom (g : Nat → Cell) (n o : Nat) : (cellsFrom g n o).length = n := by
  induction n generalizing o with
  | zero => rfl
  | succ n ih => simp [cellsFrom, ih]
theorem nth_cellsFrom (g : Nat → Cell) (n o j : Nat) (h : j < n) : nth (cellsFrom g n o) j = g (o + j) := by
  induction n generalizing o j with
  | zero => omega
  | succ n ih =>
    cases j with
    | zero => simp [cellsFrom, nth]
    | succ j => simp only [cellsFrom, nth]; rw [ih (o + 1) j (by omega)]; congr 1; omega
theorem allC_nth {p : Cell → Bool} {l : List Cell} (h : allC p l = true) {j : Nat} (hj : j < l.length) : p (nth l j) = true := by
  induction l generalizing j with
  | nil => simp at hj
  | cons c l ih =>
    simp only [allC, Bool.and_eq_true] at h
    cases j with
    | zero => simpa [nth] using h.1
    | succ j => simpa [nth] using ih h.2 (by simpa using hj)
theorem anyC_nth {p : Cell → Bool} {l : List Cell} (h : anyC p l = false) {j : Nat} (hj : j < l.length) : p (nth l j) = false := by
  induction l generalizing j with
  | nil => simp at hj
  | cons c l ih =>
    simp only [anyC, Bool.or_eq_false_iff] at h
    cases j with
    | zero => simpa [nth] using h.1
    | succ j => simpa [nth] using ih h.2 (by simpa using hj)
theorem nth_killL (p : Cell → Bool) (l : List Cell) (j : Nat) (h : j < l.length) : nth (killL p l) j = killC p (nth l j) := by
  induction l generalizing j with
  | nil => simp at h
  | cons c l ih =>
    cases j with
    | zero => simp [killL, nth]
    | succ j => simpa [killL, nth] using ih j (by simpa using h)
theorem length_killL (p : Cell → Bool) (l : List Cell) : (killL p l).length = l.length := by
  induction l with
  | nil => rfl
  | cons c l ih => simp [killL, ih]
theorem lk_killB (p : Cell → Bool) (b : Bx) (s : Nat) : lk (killB p b) s = (lk b s).map (killL p) := by
  induction b with
  | nil => simp [killB, lk]
  | cons q b ih =>
    obtain ⟨k, cs⟩ := q
    simp only [killB, lk_cons, ih]
    by_cases h : k = s <;> simp [h]
theorem getL_killTs (p : Cell → Bool) (l : List T) (s : Nat) (h : s < l.length) : getL (killTs p l) s = killT p (getL l s) := by
  induction l generalizing s with
  | nil => simp at h
  | cons t l ih =>
    cases s with
    | zero => simp [killTs, getL]
    | succ s => simpa [killTs, getL] using ih s (by simpa using h)
theorem length_killTs (p : Cell → Bool) (l : List T) : (killTs p l).length = l.length := by
  induction l with
  | nil => rfl
  | cons c l ih => simp [killTs, ih]
theorem nthV_killVs (p : Cell → Bool) (l : List V) (j : Nat) (h : j < l.length) : nthV (killVs p l) j = killV p (nthV l j) := by
  induction l generalizing j with
  | nil => simp at h
  | cons c l ih =>
    cases j with
    | zero => simp [killVs, nthV]
    | succ j => simpa [killVs, nthV] using ih j (by simpa using h)
theorem length_killVs (p : Cell → Bool) (l : List V) : (killVs p l).length = l.length := by
  induction l with
  | nil => rfl
  | cons c l ih => simp [killVs, ih]
end lists

/-! ### cells under another memory or other names -/
theorem CRep.plain_of {w : World} {I : Nat → Prop} {v : Value} {c : Cell} (h : CRep w I v c) : c.isFr = false := by
  cases h <;> rfl

theorem SRep.to {w w' : World} {I I' : Nat → Prop} {G G' : Gh} {bx bx' : Bx} {ob ob' : Ob} {v : Value} {c : Cell} (h : SRep w I G bx ob v c)
    (hI : ∀ b, I b → I' b) (hw : ∀ b, I b → w'.heap[b]? = w.heap[b]?)
    (hB : ∀ s cs, lk bx s = some cs → (∃ cs', lk bx' s = some cs') ∧ G'.bx s = G.bx s)
    (hO : ∀ k r, c.isKey k = true → lk ob k = some r → ∃ r', lk ob' k = some r' ∧ r'.n = r.n ∧ r'.sz = r.sz ∧ G'.top k = G.top k ∧
      (c.isDeep k = true → ∀ i j sz n g, i < r.n → j < r.sz → r.get i j = .fr sz n g → r'.get i j = .fr sz n g ∧ G'.sub k i j = G.sub k i j)) :
    SRep w' I' G' bx' ob' v c := by
  cases c with
  | own k n =>
    obtain ⟨r, h1, h2, h3⟩ := h
    obtain ⟨r', a1, a2, a3, a4, _⟩ := hO k r (by simp [Cell.isKey]) h1
    exact ⟨r', a1, a2.trans h2, by rw [a4]; exact h3⟩
  | own1 k i j n =>
    obtain ⟨r, sz, g, h1, h2, h3, h4, h5⟩ := h
    obtain ⟨r', a1, a2, a3, a4, a5⟩ := hO k r (by simp [Cell.isKey]) h1
    obtain ⟨b1, b2⟩ := a5 (by simp [Cell.isDeep]) i j sz n g h2 h3 h4
    exact ⟨r', sz, g, a1, by omega, by omega, b1, by rw [b2]; exact h5⟩
  | box s o =>
    obtain ⟨cs, h1, h2⟩ := h
    obtain ⟨⟨cs', a1⟩, a2⟩ := hB s cs h1
    exact ⟨cs', a1, by rw [a2]; exact h2⟩
  | elt k i o =>
    obtain ⟨r, b, h1, h2, h3, h4⟩ := h
    obtain ⟨r', a1, a2, a3, a4, _⟩ := hO k r (by simp [Cell.isKey]) h1
    exact ⟨r', b, a1, by omega, by rw [a4]; exact h3, by rw [a4, a3]; exact h4⟩
  | elt1 k i j i2 o =>
    obtain ⟨r, sz, n, g, b, h1, h2, h3, h4, h5, h6, h7⟩ := h
    obtain ⟨r', a1, a2, a3, a4, a5⟩ := hO k r (by simp [Cell.isKey]) h1
    obtain ⟨b1, b2⟩ := a5 (by simp [Cell.isDeep]) i j sz n g h2 h3 h4
    exact ⟨r', sz, n, g, b, a1, by omega, by omega, b1, h5, by rw [b2]; exact h6, by rw [b2]; exact h7⟩
  | fn f bs =>
    obtain ⟨caps, h1, h2, h3⟩ := h
    refine ⟨caps, h1, h2, fun j s hj => ?_⟩
    obtain ⟨⟨cs, a1⟩, a2⟩ := h3 j s hj
    obtain ⟨b1, b2⟩ := hB s cs a1
    exact ⟨b1, by rw [b2]; exact a2⟩
  | fr sz n g => exact h.elim
  | u => exact CRep.mono hI hw h
  | sk => exact CRep.mono hI hw h
  | int k n => exact CRep.mono hI hw h
  | bool b => exact CRep.mono hI hw h
  | str s => exact CRep.mono hI hw h
  | ro sz n g => exact CRep.mono hI hw h
  | pro m g => exact CRep.mono hI hw h
  | fnp f m sz g => exact CRep.mono hI hw h
  | emp => exact CRep.mono hI hw h
  | pv φ => exact CRep.mono hI hw h
  | pb k n =>
    obtain ⟨r, b, h1, h2, h3, h4, h5⟩ := h
    obtain ⟨r', a1, a2, a3, a4, _⟩ := hO k r (by simp [Cell.isKey]) h1
    exact ⟨r', b, a1, a2.trans h2, h3, hI _ h4, by rw [a4, World.cell?_of_block (w := w) (hw b h4)]; exact h5⟩
  | fnx f k n i m sz get =>
    obtain ⟨r, caps, bs, vals, h1, h2, h3, h4, h5, h6, h7, h8, h9⟩ := h
    obtain ⟨r', a1, a2, a3, a4, _⟩ := hO k r (by simp [Cell.isKey]) h1
    refine ⟨r', caps, bs, vals, a1, a2.trans h2, h3, h4, h5, fun j hj => hI _ (h6 j hj), h7, fun j o hj hne ho => ?_, ?_⟩
    · obtain ⟨b1, b2⟩ := h8 j o hj hne ho
      exact ⟨by rw [World.cell?_of_block (w := w) (hw _ (h6 j hj))]; exact b1, b2.mono hI hw⟩
    · rw [a4, World.cell?_of_block (w := w) (hw _ (h6 i h5))]; exact h9

theorem SRep.u {w : World} {I : Nat → Prop} {G : Gh} {bx : Bx} {ob : Ob} {v : Value} : SRep w I G bx ob v .u := CRep.u v

/-- the same where a part is struck -/
theorem SRep.toKill {w : World} {I : Nat → Prop} {G G' : Gh} {bx bx' : Bx} {ob ob' : Ob} {v : Value} {c : Cell} {p : Cell → Bool} (h : SRep w I G bx ob v c)
    (hB : ∀ s cs, lk bx s = some cs → (∃ cs', lk bx' s = some cs') ∧ G'.bx s = G.bx s)
    (hO : ∀ k r, p c = false → c.isKey k = true → lk ob k = some r → ∃ r', lk ob' k = some r' ∧ r'.n = r.n ∧ r'.sz = r.sz ∧ G'.top k = G.top k ∧
      (c.isDeep k = true → ∀ i j sz n g, i < r.n → j < r.sz → r.get i j = .fr sz n g → r'.get i j = .fr sz n g ∧ G'.sub k i j = G.sub k i j)) :
    SRep w I G' bx' ob' v (killC p c) := by
  unfold killC
  cases e : p c with
  | true => simp only [cond_true]; exact SRep.u
  | false => simp only [cond_false]; exact h.to (fun _ h => h) (fun _ _ => rfl) hB (fun k r => hO k r e)

def VMap (R R' : Value → Cell → Prop) (x y : V) : Prop :=
  match x, y with
  | .one c, .one d => ∀ v, R v c → R' v d
  | .agg cs, .agg ds => ds.length = cs.length ∧ ∀ j v, j < cs.length → R v (nth cs j) → R' v (nth ds j)
  | _, _ => False

theorem VRep.map {w w' : World} {I I' : Nat → Prop} {G G' : Gh} {bx bx' : Bx} {ob ob' : Ob} {v : Value} {x y : V} (h : VRep w I G bx ob v x)
    (hm : VMap (SRep w I G bx ob) (SRep w' I' G' bx' ob') x y) : VRep w' I' G' bx' ob' v y := by
  cases x with
  | one c => cases y with
    | one d => exact hm v h
    | agg ds => exact hm.elim
  | agg cs => cases y with
    | one d => exact hm.elim
    | agg ds =>
      obtain ⟨arr, h1, h2, h3⟩ := h
      refine ⟨arr, h1, by rw [h2, hm.1], fun j u hu => hm.2 j u ?_ (h3 j u hu)⟩
      have := (Array.getElem?_eq_some_iff.1 hu).1
      omega

theorem VMap.kill {R R' : Value → Cell → Prop} {p : Cell → Bool} (h : ∀ v c, R v c → R' v (killC p c)) (x : V) : VMap R R' x (killV p x) := by
  cases x with
  | one c => exact fun v hv => h v c hv
  | agg cs => exact ⟨length_killL p cs, fun j v hj hv => by rw [nth_killL p cs j hj]; exact h v _ hv⟩
theorem VMap.same {R R' : Value → Cell → Prop} (h : ∀ v c, R v c → R' v c) (x : V) : VMap R R' x x := by
  cases x with
  | one c => exact fun v hv => h v c hv
  | agg cs => exact ⟨rfl, fun j v _ hv => h v _ hv⟩

theorem TRep.kill {w : World} {I : Nat → Prop} {G G' : Gh} {bx bx' : Bx} {ob ob' : Ob} {v : Value} {t : T} {p : Cell → Bool} (h : TRep w I G bx ob v t)
    (hm : ∀ v c, SRep w I G bx ob v c → SRep w I G' bx' ob' v (killC p c)) : TRep w I G' bx' ob' v (killT p t) := by
  cases t with
  | v x => exact VRep.map h (VMap.kill hm x)
  | tup xs =>
    obtain ⟨arr, h1, h2, h3⟩ := h
    refine ⟨arr, h1, by rw [h2, length_killVs], fun j u hu => ?_⟩
    have hj : j < xs.length := by have := (Array.getElem?_eq_some_iff.1 hu).1; omega
    rw [nthV_killVs p xs j hj]
    exact VRep.map (h3 j u hu) (VMap.kill hm _)
theorem TRep.same {w w' : World} {I I' : Nat → Prop} {G G' : Gh} {bx bx' : Bx} {ob ob' : Ob} {v : Value} {t : T} (h : TRep w I G bx ob v t)
    (hm : ∀ v c, SRep w I G bx ob v c → SRep w' I' G' bx' ob' v c) : TRep w' I' G' bx' ob' v t := by
  cases t with
  | v x => exact VRep.map h (VMap.same hm x)
  | tup xs =>
    obtain ⟨arr, h1, h2, h3⟩ := h
    exact ⟨arr, h1, h2, fun j u hu => VRep.map (h3 j u hu) (VMap.same hm _)⟩
theorem TRep.u {w : World} {I : Nat → Prop} {G : Gh} {bx : Bx} {ob : Ob} {v : Value} : TRep w I G bx ob v .u := CRep.u v

theorem RowAt.imp {w w' : World} {h : Hd} {sz n : Nat} {cr cr' : Nat → Nat → Value → Prop} (hr : RowAt w h sz n cr)
    (hw : ∀ b, h.base = some b → w'.heap[b]? = w.heap[b]?) (hc : ∀ i j v, i < n → j < sz → cr i j v → cr' i j v) : RowAt w' h sz n cr' := by
  refine ⟨hr.1, hr.2.1, fun b hb => ?_⟩
  obtain ⟨cs, t, h1, h2, h3⟩ := hr.2.2 b hb
  refine ⟨cs, t, by rw [hw b hb]; exact h1, h2, fun i j hi hj => ?_⟩
  obtain ⟨v, hv, hc'⟩ := h3 i j hi hj
  exact ⟨v, hv, hc i j v hi hj hc'⟩

theorem RowAt.lt {w : World} {h : Hd} {sz n : Nat} {cr : Nat → Nat → Value → Prop} (hr : RowAt w h sz n cr) {b : Nat} (hb : h.base = some b) : b < w.heap.size := by
  obtain ⟨cs, t, h1, _⟩ := hr.2.2 b hb
  exact (Array.getElem?_eq_some_iff.1 h1).1

/-- a row's element is there -/
theorem RowAt.base {w : World} {h : Hd} {sz n : Nat} {cr : Nat → Nat → Value → Prop} (hr : RowAt w h sz n cr) {i : Nat} (hi : i < n) : ∃ b, h.base = some b := by
  cases e : h.base with
  | none => have := hr.2.1 e; have := hr.1; omega
  | some b => exact ⟨b, rfl⟩

section objs
variable {w w0 : World} {I ok : Nat → Prop} {G : Gh} {bx : Bx} {ob : Ob}

theorem Objs.sub (h : Objs w w0 I ok G bx ob) {k i j sz n : Nat} {g : Nat → Nat → Cell} {r : Row} (hr : lk ob k = some r) (hi : i < r.n) (hj : j < r.sz) (hg : r.get i j = .fr sz n g) :
    r.deep = true ∧ RowAt w (G.sub k i j) sz n (fun i' j' v' => CRep w0 I v' (g i' j') ∧ (g i' j').plain = true) := by
  have hR := h.obr k r hr
  obtain ⟨b, hb⟩ := hR.base hi
  obtain ⟨cs, t, _, _, h3⟩ := hR.2.2 b hb
  obtain ⟨v, _, hc⟩ := h3 i j hi hj
  rw [hg] at hc
  exact ⟨hc.1, hc.2.2⟩

theorem Objs.lt (h : Objs w w0 I ok G bx ob) {p : Pos} {b : Nat} (hp : Live bx ob p) (hb : G.blk p = some b) : b < w.heap.size := by
  cases p with
  | bx s =>
    obtain ⟨cs, hs⟩ := hp
    obtain ⟨arr, t, h1, _⟩ := h.bxr s cs hs
    simp only [Gh.blk, Option.some.injEq] at hb
    subst hb
    exact (Array.getElem?_eq_some_iff.1 h1).1
  | top k =>
    obtain ⟨r, hr⟩ := hp
    exact (h.obr k r hr).lt hb
  | sub k i j =>
    obtain ⟨r, sz, n, g, hr, hi, hj, hg⟩ := hp
    exact (h.sub hr hi hj hg).2.lt hb

/-- The names of what is told anew: `old`: what was there before, under its name then; the rest lies in new blocks. -/
structure Emb (w : World) (G : Gh) (bx : Bx) (ob : Ob) (G' : Gh) (bx' : Bx) (ob' : Ob) (φ : Pos → Pos) (new : Pos → Prop) : Prop where
  old : ∀ p b, Live bx' ob' p → ¬ new p → G'.blk p = some b → Live bx ob (φ p) ∧ G.blk (φ p) = some b
  inj : ∀ p q, Live bx' ob' p → Live bx' ob' q → ¬ new p → ¬ new q → φ p = φ q → p = q
  fresh : ∀ p b, Live bx' ob' p → new p → G'.blk p = some b → w.heap.size ≤ b
  ninj : ∀ p q b, Live bx' ob' p → Live bx' ob' q → new p → new q → G'.blk p = some b → G'.blk q = some b → p = q

theorem Emb.apart {G' : Gh} {bx' : Bx} {ob' : Ob} {φ : Pos → Pos} {new : Pos → Prop} (e : Emb w G bx ob G' bx' ob' φ new) (h : Objs w w0 I ok G bx ob) :
    ∀ p q b, Live bx' ob' p → Live bx' ob' q → G'.blk p = some b → G'.blk q = some b → p = q := by
  intro p q b hp hq hbp hbq
  by_cases np : new p
  · by_cases nq : new q
    · exact e.ninj p q b hp hq np nq hbp hbq
    · obtain ⟨l, hl⟩ := e.old q b hq nq hbq
      have := e.fresh p b hp np hbp
      have := h.lt l hl
      omega
  · by_cases nq : new q
    · obtain ⟨l, hl⟩ := e.old p b hp np hbp
      have := e.fresh q b hq nq hbq
      have := h.lt l hl
      omega
    · obtain ⟨l, hl⟩ := e.old p b hp np hbp
      obtain ⟨l2, hl2⟩ := e.old q b hq nq hbq
      exact e.inj p q hp hq np nq (h.inj _ _ b l l2 hl hl2)
theorem Emb.okay {ok' : Nat → Prop} {G' : Gh} {bx' : Bx} {ob' : Ob} {φ : Pos → Pos} {new : Pos → Prop} (e : Emb w G bx ob G' bx' ob' φ new) (h : Objs w w0 I ok G bx ob)
    (h1 : ∀ b, ok b → ok' b) (h2 : ∀ b, w.heap.size ≤ b → ok' b ∧ ¬ I b) : ∀ p b, Live bx' ob' p → G'.blk p = some b → ok' b ∧ ¬ I b := by
  intro p b hp hb
  by_cases np : new p
  · exact h2 b (e.fresh p b hp np hb)
  · obtain ⟨l, hl⟩ := e.old p b hp np hb
    exact ⟨h1 b (h.okb _ b l hl).1, (h.okb _ b l hl).2⟩
end objs
end Go.Proofs.YtjnpnpkjmlihdaaDoor.Ab
namespace Go.Proofs.YtjnpnpkjmlihdaaDoor.Ab
open Go Go.RowKit

structure Cx where
  E : Env
  w0 : World
  I : Nat → Prop
  D : Nat → Prop
  G0 : Gh
  imm : ∀ b, I b → b < w0.heap.size ∧ ¬ D b
  glob : E.gok w0 I

structure Rel (C : Cx) (G : Gh) (st : St) (a : Act) (w : World) : Prop where
  df : a.defers = []
  sz : a.tmps.size = st.tm.length
  tm : ∀ s, TRep C.w0 C.I G st.bx st.ob (a.tmps.getD s undef) (getL st.tm s)
  ob : Objs w C.w0 C.I (fun b => C.w0.heap.size ≤ b ∨ C.D b) G st.bx st.ob
  keep : Keep C.w0 w C.D
  pk : ∀ k r, isP k = true → lk st.ob k = some r → G.top k = C.G0.top k

theorem Rel.heapI {C : Cx} {G : Gh} {st : St} {a : Act} {w : World} (h : Rel C G st a w) {b : Nat} (hb : C.I b) : w.heap[b]? = C.w0.heap[b]? :=
  h.keep.block b (C.imm b hb).1 (C.imm b hb).2
theorem Rel.cellI {C : Cx} {G : Gh} {st : St} {a : Act} {w : World} (h : Rel C G st a w) {b o : Nat} (hb : C.I b) : w.cell? ⟨b, o, none⟩ = C.w0.cell? ⟨b, o, none⟩ :=
  World.cell?_of_block (w := C.w0) (h.heapI hb)

/-- what an operation that yields `t` (and makes `ob'`, `bx'`) owes -/
def Yld (C : Cx) (st : St) (a : Act) (w : World) (o : Oper) (t : T) (ob' : Ob) (bx' : Bx) : Prop :=
  ∀ (next : Act → World → Prop) (QQ : Exit → Act → World → Prop), (∀ v w' G', Rel C G' (st.add ob' bx') a w' →
    TRep C.w0 C.I G' (bx' ++ st.bx) (ob' ++ st.ob) v t → next (a.put o.dst v) w') → o.wp C.E.P a w next QQ

theorem Yld.pure {C : Cx} {G : Gh} {st : St} {a : Act} {w : World} {o : Oper} {t : T} {v : Value} (hv : (execOp a.eval o).run C.E.P w = .ok (.value v) w)
    (hr : TRep C.w0 C.I G st.bx st.ob v t) (h : Rel C G st a w) : Yld C st a w o t [] [] := by
  intro next QQ hn
  unfold Oper.wp
  rw [hv]
  exact hn v w G h hr

/-! ### the check of a code against the machine's -/
def chkC1 (v : Value) (c : Cell) : Bool :=
  match v, c with
  | .int k n, .int k' n' => decide (k = k') && decide (n = n')
  | .bool b, .bool b' => b == b'
  | .string s, .str s' => decide (s = s')
  | .slice none 0 _, .ro _ 0 _ => true
  | _, _ => false
def chkCs : List Value → List Cell → Bool
  | [], [] => true
  | v :: l, c :: m => chkC1 v c && chkCs l m
  | _, _ => false
def chkT (v : Value) (t : T) : Bool :=
  match v, t with
  | .agg vs, .v (.agg cs) => chkCs vs.toList cs
  | v, .v (.one c) => chkC1 v c
  | _, _ => false
def chkA (x : Operand) (c : CA) : Bool :=
  match x, c with
  | .tmp t, .t s => Nat.beq t s
  | .const v, .k c => chkT v c
  | .global g, .g n => Nat.beq g n
  | .func f, .k (.v (.one (.fnp g 0 _ _))) => Nat.beq f g
  | _, _ => false
def chkAs : List Operand → List CA → Bool
  | [], [] => true
  | x :: l, c :: m => chkA x c && chkAs l m
  | _, _ => false

theorem chkC1_rep {v : Value} {c : Cell} (h : chkC1 v c = true) (w : World) (I : Nat → Prop) : CRep w I v c ∧ c.plain = true := by
  unfold chkC1 at h
  split at h
  · simp only [Bool.and_eq_true, decide_eq_true_eq] at h; rw [h.1, h.2]; exact ⟨.int _ _, rfl⟩
  · simp only [beq_iff_eq] at h; rw [h]; exact ⟨.bool _, rfl⟩
  · simp only [decide_eq_true_eq] at h; rw [h]; exact ⟨.str _, rfl⟩
  · exact ⟨.ro0 _ _ _ _, rfl⟩
  · cases h
theorem SRep.of_plain {w : World} {I : Nat → Prop} {G : Gh} {bx : Bx} {ob : Ob} {v : Value} {c : Cell} (h : CRep w I v c) : SRep w I G bx ob v c := by
  cases c <;> first | exact h | cases h
theorem SRep.plain {w : World} {I : Nat → Prop} {G : Gh} {bx : Bx} {ob : Ob} {v : Value} {c : Cell} (h : SRep w I G bx ob v c) (hp : c.plain = true) : CRep w I v c := by
  cases c <;> first | exact h | cases hp
theorem chkCs_rep : ∀ {vs : List Value} {cs : List Cell}, chkCs vs cs = true → vs.length = cs.length ∧ ∀ (j : Nat) (u : Value), vs[j]? = some u → ∀ w I, CRep w I u (nth cs j) ∧ (nth cs j).plain = true
  | [], [], _ => ⟨rfl, fun j u h => by simp at h⟩
  | v :: vs, c :: cs, h => by
    simp only [chkCs, Bool.and_eq_true] at h
    obtain ⟨h1, h2⟩ := chkCs_rep h.2
    refine ⟨by simp [h1], fun j u hj w I => ?_⟩
    cases j with
    | zero => simp at hj; subst hj; exact chkC1_rep h.1 w I
    | succ j => exact h2 j u (by simpa using hj) w I
  | [], _ :: _, h => by cases h
  | _ :: _, [], h => by cases h
theorem chkT_rep {v : Value} {t : T} (h : chkT v t = true) {w : World} {I : Nat → Prop} {G : Gh} {bx : Bx} {ob : Ob} : TRep w I G bx ob v t := by
  unfold chkT at h
  split at h
  · rename_i vs cs
    obtain ⟨h1, h2⟩ := chkCs_rep h
    exact ⟨vs, rfl, by simpa using h1, fun j u hj => SRep.of_plain (h2 j u (by simpa using hj) w I).1⟩
  · rename_i v c _
    exact SRep.of_plain (chkC1_rep h w I).1
  · cases h

/-- the view of an operation: what its operands read as, over the memory as it is -/
structure View (C : Cx) (G : Gh) (sv st : St) (a : Act) (xs : List CA) : Prop where
  op : ∀ s, CA.t s ∈ xs → TRep C.w0 C.I G st.bx st.ob (a.tmps.getD s undef) (getL sv.tm s)
  bx : ∀ s cs, lk sv.bx s = some cs → lk st.bx s = some cs
  ob : ∀ k r, lk sv.ob k = some r → lk st.ob k = some r

theorem View.ev {C : Cx} {G : Gh} {sv st : St} {a : Act} {xs : List CA} (V : View C G sv st a xs) {x : Operand} {c : CA} (hx : chkA x c = true) (hc : c ∈ xs) :
    TRep C.w0 C.I G st.bx st.ob (a.eval x) (Ab.ev C.E sv c) := by
  unfold chkA at hx
  split at hx
  · rename_i t s
    have := Nat.eq_of_beq_eq_true hx; subst this
    exact V.op _ hc
  · exact chkT_rep hx
  · rename_i g n
    have := Nat.eq_of_beq_eq_true hx; subst this
    simp only [Ab.ev]
    cases e : lk C.E.gl g with
    | none => exact TRep.u
    | some p =>
      obtain ⟨m, get⟩ := p
      exact C.glob.1 g m get e
  · rename_i f g sz get
    have := Nat.eq_of_beq_eq_true hx; subst this
    exact (CRep.fnp f 0 sz get #[] (fun _ => 0) (fun _ _ => undef) rfl (fun i h => by omega) (fun i h => by omega) (fun i j h => by omega) (fun i j h => by omega))
  · cases hx

theorem rep_int {w : World} {I : Nat → Prop} {G : Gh} {bx : Bx} {ob : Ob} {v : Value} {k : IntKind} {n : Int} (h : TRep w I G bx ob v (.v (.one (.int k n)))) : v = .int k n := by
  have h : CRep w I v (.int k n) := h; cases h; rfl
theorem rep_bool {w : World} {I : Nat → Prop} {G : Gh} {bx : Bx} {ob : Ob} {v : Value} {b : Bool} (h : TRep w I G bx ob v (.v (.one (.bool b)))) : v = .bool b := by
  have h : CRep w I v (.bool b) := h; cases h; rfl
theorem rep_str {w : World} {I : Nat → Prop} {G : Gh} {bx : Bx} {ob : Ob} {v : Value} {s : ByteArray} (h : TRep w I G bx ob v (.v (.one (.str s)))) : v = .string s := by
  have h : CRep w I v (.str s) := h; cases h; rfl
theorem rep_sk {w : World} {I : Nat → Prop} {G : Gh} {bx : Bx} {ob : Ob} {v : Value} (h : TRep w I G bx ob v (.v (.one .sk))) : v = undef := by
  have h : CRep w I v .sk := h; cases h; rfl
theorem mk_int {w : World} {I : Nat → Prop} {G : Gh} {bx : Bx} {ob : Ob} {k : IntKind} {n : Int} : TRep w I G bx ob (.int k n) (one (.int k n)) := CRep.int k n
theorem mk_bool {w : World} {I : Nat → Prop} {G : Gh} {bx : Bx} {ob : Ob} {b : Bool} : TRep w I G bx ob (.bool b) (one (.bool b)) := CRep.bool b
theorem mk_str {w : World} {I : Nat → Prop} {G : Gh} {bx : Bx} {ob : Ob} {s : ByteArray} : TRep w I G bx ob (.string s) (one (.str s)) := CRep.str s

/-! ### operations on numbers, bools and texts -/
theorem bin_ok {C : Cx} {G : Gh} {st : St} {w : World} {P : Program} {op : BinOp} {tx : TypeId} {xo yo : Operand} {x y : Value} {tx' ty' : T} {K : Cell → Prop}
    (h : bin op tx' ty' K) (hx : TRep C.w0 C.I G st.bx st.ob x tx') (hy : TRep C.w0 C.I G st.bx st.ob y ty') :
    ∃ c v, K c ∧ (do eqGuard op tx xo yo x y; Go.binOp op tx x y : Sem Value).run P w = .ok v w ∧ TRep C.w0 C.I G st.bx st.ob v (one c) := by
  unfold bin at h
  split at h
  · rename_i k a k' b
    have hkk : k = k' := by cases k <;> cases k' <;> first | rfl | exact h.elim
    subst hkk
    have h : binI op k a b K := by cases k <;> exact h
    obtain rfl := rep_int hx
    obtain rfl := rep_int hy
    cases op <;> simp only [binI] at h <;> first
      | exact h.elim
      | exact ⟨_, _, h, by simp [eqGuard, Go.binOp, Op.intArith, Op.intCmp, go_sem]; rfl, by first | exact mk_int | exact mk_bool⟩
      | exact ⟨_, _, h.2, by have := h.1; simp [eqGuard, Go.binOp, Op.intDiv, go_sem, this]; rfl, by first | exact mk_int | exact mk_bool⟩
  · rename_i a b
    obtain rfl := rep_str hx
    obtain rfl := rep_str hy
    cases op <;> simp only [binS] at h <;> first
      | exact h.elim
      | exact ⟨_, _, h, rfl, mk_bool⟩
      | exact ⟨_, _, h.2, by
          have h1 := h.1
          have h2 : ¬ (((a.size + b.size : Nat) : Int) > IntKind.i64.max) := by
            simp only [show IntKind.i64.max = 9223372036854775807 from by decide]; omega
          simp only [eqGuard, Go.binOp, Op.stringOp, if_neg h2]
          rfl, mk_str⟩
  · exact h.elim

theorem cell_of_heap {w : World} {b o : Nat} {cs : Array Value} {t : TypeId} {f : Nat × Nat} (h : w.heap[b]? = some (.cells cs t f)) : w.cell? ⟨b, o, none⟩ = cs[o]? := by
  simp [World.cell?, h]
theorem addr_add (b o j : Nat) : (⟨b, o, none⟩ : Addr).add j = ⟨b, o + j, none⟩ := by
  unfold Addr.add; split <;> simp_all

theorem Cont.rep {C : Cx} {G : Gh} {st : St} {a : Act} {w : World} (h : Rel C G st a w) {k : Nat} {r : Row} (hr : lk st.ob k = some r) {i j : Nat} (hi : i < r.n) (hj : j < r.sz)
    {v : Value} (hc : Cont w C.w0 C.I G k r.deep i j v (r.get i j)) : SRep C.w0 C.I G st.bx st.ob v (inRow k i j (r.get i j)) := by
  cases e : r.get i j with
  | fr sz n g =>
    rw [e] at hc
    exact ⟨r, sz, g, hr, hi, hj, e, hc.2.1⟩
  | _ =>
    rw [e] at hc
    first
      | exact hc.1
      | exact SRep.of_plain hc.1
      | (have := hc.2; cases this)

theorem ptr_cells {C : Cx} {G : Gh} {sv st : St} {a : Act} {w : World} {xs : List CA} (h : Rel C G st a w) (V : View C G sv st a xs) {n : Nat} {x : T} {K : List Cell → Prop}
    {v : Value} (hK : ldK sv n x K) (hv : TRep C.w0 C.I G st.bx st.ob v x) :
    ∃ cs b o, K cs ∧ v = .pointer (some ⟨b, o, none⟩) ∧ cs.length = n ∧ ∀ j, j < n → ∃ u, w.cell? ⟨b, o + j, none⟩ = some u ∧ SRep C.w0 C.I G st.bx st.ob u (nth cs j) := by
  unfold ldK at hK
  split at hK
  · rename_i s o
    split at hK
    · rename_i cs hcs
      obtain ⟨hle, hK⟩ := hK
      have hle := Nat.le_of_ble_eq_true hle
      obtain ⟨cs', h1, h2⟩ := hv
      obtain ⟨arr, t, b1, b2, b3⟩ := h.ob.bxr s cs (V.bx s cs hcs)
      refine ⟨_, _, _, hK, h2, length_cellsFrom _ _ _, fun j hj => ?_⟩
      have hlt : o + j < arr.size := by omega
      refine ⟨arr[o + j], ?_, ?_⟩
      · rw [cell_of_heap b1]; simp [hlt]
      · rw [nth_cellsFrom _ _ _ _ hj]; exact (b3 (o + j) _ (by simp [hlt])).1
    · exact hK.elim
  · rename_i k i o
    split at hK
    · rename_i r hr
      obtain ⟨hle, hK⟩ := hK
      have hle := Nat.le_of_ble_eq_true hle
      have hr' := V.ob k r hr
      obtain ⟨r2, b, h1, h2, h3, h4⟩ := hv
      rw [hr'] at h1; cases h1
      obtain ⟨cs, t, c1, c2, c3⟩ := (h.ob.obr k r hr').2.2 b h3
      refine ⟨_, _, _, hK, h4, length_cellsFrom _ _ _, fun j hj => ?_⟩
      obtain ⟨u, hu, hc⟩ := c3 i (o + j) h2 (by omega)
      refine ⟨u, ?_, ?_⟩
      · rw [cell_of_heap c1, show (G.top k).off + (i * r.sz + o) + j = (G.top k).off + (i * r.sz + (o + j)) by omega]; exact hu
      · rw [nth_cellsFrom _ _ _ _ hj]; exact Cont.rep h hr' h2 (by omega) hc
    · exact hK.elim
  · rename_i k i j i2 o
    split at hK
    · rename_i r hr
      split at hK
      · rename_i sz m g hg
        obtain ⟨hle, hK⟩ := hK
        have hle := Nat.le_of_ble_eq_true hle
        have hr' := V.ob k r hr
        obtain ⟨r2, sz2, n2, g2, b, h1, h2, h3, h4, h5, h6, h7⟩ := hv
        rw [hr'] at h1; cases h1
        rw [hg] at h4; cases h4
        obtain ⟨_, hR⟩ := h.ob.sub hr' h2 h3 hg
        obtain ⟨cs, t, c1, c2, c3⟩ := hR.2.2 b h6
        refine ⟨_, _, _, hK, h7, length_cellsFrom _ _ _, fun j' hj' => ?_⟩
        obtain ⟨u, hu, hc, _⟩ := c3 i2 (o + j') h5 (by omega)
        refine ⟨u, ?_, ?_⟩
        · rw [cell_of_heap c1, show (G.sub k i j).off + (i2 * sz + o) + j' = (G.sub k i j).off + (i2 * sz + (o + j')) by omega]; exact hu
        · rw [nth_cellsFrom _ _ _ _ hj']; exact SRep.of_plain hc
      · exact hK.elim
    · exact hK.elim
  · rename_i m g
    obtain ⟨hle, hK⟩ := hK
    have hle := Nat.le_of_ble_eq_true hle
    have hv : CRep C.w0 C.I v (.pro m g) := hv
    cases hv with
    | pro b o m g vals hI hc hr =>
      refine ⟨_, _, _, hK, rfl, length_cellsFrom _ _ _, fun j hj => ⟨vals j, ?_, ?_⟩⟩
      · rw [h.cellI hI]; exact hc j (by omega)
      · rw [nth_cellsFrom _ _ _ _ hj, Nat.zero_add]; exact SRep.of_plain (hr j (by omega))
  · rename_i k m
    cases e : Nat.beq n 1 with
    | false => rw [e] at hK; exact hK.elim
    | true =>
      rw [e] at hK
      obtain rfl := Nat.eq_of_beq_eq_true e
      obtain ⟨r, b, h1, h2, h3, h4, h5⟩ := hv
      refine ⟨[.own k m], b, 0, hK, h3, rfl, fun j hj => ⟨(G.top k).val m, ?_, ?_⟩⟩
      · obtain rfl : j = 0 := by omega
        rw [h.cellI h4]; exact h5
      · obtain rfl : j = 0 := by omega
        exact ⟨r, h1, h2, rfl⟩
  · exact hK.elim

def aggT (P : Program) (t : TypeId) : Option Bool := (P.underlying t).map fun
  | .struct _ | .array _ _ => true
  | _ => false
def sizeT (P : Program) (t : TypeId) : Option Nat := (P.info? t).map (·.size)

theorem run_underlying {P : Program} {t : TypeId} {d : TypeDesc} {w : World} (h : P.underlying t = some d) : (underlying t).run P w = .ok d w := by
  have : (underlying t).run P w = (match P.underlying t with | some d => (Pure.pure d : Sem TypeDesc) | none => stuck "no such type").run P w := rfl
  rw [this, h]; rfl
theorem run_typeInfo {P : Program} {t : TypeId} {i : TypeInfo} {w : World} (h : P.info? t = some i) : (typeInfo t).run P w = .ok i w := by
  have : (typeInfo t).run P w = (match P.info? t with | some i => (Pure.pure i : Sem TypeInfo) | none => stuck "no such type").run P w := rfl
  rw [this, h]; rfl
theorem run_sizeOf {P : Program} {t : TypeId} {n : Nat} {w : World} (h : sizeT P t = some n) : (sizeOf t).run P w = .ok n w := by
  unfold sizeT at h
  cases e : P.info? t with
  | none => rw [e] at h; cases h
  | some i =>
    rw [e] at h
    simp only [Option.map_some, Option.some.injEq] at h
    simp only [sizeOf, Sem.run_bind, run_typeInfo e, Result.andThen_ok]
    rw [← h]; rfl
theorem run_isAgg {P : Program} {t : TypeId} {b : Bool} {w : World} (h : aggT P t = some b) : (isAgg t).run P w = .ok b w := by
  unfold aggT at h
  cases e : P.underlying t with
  | none => rw [e] at h; cases h
  | some d =>
    rw [e] at h
    simp only [Option.map_some, Option.some.injEq] at h
    simp only [isAgg, Sem.run_bind, run_underlying e, Result.andThen_ok]
    rw [← h]
    cases d <;> rfl

theorem ld_ok {C : Cx} {G : Gh} {sv st : St} {a : Act} {w : World} {xs : List CA} {P : Program} {t : TypeId} {n : Nat} {agg : Bool} (h : Rel C G st a w) (V : View C G sv st a xs) {x : T} {K : List Cell → Prop}
    {v : Value} (hK : ldK sv n x K) (hv : TRep C.w0 C.I G st.bx st.ob v x) (hn : sizeT P t = some n) (ha : aggT P t = some agg) (h1 : agg = false → n = 1) :
    ∃ cs u, K cs ∧ (Instr.loadAt t v).run P w = .ok u w ∧ TRep C.w0 C.I G st.bx st.ob u (.v (mk agg cs)) := by
  obtain ⟨cs, b, o, hK', rfl, hl, hc⟩ := ptr_cells h V hK hv
  clear hK
  refine ⟨cs, ?_⟩
  cases agg with
  | false =>
    obtain rfl := h1 rfl
    obtain ⟨u, hu, hs⟩ := hc 0 (by omega)
    refine ⟨u, hK', ?_, ?_⟩
    · have e : (load ⟨b, o, none⟩).run P w = .ok u w := by
        have hu : w.cell? ⟨b, o, none⟩ = some u := hu
        simp only [load, Sem.run, hu]
      have : (Instr.loadAt t (.pointer (some ⟨b, o, none⟩))).run P w = ((isAgg t).run P w).andThen fun z w => (if z then (do pure (.agg (← loadCells ⟨b, o, none⟩ (← sizeOf t)))) else load ⟨b, o, none⟩ : Sem Value).run P w := by
        simp only [Instr.loadAt, Instr.sureAddr, loadVar, Sem.run_bind]; rfl
      rw [this, run_isAgg ha]
      exact e
    · cases cs with
      | nil => simp at hl
      | cons c cs => exact hs
  | true =>
    let f : Nat → Value := fun j => (w.cell? ⟨b, o + j, none⟩).getD undef
    have hf : ∀ j, j < n → w.cell? ((⟨b, o, none⟩ : Addr).add j) = some (f j) := by
      intro j hj
      obtain ⟨u, hu, _⟩ := hc j hj
      rw [addr_add]; simp [f, hu]
    refine ⟨.agg ((List.range n).map f).toArray, hK', ?_, ?_⟩
    · have : (Instr.loadAt t (.pointer (some ⟨b, o, none⟩))).run P w = ((isAgg t).run P w).andThen fun z w => (if z then (do pure (.agg (← loadCells ⟨b, o, none⟩ (← sizeOf t)))) else load ⟨b, o, none⟩ : Sem Value).run P w := by
        simp only [Instr.loadAt, Instr.sureAddr, loadVar, Sem.run_bind]; rfl
      rw [this, run_isAgg ha]
      simp only [Result.andThen_ok, if_true, Sem.run_bind, run_sizeOf hn, run_loadCells (P := P) w ⟨b, o, none⟩ n f hf]
      rfl
    · refine ⟨_, rfl, by simp [hl], fun j u hu => ?_⟩
      have hj : j < n := by have := (Array.getElem?_eq_some_iff.1 hu).1; simpa using this
      obtain ⟨u', hu', hs⟩ := hc j hj
      have : u = f j := by simp [hj] at hu; exact hu.symm
      rw [this]; simp [f, hu']; exact hs

/-! ### new memory -/
structure Grow (w w' : World) : Prop where
  os : w'.os = w.os
  tape : w'.tape = w.tape
  output : w'.output = w.output
  size : w.heap.size ≤ w'.heap.size
  block : ∀ b, b < w.heap.size → w'.heap[b]? = w.heap[b]?

theorem Objs.world {w w' w0 : World} {I ok : Nat → Prop} {G : Gh} {bx : Bx} {ob : Ob} (h : Objs w w0 I ok G bx ob) (hw : ∀ p b, Live bx ob p → G.blk p = some b → w'.heap[b]? = w.heap[b]?) :
    Objs w' w0 I ok G bx ob where
  bxr s cs hs := by
    obtain ⟨arr, t, h1, h2⟩ := h.bxr s cs hs
    exact ⟨arr, t, by rw [hw (.bx s) _ ⟨cs, hs⟩ rfl]; exact h1, h2⟩
  obr k r hr := by
    refine (h.obr k r hr).imp (fun b hb => hw (.top k) b ⟨r, hr⟩ hb) (fun i j v hi hj hc => ?_)
    cases e : r.get i j with
    | fr sz n g =>
      rw [e] at hc
      exact ⟨hc.1, hc.2.1, hc.2.2.imp (fun b hb => hw (.sub k i j) b ⟨r, sz, n, g, hr, hi, hj, e⟩ hb) (fun _ _ _ _ _ h => h)⟩
    | _ => rw [e] at hc; exact hc
  inj := h.inj
  okb := h.okb

theorem Rel.grow {C : Cx} {G : Gh} {st : St} {a : Act} {w w' : World} (h : Rel C G st a w) (g : Grow w w') : Rel C G st a w' where
  df := h.df
  sz := h.sz
  tm := h.tm
  ob := h.ob.world fun p b hp hb => g.block b (h.ob.lt hp hb)
  keep := ⟨g.os.trans h.keep.os, g.tape.trans h.keep.tape, g.output.trans h.keep.output, Nat.le_trans h.keep.size g.size,
    fun b hb hd => (g.block b (Nat.lt_of_lt_of_le hb h.keep.size)).trans (h.keep.block b hb hd)⟩
  pk := h.pk

theorem Grow.push (w : World) (o : Obj) : Grow w { w with heap := w.heap.push o } where
  os := rfl
  tape := rfl
  output := rfl
  size := by simp
  block b hb := by rw [Array.getElem?_push, if_neg (by omega)]
theorem Grow.refl (w : World) : Grow w w := ⟨rfl, rfl, rfl, Nat.le_refl _, fun _ _ => rfl⟩
theorem Grow.trans {a b c : World} (h : Grow a b) (g : Grow b c) : Grow a c :=
  ⟨g.os.trans h.os, g.tape.trans h.tape, g.output.trans h.output, Nat.le_trans h.size g.size, fun k hk => (g.block k (Nat.lt_of_lt_of_le hk h.size)).trans (h.block k hk)⟩

theorem lk_add_ob {st : St} {o : Ob} {k : Nat} {r : Row} (hf : ∀ k r, lk o k = some r → lk st.ob k = none) (h : lk st.ob k = some r) : lk (o ++ st.ob) k = some r := by
  rw [lk_append]
  cases e : lk o k with
  | none => simpa using h
  | some q => rw [hf k q e] at h; cases h

theorem Rel.newB {C : Cx} {G : Gh} {st : St} {a : Act} {w : World} (h : Rel C G st a w) {s b : Nat} {cs : List Cell} {arr : Array Value} {t : TypeId}
    (hs : lk st.bx s = none) (hb : w.heap[b]? = some (.cells arr t (0, 0))) (hl : arr.size = cs.length)
    (hc : ∀ (j : Nat) (u : Value), arr[j]? = some u → SRep C.w0 C.I G st.bx st.ob u (nth cs j) ∧ (nth cs j).stor = true)
    (hf : ∀ p, Live st.bx st.ob p → G.blk p ≠ some b) (ho : C.w0.heap.size ≤ b) :
    Rel C { G with bx := fun s' => if s' = s then b else G.bx s' } (st.add [] [(s, cs)]) a w ∧
    (∀ v c, SRep C.w0 C.I G st.bx st.ob v c → SRep C.w0 C.I { G with bx := fun s' => if s' = s then b else G.bx s' } ((s, cs) :: st.bx) st.ob v c) ∧
    SRep C.w0 C.I { G with bx := fun s' => if s' = s then b else G.bx s' } ((s, cs) :: st.bx) st.ob (.pointer (some ⟨b, 0, none⟩)) (.box s 0) := by
  have hext : ∀ v c, SRep C.w0 C.I G st.bx st.ob v c → SRep C.w0 C.I { G with bx := fun s' => if s' = s then b else G.bx s' } ((s, cs) :: st.bx) st.ob v c := by
    intro v c hv
    refine hv.to (fun _ h => h) (fun _ _ => rfl) (fun s' cs' hs' => ?_) (fun k r _ hr => ⟨r, hr, rfl, rfl, rfl, fun _ i j sz n g _ _ hg => ⟨hg, rfl⟩⟩)
    have : s' ≠ s := fun e => by rw [e, hs] at hs'; cases hs'
    refine ⟨⟨cs', ?_⟩, by simp [this]⟩
    rw [lk_cons, if_neg (Ne.symm this)]; exact hs'
  have hbI : ¬ C.I b := fun hI => by have := (C.imm b hI).1; omega
  have live : ∀ p, Live ((s, cs) :: st.bx) st.ob p → p = .bx s ∨ (Live st.bx st.ob p ∧ ∀ x, ({ G with bx := fun s' => if s' = s then b else G.bx s' } : Gh).blk p = some x → G.blk p = some x) := by
    intro p hp
    cases p with
    | bx s' =>
      by_cases e : s' = s
      · exact .inl (by rw [e])
      · refine .inr ⟨?_, fun x hx => by simpa [Gh.blk, e] using hx⟩
        obtain ⟨cs', h1⟩ := hp
        rw [lk_cons, if_neg (Ne.symm e)] at h1
        exact ⟨cs', h1⟩
    | top k => exact .inr ⟨hp, fun x hx => hx⟩
    | sub k i j => exact .inr ⟨hp, fun x hx => hx⟩
  refine ⟨⟨h.df, h.sz, fun s' => (h.tm s').same hext, ⟨?_, ?_, ?_, ?_⟩, h.keep, h.pk⟩, hext, ?_⟩
  · intro s' cs' hs'
    by_cases e : s' = s
    · subst e
      have : cs' = cs := by
        have : lk ((s', cs) :: st.bx) s' = some cs' := hs'
        rw [lk_cons, if_pos rfl] at this; exact (Option.some.inj this).symm
      subst this
      exact ⟨arr, t, by simpa using hb, hl, fun j u hu => ⟨hext _ _ (hc j u hu).1, trivial⟩⟩
    · have h1 : lk ((s, cs) :: st.bx) s' = some cs' := hs'
      rw [lk_cons, if_neg (Ne.symm e)] at h1
      obtain ⟨arr', t', b1, b2, b3⟩ := h.ob.bxr s' cs' h1
      exact ⟨arr', t', by simpa [e] using b1, b2, fun j u hu => ⟨hext _ _ (b3 j u hu).1, (b3 j u hu).2⟩⟩
  · intro k r hr
    exact (h.ob.obr k r hr).imp (fun _ _ => rfl) (fun i j v _ _ hc' => by cases e : r.get i j <;> rw [e] at hc' <;> exact hc')
  · intro p q x hp hq hbp hbq
    rcases live p hp with rfl | ⟨lp, gp⟩
    · rcases live q hq with rfl | ⟨lq, gq⟩
      · rfl
      · simp [Gh.blk] at hbp
        exact absurd (gq x hbq) (by rw [← hbp]; exact hf q lq)
    · rcases live q hq with rfl | ⟨lq, gq⟩
      · simp [Gh.blk] at hbq
        exact absurd (gp x hbp) (by rw [← hbq]; exact hf p lp)
      · exact h.ob.inj p q x lp lq (gp x hbp) (gq x hbq)
  · intro p x hp hbp
    rcases live p hp with rfl | ⟨lp, gp⟩
    · simp [Gh.blk] at hbp
      subst hbp
      exact ⟨.inl ho, hbI⟩
    · exact h.ob.okb p x lp (gp x hbp)
  · exact ⟨cs, by simp [lk_cons], by simp⟩

/-- a new row of plain cells -/
theorem Rel.newR {C : Cx} {G : Gh} {st : St} {a : Act} {w : World} (h : Rel C G st a w) {k : Nat} {r : Row} {d : Hd}
    (hk : lk st.ob k = none) (hp : isP k = false) (hr : RowAt w d r.sz r.n (fun i j v => CRep C.w0 C.I v (r.get i j) ∧ (r.get i j).plain = true))
    (hf : ∀ p b, d.base = some b → Live st.bx st.ob p → G.blk p ≠ some b) (ho : ∀ b, d.base = some b → C.w0.heap.size ≤ b) :
    Rel C { G with top := fun k' => if k' = k then d else G.top k' } (st.add [(k, r)] []) a w ∧
    (∀ v c, SRep C.w0 C.I G st.bx st.ob v c → SRep C.w0 C.I { G with top := fun k' => if k' = k then d else G.top k' } st.bx ((k, r) :: st.ob) v c) ∧
    SRep C.w0 C.I { G with top := fun k' => if k' = k then d else G.top k' } st.bx ((k, r) :: st.ob) (d.val r.n) (.own k r.n) := by
  have hext : ∀ v c, SRep C.w0 C.I G st.bx st.ob v c → SRep C.w0 C.I { G with top := fun k' => if k' = k then d else G.top k' } st.bx ((k, r) :: st.ob) v c := by
    intro v c hv
    refine hv.to (fun _ h => h) (fun _ _ => rfl) (fun s cs hs => ⟨⟨cs, hs⟩, rfl⟩) (fun k' r' _ hr' => ?_)
    have : k' ≠ k := fun e => by rw [e, hk] at hr'; cases hr'
    refine ⟨r', ?_, rfl, rfl, by simp [this], fun _ i j sz n g _ _ hg => ⟨hg, rfl⟩⟩
    rw [lk_cons, if_neg (Ne.symm this)]; exact hr'
  have plain : ∀ i j, i < r.n → j < r.sz → ∀ sz n g, r.get i j ≠ .fr sz n g := by
    intro i j hi hj sz n g e
    obtain ⟨b, hb⟩ := hr.base hi
    obtain ⟨cs, t, _, _, h3⟩ := hr.2.2 b hb
    obtain ⟨v, _, hc⟩ := h3 i j hi hj
    rw [e] at hc; cases hc.2
  have live : ∀ p, Live st.bx ((k, r) :: st.ob) p → p = .top k ∨ (Live st.bx st.ob p ∧ ∀ x, ({ G with top := fun k' => if k' = k then d else G.top k' } : Gh).blk p = some x → G.blk p = some x) := by
    intro p hp
    cases p with
    | bx s => exact .inr ⟨hp, fun x hx => hx⟩
    | top k' =>
      by_cases e : k' = k
      · exact .inl (by rw [e])
      · refine .inr ⟨?_, fun x hx => by simpa [Gh.blk, e] using hx⟩
        obtain ⟨r', h1⟩ := hp
        rw [lk_cons, if_neg (Ne.symm e)] at h1
        exact ⟨r', h1⟩
    | sub k' i j =>
      obtain ⟨r', sz, n, g, h1, hi, hj, hg⟩ := hp
      by_cases e : k' = k
      · subst e
        rw [lk_cons, if_pos rfl] at h1; cases h1
        exact absurd hg (plain i j hi hj sz n g)
      · rw [lk_cons, if_neg (Ne.symm e)] at h1
        exact .inr ⟨⟨r', sz, n, g, h1, hi, hj, hg⟩, fun x hx => hx⟩
  refine ⟨⟨h.df, h.sz, fun s => (h.tm s).same hext, ⟨?_, ?_, ?_, ?_⟩, h.keep, ?_⟩, hext, ?_⟩
  · intro s cs hs
    obtain ⟨arr, t, b1, b2, b3⟩ := h.ob.bxr s cs hs
    exact ⟨arr, t, b1, b2, fun j u hu => ⟨hext _ _ (b3 j u hu).1, (b3 j u hu).2⟩⟩
  · intro k' r' hr'
    by_cases e : k' = k
    · subst e
      have : r' = r := by
        have : lk ((k', r) :: st.ob) k' = some r' := hr'
        rw [lk_cons, if_pos rfl] at this; exact (Option.some.inj this).symm
      subst this
      simp only [if_pos]
      refine hr.imp (fun _ _ => rfl) (fun i j v hi hj hc => ?_)
      cases e2 : r'.get i j with
      | fr sz n g => exact absurd e2 (plain i j hi hj sz n g)
      | _ => rw [e2] at hc; exact hc
    · have h1 : lk ((k, r) :: st.ob) k' = some r' := hr'
      rw [lk_cons, if_neg (Ne.symm e)] at h1
      simp only [if_neg e]
      exact (h.ob.obr k' r' h1).imp (fun _ _ => rfl) (fun i j v _ _ hc' => by cases e : r'.get i j <;> rw [e] at hc' <;> exact hc')
  · intro p q x hp hq hbp hbq
    rcases live p hp with rfl | ⟨lp, gp⟩
    · rcases live q hq with rfl | ⟨lq, gq⟩
      · rfl
      · simp only [Gh.blk, if_pos] at hbp
        exact absurd (gq x hbq) (hf q x hbp lq)
    · rcases live q hq with rfl | ⟨lq, gq⟩
      · simp only [Gh.blk, if_pos] at hbq
        exact absurd (gp x hbp) (hf p x hbq lp)
      · exact h.ob.inj p q x lp lq (gp x hbp) (gq x hbq)
  · intro p x hp hbp
    rcases live p hp with rfl | ⟨lp, gp⟩
    · simp only [Gh.blk, if_pos] at hbp
      exact ⟨.inl (ho x hbp), fun hI => by have := (C.imm x hI).1; have := ho x hbp; omega⟩
    · exact h.ob.okb p x lp (gp x hbp)
  · intro k' r' hp' hr'
    have : k' ≠ k := fun e => by rw [e, hp] at hp'; cases hp'
    have h1 : lk ((k, r) :: st.ob) k' = some r' := hr'
    rw [lk_cons, if_neg (Ne.symm this)] at h1
    simp only [if_neg this]
    exact h.pk k' r' hp' h1
  · exact ⟨r, by simp [lk_cons], rfl, by simp⟩
end Go.Proofs.YtjnpnpkjmlihdaaDoor.Ab
namespace Go.Proofs.YtjnpnpkjmlihdaaDoor.Ab
open Go Go.RowKit

def zeroC (P : Program) (t : TypeId) (z : List Cell) : Bool :=
  match P.info? t with
  | some i => match i.zero with
    | some v => chkCs v.cells.toList z
    | none => false
  | none => false
def chkParts (P : Program) (fs : Array Field) : List (Nat × Operand) → List (Nat × Nat × CA) → Bool
  | [], [] => true
  | (i, x) :: l, (o, n, y) :: m => (match fs[i]? with
      | some f => Nat.beq f.offset o && (sizeT P f.type == some n)
      | none => false) && chkA x y && chkParts P fs l m
  | _, _ => false
def fieldsOk (P : Program) (fs : Array Field) : Bool := fs.all fun f => (sizeT P f.type).isSome
def chkIdx : Nat → List (Nat × Operand) → List CA → Bool
  | _, [], [] => true
  | i, (j, x) :: l, y :: m => Nat.beq i j && chkA x y && chkIdx (i + 1) l m
  | _, _, _ => false
def chkO : Option Operand → Option CA → Bool
  | none, none => true
  | some x, some y => chkA x y
  | _, _ => false
def sameOp : Operand → Operand → Bool
  | .tmp a, .tmp b => Nat.beq a b
  | .const (.int k a), .const (.int l b) => decide (k = l) && decide (a = b)
  | _, _ => false
def bytesT (P : Program) (t : TypeId) : Option Nat := (P.info? t).map (·.bytes)
def isNilS : Operand → Bool
  | .const (.slice none 0 0) => true
  | _ => false

def isE : Cell → Bool
  | .emp => true
  | _ => false
def isNilV : Value → Bool
  | .slice none 0 0 => true
  | _ => false
/-- a zero value whose cell `off` is the empty slice -/
def chkEs : List Value → List Cell → Bool
  | [], [] => true
  | v :: l, c :: m => (bif isE c then isNilV v else chkC1 v c) && chkEs l m
  | _, _ => false
theorem chkEs_rep : ∀ {vs : List Value} {cs : List Cell}, chkEs vs cs = true → vs.length = cs.length ∧ ∀ (j : Nat) (u : Value), vs[j]? = some u → ∀ w I, CRep w I u (nth cs j)
  | [], [], _ => ⟨rfl, fun j u h => by simp at h⟩
  | v :: vs, c :: cs, h => by
    simp only [chkEs, Bool.and_eq_true] at h
    obtain ⟨h1, h2⟩ := chkEs_rep h.2
    refine ⟨by simp [h1], fun j u hj w I => ?_⟩
    cases j with
    | zero =>
      simp at hj; subst hj
      have h0 := h.1
      cases c with
      | emp =>
        have h0 : isNilV v = true := h0
        unfold isNilV at h0
        split at h0
        · exact .emp none
        · cases h0
      | _ => exact (chkC1_rep h0 w I).1
    | succ j => exact h2 j u (by simpa using hj) w I
  | [], _ :: _, h => by cases h
  | _ :: _, [], h => by cases h
def zeroE (P : Program) (t : TypeId) (z : List Cell) : Bool :=
  match P.info? t with
  | some i => match i.zero with
    | some v => chkEs v.cells.toList z
    | none => false
  | none => false
def chkOp (P : Program) (o : Op) (c : COp) : Bool :=
  match o, c with
  | .move x, .mv y => chkA x y
  | .assign x, .mv y => chkA x y
  | .move x, .nilO _ _ _ => isNilS x
  | .assign x, .nilO _ _ _ => isNilS x
  | .alloc t, .alloc z => zeroC P t z
  | .box _ x, .box y => chkA x y
  | .build t ps, .build z qs => zeroC P t z && (match P.underlying t with
      | some (.struct fs) => fieldsOk P fs && chkParts P fs ps.toList qs
      | _ => false)
  | .build t ps, .buildO z _ _ qs => zeroE P t z && (match P.underlying t with
      | some (.struct fs) => fieldsOk P fs && chkParts P fs ps.toList qs
      | _ => false)
  | .buildSlice t len ps, .bslice _ sz qs => (match P.underlying t with
      | some (.slice e) => (sizeT P e == some sz) && ((P.info? e).bind (·.zero)).isSome
      | _ => false) && Nat.beq len qs.length && chkIdx 0 ps.toList qs && Nat.ble (len * sz) 1048576
  | .buildSlice t len ps, .bsl1 y => (match P.underlying t with
      | some (.slice e) => (sizeT P e == some 1) && ((P.info? e).bind (·.zero)).isSome
      | _ => false) && Nat.beq len 1 && chkIdx 0 ps.toList [y]
  | .buildSlice t len ps, .emp => (match P.underlying t with
      | some (.slice e) => (sizeT P e).isSome && ((P.info? e).bind (·.zero)).isSome
      | _ => false) && Nat.beq len 0 && Nat.beq ps.toList.length 0
  | .load t x, .ld n agg y => chkA x y && (sizeT P t == some n) && (aggT P t == some agg) && (agg || Nat.beq n 1)
  | .store t x y, .st n x' y' => chkA x x' && chkA y y' && (sizeT P t == some n)
  | .binOp op _ x y _, .bin op' x' y' => decide (op = op') && chkA x x' && chkA y y' && !(op matches .shl | .shr)
  | .binOp op t x y _, .eqB neq x' y' => (match op with | .eql => !neq | .neq => neq | _ => false) && chkA x x' && chkA y y' && (match P.underlying t with | some .bool => true | _ => false)
  | .unOp .neg _ x, .neg y => chkA x y
  | .unOp .not _ x, .not y => chkA x y
  | .convert s d x, .conv k y => chkA x y && (P.underlying s).isSome && (match P.underlying d with | some (.int k') => decide (k = k') | _ => false)
  | .makeSlice t l c, .mkS _ sz bytes z y => chkA l y && sameOp l c && (match P.underlying t with
      | some (.slice e) => (sizeT P e == some sz) && (bytesT P e == some bytes) && zeroC P e z && Nat.ble 1 sz && Nat.ble 1 bytes
      | _ => false)
  | .slice t x lo hi none, .slc sz y lo' hi' => chkA x y && chkO lo lo' && chkO hi hi' && (match P.underlying t with | some (.slice e) => sizeT P e == some sz | _ => false)
  | .slice t x lo hi none, .slcO sz y lo' hi' => chkA x y && chkO lo lo' && chkO hi hi' && (match P.underlying t with | some (.slice e) => sizeT P e == some sz | _ => false)
  | .slice t x lo hi none, .slcS y lo' hi' => chkA x y && chkO lo lo' && chkO hi hi' && (match P.underlying t with | some .string => true | _ => false)
  | .fieldAddr s x f, .fa off y => chkA x y && (match P.underlying s with
      | some (.struct fs) => (match fs[f]? with
        | some q => Nat.beq q.offset off && (match sizeT P q.type with | some n => Nat.ble 1 n | none => false)
        | none => false)
      | _ => false)
  | .field s x f, .fld off sz agg y => chkA x y && (match P.underlying s with
      | some (.struct fs) => (match fs[f]? with
        | some q => Nat.beq q.offset off && (sizeT P q.type == some sz) && (aggT P q.type == some agg) && (agg || Nat.beq sz 1)
        | none => false)
      | _ => false)
  | .indexAddr t x i, .ia sz y j => chkA x y && chkA i j && (match P.underlying t with | some (.slice e) => sizeT P e == some sz | _ => false)
  | .indexAddr t x i, .iaA len sz y j => chkA x y && chkA i j && (match P.underlying t with | some (.array n e) => Nat.beq n len && (sizeT P e == some sz) | _ => false)
  | .index t x i, .idxS y j => chkA x y && chkA i j && (match P.underlying t with | some .string => true | _ => false)
  | .extract x j, .ext j' y => chkA x y && Nat.beq j j'
  | .call c, .len y => (match c.callee with | .builtin .len => true | _ => false) && (match c.args.toList with | [x] => chkA x y | _ => false) &&
      (match c.argTypes.toList with | [t] => (match P.underlying t with | some (.slice _) => true | _ => false) | _ => false)
  | .call c, .lenS y => (match c.callee with | .builtin .len => true | _ => false) && (match c.args.toList with | [x] => chkA x y | _ => false) &&
      (match c.argTypes.toList with | [t] => (match P.underlying t with | some .string => true | _ => false) | _ => false)
  | .call c, .app sz bytes x' y' => (match c.callee with | .builtin .append => true | _ => false) && (match c.args.toList with | [x, y] => chkA x x' && chkA y y' | _ => false) &&
      (match c.argTypes.toList with
      | [t, u] => (match P.underlying t with | some (.slice e) => (sizeT P e == some sz) && (bytesT P e == some bytes) && (match P.info? e with | some i => (match i.zero with | some z => Nat.beq z.cells.size sz | none => false) | none => false) && Nat.ble 1 sz | _ => false) &&
          Nat.beq t u
      | _ => false)
  | .call c, .mx x' y' => (match c.callee with | .builtin .max => true | _ => false) && (match c.args.toList with | [x, y] => chkA x x' && chkA y y' | _ => false)
  | .call c, .mn x' y' => (match c.callee with | .builtin .min => true | _ => false) && (match c.args.toList with | [x, y] => chkA x x' && chkA y y' | _ => false)
  | .call c, .call _ f ys => (match c.callee with | .value (.func g) => Nat.beq g f | _ => false) && chkAs c.args.toList ys
  | .call c, .callv y ys => (match c.callee with | .value x => chkA x y | _ => false) && chkAs c.args.toList ys
  | .makeFunc (.func f) first caps, .mkf g ys => Nat.beq f g && first.isEmpty && chkAs caps.toList ys
  | .pick c x y, .pick c' x' y' => chkA c c' && chkA x x' && chkA y y'
  | .convert s d x, .bts y => chkA x y && (match P.underlying d with | some .string => true | _ => false) && (match P.underlying s with
      | some (.slice e) => (match P.underlying e with | some (.int .u8) => true | _ => false)
      | _ => false)
  | .nilCheck x, .ncx y => chkA x y
  | .binOp .eql t x (.const (.slice none _ _)) _, .isn y => chkA x y && (match P.underlying t with | some (.slice _) => true | _ => false)
  | .binOp .shr _ x (.const (.int _ 1)) _, .half y => chkA x y
  | .makeInterface _ _, .dead => true
  | .panic _, .dead => true
  | _, _ => false

/-! ### operations that make memory -/
theorem run_newRow {P : Program} {t : TypeId} {cs : Array Value} {w : World} : (newRow t cs).run P w = .ok ⟨w.heap.size, 0, none⟩ { w with heap := w.heap.push (.cells cs t) } := rfl
theorem run_zero {P : Program} {t : TypeId} {i : TypeInfo} {v : Value} {w : World} (h : P.info? t = some i) (hz : i.zero = some v) : (zeroValue t).run P w = .ok v w := by
  simp only [zeroValue, Sem.run_bind, run_typeInfo h, Result.andThen_ok, hz]; rfl

theorem Objs.notNew {w w0 : World} {I ok : Nat → Prop} {G : Gh} {bx : Bx} {ob : Ob} (h : Objs w w0 I ok G bx ob) {p : Pos} (hp : Live bx ob p) {b : Nat} (hb : w.heap.size ≤ b) : G.blk p ≠ some b :=
  fun e => by have := h.lt hp e; omega

/-- a variable of the frame's own is made -/
theorem Yld.box {C : Cx} {G : Gh} {st : St} {a : Act} {w : World} {o : Oper} {s : Nat} {cs : List Cell} {arr : Array Value} {t : TypeId}
    (hv : (execOp a.eval o).run C.E.P w = .ok (.value (.pointer (some ⟨w.heap.size, 0, none⟩))) { w with heap := w.heap.push (.cells arr t) })
    (hl : arr.size = cs.length) (hc : ∀ (j : Nat) (u : Value), arr[j]? = some u → SRep C.w0 C.I G st.bx st.ob u (nth cs j) ∧ (nth cs j).stor = true)
    (h : Rel C G st a w) (hs : lk st.bx s = none) : Yld C st a w o (one (.box s 0)) [] [(s, cs)] := by
  intro next QQ hn
  unfold Oper.wp
  rw [hv]
  have hg := h.grow (Grow.push w (.cells arr t))
  obtain ⟨h1, h2, h3⟩ := hg.newB (b := w.heap.size) (t := t) hs (by simp) hl hc (fun p hp => h.ob.notNew hp (Nat.le_refl _)) h.keep.size
  exact hn _ _ _ h1 h3

/-- a row of plain cells is made -/
theorem Yld.row {C : Cx} {G : Gh} {st : St} {a : Act} {w : World} {o : Oper} {k cap : Nat} {r q : Row} {arr : Array Value} {t : TypeId}
    (hv : (execOp a.eval o).run C.E.P w = .ok (.value (.slice (some ⟨w.heap.size, 0, none⟩) r.n cap)) { w with heap := w.heap.push (.cells arr t) })
    (hcap : r.n ≤ cap) (hl : cap * r.sz ≤ arr.size) (hc : ∀ i j, i < r.n → j < r.sz → ∃ u, arr[i * r.sz + j]? = some u ∧ CRep C.w0 C.I u (r.get i j) ∧ (r.get i j).plain = true)
    (hq : RowEq r q) (h : Rel C G st a w) (hs : lk st.ob k = none) (hp : isP k = false) : Yld C st a w o (one (.own k q.n)) [(k, q)] [] := by
  intro next QQ hn
  unfold Oper.wp
  rw [hv]
  have hg := h.grow (Grow.push w (.cells arr t))
  obtain ⟨h1, h2, h3⟩ := hg.newR (r := q) (d := ⟨some w.heap.size, cap, none, 0⟩) hs hp
    ⟨by rw [← hq.n]; exact hcap, fun e => (by cases e), fun b hb => by
      cases hb
      refine ⟨arr, t, by simp, by rw [← hq.sz]; simpa using hl, fun i j hi hj => ?_⟩
      rw [← hq.n] at hi
      rw [← hq.sz] at hj ⊢
      obtain ⟨u, hu, hr⟩ := hc i j hi hj
      exact ⟨u, by simpa using hu, by show CRep _ _ _ (q.get i j) ∧ _; rw [← hq.get i j hi hj]; exact hr⟩⟩
    (fun p b hb hp => by cases hb; exact h.ob.notNew hp (Nat.le_refl _)) (fun b hb => by cases hb; exact h.keep.size)
  rw [hq.n]
  exact hn _ _ _ h1 h3

theorem Yld.nil {C : Cx} {G : Gh} {st : St} {a : Act} {w : World} {o : Oper} {k : Nat} {q : Row}
    (hv : (execOp a.eval o).run C.E.P w = .ok (.value (.slice none 0 0)) w) (hq : q.n = 0) (h : Rel C G st a w) (hs : lk st.ob k = none) (hp : isP k = false) :
    Yld C st a w o (one (.own k q.n)) [(k, q)] [] := by
  intro next QQ hn
  unfold Oper.wp
  rw [hv]
  obtain ⟨h1, h2, h3⟩ := h.newR (r := q) (d := ⟨none, 0, none, 0⟩) hs hp ⟨by omega, fun _ => rfl, fun b hb => by cases hb⟩ (fun p b hb => by cases hb) (fun b hb => by cases hb)
  have : (Hd.mk none 0 none 0).val q.n = .slice none 0 0 := by rw [hq]; rfl
  rw [this] at h3
  exact hn _ _ _ h1 h3

/-! ### values that are put together -/
theorem fold_set (cells : Array Value) : ∀ (l : List Value) (off : Nat) (j : Nat),
    (∀ k, ((l.zipIdx j).foldl (fun cs (p : Value × Nat) => cs.setIfInBounds (off + p.2) p.1) cells)[k]? =
      if off + j ≤ k ∧ k < off + j + l.length ∧ k < cells.size then l[k - (off + j)]? else cells[k]?) ∧
    ((l.zipIdx j).foldl (fun cs (p : Value × Nat) => cs.setIfInBounds (off + p.2) p.1) cells).size = cells.size := by
  intro l
  induction l generalizing cells with
  | nil => intro off j; simp; intro k h1 h2; omega
  | cons v l ih =>
    intro off j
    simp only [List.zipIdx_cons, List.foldl_cons]
    obtain ⟨h1, h2⟩ := ih (cells.setIfInBounds (off + j) v) off (j + 1)
    refine ⟨fun k => ?_, by rw [h2]; simp⟩
    rw [h1 k]
    simp only [Array.size_setIfInBounds, Array.getElem?_setIfInBounds, List.length_cons]
    by_cases a1 : k = off + j
    · subst a1
      by_cases a2 : off + j < cells.size
      · simp [a2]; intro h; omega
      · simp [a2]
    · by_cases a2 : off + (j + 1) ≤ k ∧ k < off + (j + 1) + l.length ∧ k < cells.size
      · rw [if_pos a2, if_pos (by omega)]
        rw [show k - (off + j) = (k - (off + (j + 1))) + 1 by omega, List.getElem?_cons_succ]
      · rw [if_neg a2, if_neg (Ne.symm a1), if_neg (by omega)]

/-- a part laid into cells, told of what stands there -/
theorem fill_rep {R : Value → Cell → Prop} {cells : Array Value} {z : List Cell} {u : Array Value} {y : List Cell} {off : Nat} (hz : cells.size = z.length ∧ ∀ (j : Nat) (v : Value), cells[j]? = some v → R v (nth z j))
    (hu : u.size = y.length ∧ ∀ (j : Nat) (v : Value), u[j]? = some v → R v (nth y j)) (ho : off + y.length ≤ z.length) :
    (u.zipIdx.foldl (fun cs (p : Value × Nat) => cs.setIfInBounds (off + p.2) p.1) cells).size = (splice z off y).length ∧
    ∀ (j : Nat) (v : Value), (u.zipIdx.foldl (fun cs (p : Value × Nat) => cs.setIfInBounds (off + p.2) p.1) cells)[j]? = some v → R v (nth (splice z off y) j) := by
  have e : u.zipIdx.foldl (fun cs (p : Value × Nat) => cs.setIfInBounds (off + p.2) p.1) cells = (u.toList.zipIdx 0).foldl (fun cs (p : Value × Nat) => cs.setIfInBounds (off + p.2) p.1) cells := by
    rw [← Array.foldl_toList, Array.toList_zipIdx]
  rw [e]
  obtain ⟨h1, h2⟩ := fold_set cells u.toList off 0
  refine ⟨by rw [h2, hz.1, length_splice], fun j v hj => ?_⟩
  rw [h1 j] at hj
  have hjl : j < z.length := by
    by_cases c : off + 0 ≤ j ∧ j < off + 0 + u.toList.length ∧ j < cells.size
    · omega
    · rw [if_neg c] at hj
      have := (Array.getElem?_eq_some_iff.1 hj).1; omega
  rw [nth_splice z off y j hjl]
  by_cases c : off + 0 ≤ j ∧ j < off + 0 + u.toList.length ∧ j < cells.size
  · rw [if_pos c] at hj
    have hl : u.toList.length = y.length := by simpa using hu.1
    rw [if_pos (by omega)]
    exact hu.2 (j - off) v (by simpa using hj)
  · rw [if_neg c] at hj
    have hl : u.toList.length = y.length := by simpa using hu.1
    rw [if_neg (by omega)]
    exact hz.2 j v hj

theorem vcells {C : Cx} {G : Gh} {st : St} {v : Value} {y : V} (h : VRep C.w0 C.I G st.bx st.ob v y) (hy : allC Cell.stor y.cells = true ∨ ∃ cs, y = .agg cs) :
    v.cells.size = y.cells.length ∧ ∀ (j : Nat) (u : Value), v.cells[j]? = some u → SRep C.w0 C.I G st.bx st.ob u (nth y.cells j) := by
  cases y with
  | agg cs =>
    obtain ⟨arr, rfl, h2, h3⟩ := h
    exact ⟨h2, h3⟩
  | one c =>
    have hc : c.stor = true := by
      rcases hy with hy | ⟨cs, hy⟩
      · simpa [V.cells, allC] using hy
      · cases hy
    have hone : v.cells = #[v] := by
      have h : SRep C.w0 C.I G st.bx st.ob v c := h
      cases c with
      | u => cases hc
      | sk => cases hc
      | fr _ _ _ => cases hc
      | emp => cases hc
      | pv φ => cases hc
      | pb k n => cases hc
      | fnx f k n i m sz get => cases hc
      | own k n => obtain ⟨r, _, _, rfl⟩ := h; unfold Hd.val; split <;> rfl
      | own1 k i j n => obtain ⟨r, sz, g, _, _, _, _, rfl⟩ := h; unfold Hd.val; split <;> rfl
      | box s o => obtain ⟨cs, _, rfl⟩ := h; rfl
      | elt k i o => obtain ⟨r, b, _, _, _, rfl⟩ := h; rfl
      | elt1 k i j i2 o => obtain ⟨r, sz, n, g, b, _, _, _, _, _, _, rfl⟩ := h; rfl
      | fn f bs => obtain ⟨caps, rfl, _⟩ := h; rfl
      | int k n => have h : CRep _ _ v (.int k n) := h; cases h; rfl
      | bool b => have h : CRep _ _ v (.bool b) := h; cases h; rfl
      | str s => have h : CRep _ _ v (.str s) := h; cases h; rfl
      | ro sz n g => have h : CRep _ _ v (.ro sz n g) := h; cases h <;> rfl
      | pro m g => have h : CRep _ _ v (.pro m g) := h; cases h; rfl
      | fnp f m sz g => have h : CRep _ _ v (.fnp f m sz g) := h; cases h; rfl
    rw [hone]
    refine ⟨rfl, fun j u hj => ?_⟩
    cases j with
    | zero => simp at hj; subst hj; exact h
    | succ j => simp at hj
theorem oneCell_of {C : Cx} {G : Gh} {st : St} {v : Value} {c : Cell} (h : SRep C.w0 C.I G st.bx st.ob v c) (hc : c.stor = true) : v.oneCell' = true := by
  cases c with
  | u => cases hc
  | sk => cases hc
  | fr _ _ _ => cases hc
  | emp => cases hc
  | pv φ => cases hc
  | pb k n => cases hc
  | fnx f k n i m sz get => cases hc
  | own k n => obtain ⟨r, _, _, rfl⟩ := h; unfold Hd.val; split <;> rfl
  | own1 k i j n => obtain ⟨r, sz, g, _, _, _, _, rfl⟩ := h; unfold Hd.val; split <;> rfl
  | box s o => obtain ⟨cs, _, rfl⟩ := h; rfl
  | elt k i o => obtain ⟨r, b, _, _, _, rfl⟩ := h; rfl
  | elt1 k i j i2 o => obtain ⟨r, sz, n, g, b, _, _, _, _, _, _, rfl⟩ := h; rfl
  | fn f bs => obtain ⟨caps, rfl, _⟩ := h; rfl
  | int k n => have h : CRep _ _ v (.int k n) := h; cases h; rfl
  | bool b => have h : CRep _ _ v (.bool b) := h; cases h; rfl
  | str s => have h : CRep _ _ v (.str s) := h; cases h; rfl
  | ro sz n g => have h : CRep _ _ v (.ro sz n g) := h; cases h <;> rfl
  | pro m g => have h : CRep _ _ v (.pro m g) := h; cases h; rfl
  | fnp f m sz g => have h : CRep _ _ v (.fnp f m sz g) := h; cases h; rfl

theorem stor_of_plain {c : Cell} (h : c.plain = true) : c.stor = true := by cases c <;> first | rfl | cases h
theorem allC_mono {p q : Cell → Bool} (hpq : ∀ c, p c = true → q c = true) : ∀ {l : List Cell}, allC p l = true → allC q l = true
  | [], _ => rfl
  | c :: l, h => by
    simp only [allC, Bool.and_eq_true] at h ⊢
    exact ⟨hpq c h.1, allC_mono hpq h.2⟩
end Go.Proofs.YtjnpnpkjmlihdaaDoor.Ab
namespace Go.Proofs.YtjnpnpkjmlihdaaDoor.Ab
open Go Go.RowKit

theorem CRep.free {w w' : World} {I I' : Nat → Prop} {v : Value} {c : Cell} (h : CRep w I v c) (hc : c.noRo = true) : CRep w' I' v c := by
  cases h with
  | u v => exact .u v
  | sk => exact .sk
  | int k n => exact .int k n
  | bool b => exact .bool b
  | str s => exact .str s
  | emp b => exact .emp b
  | pv => cases hc
  | ro0 b c sz g => exact .ro0 b c sz g
  | ro b o c sz n g vals hn hpl h1 h2 h3 =>
    have : n = 0 := Nat.eq_of_beq_eq_true hc
    subst this; exact .ro0 _ _ _ _
  | pro => cases hc
  | fnp => cases hc

/-- a row, as one who only reads it sees it -/
theorem ro_of_row {w : World} {h : Hd} {sz n : Nat} {cr : Nat → Nat → Value → Prop} {I : Nat → Prop} {g : Nat → Nat → Cell} (hr : RowAt w h sz n cr)
    (hI : ∀ b, b < w.heap.size → I b) (hc : ∀ i j v, i < n → j < sz → cr i j v → CRep w I v (g i j) ∧ (g i j).plain = true) : CRep w I (h.val n) (.ro sz n g) := by
  by_cases hn : n = 0
  · subst hn
    unfold Hd.val
    split <;> exact .ro0 _ _ _ _
  · obtain ⟨b, hb⟩ := hr.base (i := 0) (by omega)
    obtain ⟨cs, t, h1, h2, h3⟩ := hr.2.2 b hb
    have hv : h.val n = .slice (some ⟨b, h.off, none⟩) n h.cap := by unfold Hd.val; rw [hb]
    rw [hv]
    refine .ro b h.off h.cap sz n g (fun i j => (w.cell? ⟨b, h.off + (i * sz + j), none⟩).getD undef) hr.1 (fun i j hi hj => ?_) (hI b (hr.lt hb)) (fun i j hi hj => ?_) (fun i j hi hj => ?_)
    · obtain ⟨v, hv, hcr⟩ := h3 i j hi hj
      exact (hc i j v hi hj hcr).2
    · obtain ⟨v, hv, _⟩ := h3 i j hi hj
      rw [cell_of_heap h1, hv]; rfl
    · obtain ⟨v, hv, hcr⟩ := h3 i j hi hj
      rw [cell_of_heap h1, hv]; exact (hc i j v hi hj hcr).1

section snap
variable {C : Cx} {G : Gh} {sv st : St} {a : Act} {w : World}

theorem toI (h : Rel C G st a w) {I' : Nat → Prop} (hI : ∀ b, C.I b → I' b) {v : Value} {c : Cell} (hc : CRep C.w0 C.I v c) : CRep w I' v c :=
  hc.mono hI fun _ hb => h.heapI hb

theorem sub_ro (h : Rel C G st a w) {k i j sz n : Nat} {g : Nat → Nat → Cell} {r : Row} (hr : lk st.ob k = some r) (hi : i < r.n) (hj : j < r.sz) (hg : r.get i j = .fr sz n g) :
    CRep w (fun b => b < w.heap.size) ((G.sub k i j).val n) (.ro sz n g) :=
  ro_of_row (h.ob.sub hr hi hj hg).2 (fun _ hb => hb) (fun _ _ _ _ _ hc => ⟨toI h (fun b hb => Nat.lt_of_lt_of_le (C.imm b hb).1 h.keep.size) hc.1, hc.2⟩)

theorem snapC_ok (h : Rel C G st a w) (hob : ∀ k r, lk sv.ob k = some r → lk st.ob k = some r) {v : Value} {c c' : Cell} (hv : SRep C.w0 C.I G st.bx st.ob v c) (hs : snapC sv c = some c') :
    CRep w (fun b => b < w.heap.size) v c' ∧ c'.hot = false := by
  have plain : ∀ {c : Cell}, CRep C.w0 C.I v c → CRep w (fun b => b < w.heap.size) v c :=
    fun hc => toI h (fun b hb => Nat.lt_of_lt_of_le (C.imm b hb).1 h.keep.size) hc
  cases c with
  | own k n =>
    simp only [snapC] at hs
    split at hs
    · rename_i r hr
      cases hs
      obtain ⟨r', h1, h2, h3⟩ := hv
      rw [hob k r hr] at h1; cases h1
      rw [h3, ← h2]
      refine ⟨ro_of_row (h.ob.obr k r (hob k r hr)) (fun _ hb => hb) (fun i j v' hi hj hc => ?_), rfl⟩
      cases e : r.get i j with
      | fr sz n' g =>
        rw [e] at hc
        rw [hc.2.1]
        exact ⟨sub_ro h (hob k r hr) hi hj e, rfl⟩
      | _ =>
        rw [e] at hc
        exact ⟨toI h (fun b hb => Nat.lt_of_lt_of_le (C.imm b hb).1 h.keep.size) hc.1, hc.2⟩
    · cases hs
  | own1 k i j n =>
    simp only [snapC] at hs
    split at hs
    · rename_i r hr
      cases hs
      obtain ⟨r', sz, g, h1, h2, h3, h4, h5⟩ := hv
      rw [hob k r hr] at h1; cases h1
      rw [h4, h5]
      exact ⟨sub_ro h (hob k r hr) h2 h3 h4, rfl⟩
    · cases hs
  | fr sz n g => exact hv.elim
  | box s o => cases hs
  | elt k i o => cases hs
  | elt1 k i j i2 o => cases hs
  | fn f bs => cases hs
  | u => cases hs; exact ⟨.u v, rfl⟩
  | sk => cases hs; exact ⟨plain hv, rfl⟩
  | int k n => cases hs; exact ⟨plain hv, rfl⟩
  | bool b => cases hs; exact ⟨plain hv, rfl⟩
  | emp => cases hs; exact ⟨plain hv, rfl⟩
  | pv φ => cases hs; exact ⟨plain hv, rfl⟩
  | pb k n => cases hs
  | fnx f k n i m sz get => cases hs
  | str s => cases hs; exact ⟨plain hv, rfl⟩
  | ro sz n g => cases hs; exact ⟨plain hv, rfl⟩
  | pro m g => cases hs; exact ⟨plain hv, rfl⟩
  | fnp f m sz g => cases hs; exact ⟨plain hv, rfl⟩

theorem SRep.of_crep {w : World} {I : Nat → Prop} {G : Gh} {bx : Bx} {ob : Ob} {v : Value} {c : Cell} (h : CRep w I v c) : SRep w I G bx ob v c := SRep.of_plain h

theorem snapL_ok : ∀ {cs cs' : List Cell}, snapL sv cs = some cs' → cs'.length = cs.length ∧ ∀ j, j < cs.length → snapC sv (nth cs j) = some (nth cs' j)
  | [], cs', hs => by cases hs; exact ⟨rfl, fun j hj => by simp at hj⟩
  | c :: cs, cs', hs => by
    simp only [snapL] at hs
    split at hs
    · rename_i c' hc
      split at hs
      · rename_i l hl
        cases hs
        obtain ⟨h1, h2⟩ := snapL_ok hl
        refine ⟨by simp [h1], fun j hj => ?_⟩
        cases j with
        | zero => exact hc
        | succ j => exact h2 j (by simpa using hj)
      · cases hs
    · cases hs

theorem caught_ok : ∀ {bs : List Nat} {l : List (List Cell)}, caught sv bs = some l → ∀ (j s : Nat), bs[j]? = some s → ∃ cs, lk sv.bx s = some cs ∧ snapL sv cs = some (nthL l j)
  | [], l, _, j, s, hj => by simp at hj
  | b :: bs, l, hs, j, s, hj => by
    simp only [caught] at hs
    split at hs
    · rename_i cs hcs
      split at hs
      · rename_i cs' hcs'
        split at hs
        · rename_i l' hl'
          cases hs
          cases j with
          | zero => simp at hj; subst hj; exact ⟨cs, hcs, hcs'⟩
          | succ j => exact caught_ok hl' j s (by simpa using hj)
        · cases hs
      · cases hs
    · cases hs

theorem snapF_ok (h : Rel C G st a w) (hbx : ∀ s cs, lk sv.bx s = some cs → lk st.bx s = some cs) (hob : ∀ k r, lk sv.ob k = some r → lk st.ob k = some r) {v : Value} {c c' : Cell}
    (hv : SRep C.w0 C.I G st.bx st.ob v c) (hs : snapF sv c = some c') : CRep w (fun b => b < w.heap.size) v c' := by
  by_cases hf : ∃ f bs, c = .fn f bs
  · obtain ⟨f, bs, rfl⟩ := hf
    simp only [snapF] at hs
    split at hs
    · rename_i l hl
      cases hs
      obtain ⟨caps, rfl, h2, h3⟩ := hv
      have key : ∀ i, i < bs.length → ∃ s cs arr t, bs[i]? = some s ∧ lk st.bx s = some cs ∧ caps[i]? = some (Value.pointer (some ⟨G.bx s, 0, none⟩)) ∧ w.heap[G.bx s]? = some (.cells arr t (0, 0)) ∧
          arr.size = cs.length ∧ (nthL l i).length = cs.length ∧ (∀ j, j < cs.length → ∃ u, arr[j]? = some u ∧ CRep w (fun b => b < w.heap.size) u (nth (nthL l i) j)) := by
        intro i hi
        have hbs : bs[i]? = some bs[i] := by simp [hi]
        obtain ⟨cs, a1, a2⟩ := caught_ok hl i _ hbs
        obtain ⟨b1, b2⟩ := h3 i _ hbs
        obtain ⟨arr, t, c1, c2, c3⟩ := h.ob.bxr _ cs (hbx _ cs a1)
        obtain ⟨d1, d2⟩ := snapL_ok a2
        refine ⟨bs[i], cs, arr, t, hbs, hbx _ cs a1, b2, c1, c2, d1, fun j hj => ?_⟩
        have hja : j < arr.size := by omega
        exact ⟨arr[j], by simp [hja], (snapC_ok h hob (c3 j _ (by simp [hja])).1 (d2 j hj)).1⟩
      refine .fnp f bs.length _ _ caps (fun i => G.bx (bs.getD i 0)) (fun i j => (w.cell? ⟨G.bx (bs.getD i 0), j, none⟩).getD undef) h2 ?_ ?_ ?_ ?_
      · intro i hi
        obtain ⟨s, cs, arr, t, k1, k2, k3, k4, _⟩ := key i hi
        rw [List.getD_eq_getElem?_getD, k1]
        exact (Array.getElem?_eq_some_iff.1 k4).1
      · intro i hi
        obtain ⟨s, cs, arr, t, k1, k2, k3, k4, _⟩ := key i hi
        rw [List.getD_eq_getElem?_getD, k1]
        exact k3
      · intro i j hi hj
        obtain ⟨s, cs, arr, t, k1, k2, k3, k4, k5, k6, k7⟩ := key i hi
        rw [List.getD_eq_getElem?_getD, k1]
        obtain ⟨u, hu, _⟩ := k7 j (by omega)
        show w.cell? ⟨G.bx s, j, none⟩ = some ((w.cell? ⟨G.bx s, j, none⟩).getD undef)
        rw [cell_of_heap k4, hu]; rfl
      · intro i j hi hj
        obtain ⟨s, cs, arr, t, k1, k2, k3, k4, k5, k6, k7⟩ := key i hi
        rw [List.getD_eq_getElem?_getD, k1]
        obtain ⟨u, hu, hc⟩ := k7 j (by omega)
        show CRep w _ ((w.cell? ⟨G.bx s, j, none⟩).getD undef) _
        rw [cell_of_heap k4, hu]; exact hc
    · cases hs
  · by_cases hx : ∃ f k n i m sz get, c = .fnx f k n i m sz get
    · obtain ⟨f, k, n, i, m, sz, get, rfl⟩ := hx
      simp only [snapF] at hs
      split at hs
      · rename_i r hr
        cases hs
        obtain ⟨r', caps, bs, vals, e1, e2, rfl, e4, e5, e6, e7, e8, e9⟩ := hv
        rw [hob k r hr] at e1; cases e1
        have hI : ∀ b, C.I b → b < w.heap.size := fun b hb => Nat.lt_of_lt_of_le (C.imm b hb).1 h.keep.size
        refine .fnp f m _ _ caps bs (fun q o => if q = i then (G.top k).val n else vals q o) e4 (fun q hq => hI _ (e6 q hq)) e7 (fun q o hq ho => ?_) (fun q o hq ho => ?_)
        · by_cases e : q = i
          · subst e
            rw [show Nat.beq q q = true from beq_self q, cond_true] at ho
            obtain rfl : o = 0 := by omega
            rw [if_pos rfl, h.cellI (e6 q hq)]; exact e9
          · rw [beq_ne e, cond_false] at ho
            rw [if_neg e, h.cellI (e6 q hq)]; exact (e8 q o hq e ho).1
        · by_cases e : q = i
          · subst e
            rw [if_pos rfl, show Nat.beq q q = true from beq_self q, cond_true]
            have := (snapC_ok h hob (v := (G.top k).val n) (c := .own k n) (c' := .ro r.sz r.n fun i j => toRo (r.get i j)) ⟨r, hob k r hr, e2, rfl⟩ (by simp only [snapC, hr])).1
            exact this
          · rw [beq_ne e, cond_false] at ho
            rw [if_neg e, beq_ne e, cond_false]
            exact toI h hI (e8 q o hq e ho).2
      · cases hs
    have : snapF sv c = snapC sv c := by
      cases c <;> first | rfl | exact absurd ⟨_, _, rfl⟩ hf | exact absurd ⟨_, _, _, _, _, _, _, rfl⟩ hx
    rw [this] at hs
    exact (snapC_ok h hob hv hs).1

theorem snapC_cold {c c' : Cell} (hs : snapC sv c = some c') (hc : c.hot = false) : c' = c ∧ ∀ {v : Value} {w0 : World} {I : Nat → Prop} {bx : Bx} {ob : Ob} {G : Gh}, SRep w0 I G bx ob v c → CRep w0 I v c := by
  cases c <;> first
    | (cases hc; done)
    | (cases hs; done)
    | (cases hs; refine ⟨rfl, fun h => ?_⟩; first | exact h | exact CRep.u _)

/-- what a callee is given -/
theorem snapV_ok (h : Rel C G st a w) (hbx : ∀ s cs, lk sv.bx s = some cs → lk st.bx s = some cs) (hob : ∀ k r, lk sv.ob k = some r → lk st.ob k = some r) {v : Value} {t : T} {y : V} {hot : Bool}
    (hv : TRep C.w0 C.I G st.bx st.ob v t) (hs : snapV sv t = some y) (hh : hot = false → t.any Cell.hot = false) :
    VRep w (if hot then fun b => b < w.heap.size else C.I) G [] [] v y := by
  cases t with
  | tup xs => cases hs
  | v x =>
    cases x with
    | one c =>
      simp only [snapV] at hs
      split at hs
      · rename_i c' hc
        cases hs
        cases hot with
        | true => exact SRep.of_crep (snapF_ok h hbx hob hv hc)
        | false =>
          have hcold : c.hot = false := by simpa [T.any, V.any] using hh rfl
          have e : snapF sv c = snapC sv c := by cases c <;> first | rfl | (cases hcold; done)
          rw [e] at hc
          obtain ⟨rfl, h2⟩ := snapC_cold hc hcold
          exact SRep.of_crep (toI h (fun _ hb => hb) (h2 hv))
      · cases hs
    | agg cs =>
      simp only [snapV] at hs
      split at hs
      · rename_i cs' hc
        cases hs
        obtain ⟨arr, rfl, h2, h3⟩ := hv
        obtain ⟨d1, d2⟩ := snapL_ok hc
        refine ⟨arr, rfl, by omega, fun j u hu => ?_⟩
        have hj : j < cs.length := by have := (Array.getElem?_eq_some_iff.1 hu).1; omega
        cases hot with
        | true => exact SRep.of_crep (snapC_ok h hob (h3 j u hu) (d2 j hj)).1
        | false =>
          have hcold : (nth cs j).hot = false := anyC_nth (by simpa [T.any, V.any] using hh rfl) hj
          obtain ⟨e, h2⟩ := snapC_cold (d2 j hj) hcold
          rw [e]
          exact SRep.of_crep (toI h (fun _ hb => hb) (h2 (h3 j u hu)))
      · cases hs

theorem length_instL (b : Nat) (l : List Cell) : (instL b l).length = l.length := by
  induction l with
  | nil => rfl
  | cons c l ih => simp [instL, ih]
theorem nth_instL (b : Nat) (l : List Cell) (j : Nat) : nth (instL b l) j = instC b (nth l j) := by
  induction l generalizing j with
  | nil => simp [instL, nth, instC]
  | cons c l ih => cases j <;> simp [instL, nth, ih]
theorem length_instVs (b : Nat) (l : List V) : (instVs b l).length = l.length := by
  induction l with
  | nil => rfl
  | cons c l ih => simp [instVs, ih]
theorem nthV_instVs (b : Nat) (l : List V) (j : Nat) : nthV (instVs b l) j = instV b (nthV l j) := by
  induction l generalizing j with
  | nil => simp [instVs, nthV, instV, instC]
  | cons c l ih => cases j <;> simp [instVs, nthV, ih]
theorem VRep.inst {w w' : World} {I I' : Nat → Prop} {G G' : Gh} {bx bx' : Bx} {ob ob' : Ob} {b : Nat} {v : Value} {x : V} (h : VRep w I G bx ob v x) (hot : Bool)
    (hx : x.any (fun c => !c.resOk hot) = false) (hm : ∀ v c, c.resOk hot = true → SRep w I G bx ob v c → SRep w' I' G' bx' ob' v (instC b c)) : VRep w' I' G' bx' ob' v (instV b x) := by
  cases x with
  | one c => exact hm v c (by simpa [V.any] using hx) h
  | agg cs =>
    obtain ⟨arr, h1, h2, h3⟩ := h
    refine ⟨arr, h1, by rw [h2, length_instL], fun j u hu => ?_⟩
    have hj : j < cs.length := by have := (Array.getElem?_eq_some_iff.1 hu).1; omega
    rw [nth_instL]
    refine hm u _ ?_ (h3 j u hu)
    simpa using anyC_nth hx hj
theorem anyV_nth {p : Cell → Bool} {l : List V} (h : anyV p l = false) {j : Nat} (hj : j < l.length) : (nthV l j).any p = false := by
  induction l generalizing j with
  | nil => simp at hj
  | cons c l ih =>
    simp only [anyV, Bool.or_eq_false_iff] at h
    cases j with
    | zero => simpa [nthV] using h.1
    | succ j => simpa [nthV] using ih h.2 (by simpa using hj)
theorem TRep.inst {w w' : World} {I I' : Nat → Prop} {G G' : Gh} {bx bx' : Bx} {ob ob' : Ob} {b : Nat} {v : Value} {x : T} (h : TRep w I G bx ob v x) (hot : Bool)
    (hx : (!(x.any fun c => !c.resOk hot)) = true) (hm : ∀ v c, c.resOk hot = true → SRep w I G bx ob v c → SRep w' I' G' bx' ob' v (instC b c)) : TRep w' I' G' bx' ob' v (instT b x) := by
  simp only [Bool.not_eq_true'] at hx
  cases x with
  | v x => exact VRep.inst h hot hx hm
  | tup xs =>
    obtain ⟨arr, h1, h2, h3⟩ := h
    refine ⟨arr, h1, by rw [h2, length_instVs], fun j u hu => ?_⟩
    have hj : j < xs.length := by have := (Array.getElem?_eq_some_iff.1 hu).1; omega
    rw [nthV_instVs]
    exact VRep.inst (h3 j u hu) hot (anyV_nth hx hj) hm

theorem Cont.free {w w' w1 w2 : World} {I I' : Nat → Prop} {G G' : Gh} {k k' : Nat} {deep : Bool} {i j : Nat} {v : Value} {c : Cell} (h : Cont w w1 I G k deep i j v c)
    (hn : match (generalizing := false) c with | .fr sz n g => ∀ i' j', i' < n → j' < sz → (g i' j').noRo = true | c => c.noRo = true)
    (hs : ∀ sz n g, c = .fr sz n g → G'.sub k' i j = G.sub k i j ∧ ∀ b, (G.sub k i j).base = some b → w'.heap[b]? = w.heap[b]?) : Cont w' w2 I' G' k' deep i j v c := by
  cases c with
  | fr sz n g =>
    obtain ⟨h1, h2, h3⟩ := h
    obtain ⟨e, hb⟩ := hs sz n g rfl
    refine ⟨h1, by rw [e]; exact h2, ?_⟩
    rw [e]
    exact h3.imp hb (fun i' j' v' hi hj hc => ⟨hc.1.free (hn i' j' hi hj), hc.2⟩)
  | _ => exact ⟨h.1.free hn, h.2⟩

/-- The memory that a call hands back becomes the frame's own. -/
theorem Rel.took {w' : World} {G' : Gh} {obr : Ob} {b : Nat} {I' : Nat → Prop} {v : Value} {r : T} {hot : Bool} (h : Rel C G st a w) (hk : Keep w w' (fun _ => False))
    (ho : Objs w' w I' (fun x => w.heap.size ≤ x) G' [] obr) (hr : TRep w I' G' [] obr v r) (hI : hot = false → ∀ x, I' x → C.I x)
    (hres : (!(r.any fun c => !c.resOk hot)) = true) (hn : ∀ k q, lk obr k = some q → NoRo q) (hnew : newL st.ob (shift b obr) = true) :
    ∃ G2, Rel C G2 (st.add (shift b obr) []) a w' ∧ TRep C.w0 C.I G2 st.bx (shift b obr ++ st.ob) v (instT b r) ∧
      (∀ k q, lk st.ob k = some q → G2.top k = G.top k ∧ G2.sub k = G.sub k) := by
  simp only [newL, Bool.and_eq_true] at hnew
  have hgrow : Grow w w' := ⟨hk.os, hk.tape, hk.output, hk.size, fun x hx => hk.block x hx (fun h => h)⟩
  have hg := h.grow hgrow
  have hfresh : ∀ k q, lk (shift b obr) k = some q → lk st.ob k = none := fun k q hq => freshL_none hnew.1 hq
  let G2 : Gh := { bx := G.bx, top := fun k => (match lk (shift b obr) k with | some _ => G'.top (k - b) | none => G.top k), sub := fun k => (match lk (shift b obr) k with | some _ => G'.sub (k - b) | none => G.sub k) }
  have hlk : ∀ k q, lk (shift b obr ++ st.ob) k = some q → (∃ k0, k = b + k0 ∧ lk obr k0 = some q ∧ G2.top k = G'.top k0 ∧ G2.sub k = G'.sub k0) ∨ (lk st.ob k = some q ∧ G2.top k = G.top k ∧ G2.sub k = G.sub k) := by
    intro k q hq
    rw [lk_append] at hq
    cases e : lk (shift b obr) k with
    | some q' =>
      rw [e] at hq
      simp only [Option.some_or, Option.some.injEq] at hq
      subst hq
      obtain ⟨k0, rfl, hk0⟩ := lk_shift_some e
      exact .inl ⟨k0, rfl, hk0, by simp [G2, e], by simp [G2, e]⟩
    | none =>
      rw [e] at hq
      exact .inr ⟨by simpa using hq, by simp [G2, e], by simp [G2, e]⟩
  have hold : ∀ k q, lk st.ob k = some q → lk (shift b obr ++ st.ob) k = some q ∧ G2.top k = G.top k ∧ G2.sub k = G.sub k := by
    intro k q hq
    have e : lk (shift b obr) k = none := by
      cases e : lk (shift b obr) k with
      | none => rfl
      | some q' => rw [hfresh k q' e] at hq; cases hq
    exact ⟨by rw [lk_append, e]; simpa using hq, by simp [G2, e], by simp [G2, e]⟩
  have hext : ∀ v c, SRep C.w0 C.I G st.bx st.ob v c → SRep C.w0 C.I G2 st.bx (shift b obr ++ st.ob) v c := by
    intro v c hv
    refine hv.to (fun _ h => h) (fun _ _ => rfl) (fun s cs hs => ⟨⟨cs, hs⟩, rfl⟩) (fun k q _ hq => ?_)
    obtain ⟨h1, h2, h3⟩ := hold k q hq
    exact ⟨q, h1, rfl, rfl, h2, fun _ i j sz n g _ _ hg => ⟨hg, by rw [h3]⟩⟩
  have live : ∀ p, Live st.bx (shift b obr ++ st.ob) p → (∃ p0, Live [] obr p0 ∧ (∀ x, G2.blk p = some x → G'.blk p0 = some x) ∧ p = (match p0 with | .bx s => .bx s | .top k => .top (b + k) | .sub k i j => .sub (b + k) i j)) ∨ (Live st.bx st.ob p ∧ ∀ x, G2.blk p = some x → G.blk p = some x) := by
    intro p hp
    cases p with
    | bx s => exact .inr ⟨hp, fun x hx => hx⟩
    | top k =>
      obtain ⟨q, hq⟩ := hp
      rcases hlk k q hq with ⟨k0, rfl, h1, h2, h3⟩ | ⟨h1, h2, h3⟩
      · exact .inl ⟨.top k0, ⟨q, h1⟩, fun x hx => by simpa [Gh.blk, h2] using hx, rfl⟩
      · exact .inr ⟨⟨q, h1⟩, fun x hx => by simpa [Gh.blk, h2] using hx⟩
    | sub k i j =>
      obtain ⟨q, sz, n, g, hq, hi, hj, hgg⟩ := hp
      rcases hlk k q hq with ⟨k0, rfl, h1, h2, h3⟩ | ⟨h1, h2, h3⟩
      · exact .inl ⟨.sub k0 i j, ⟨q, sz, n, g, h1, hi, hj, hgg⟩, fun x hx => by simpa [Gh.blk, h3] using hx, rfl⟩
      · exact .inr ⟨⟨q, sz, n, g, h1, hi, hj, hgg⟩, fun x hx => by simpa [Gh.blk, h3] using hx⟩
  refine ⟨G2, ⟨h.df, h.sz, fun s => (h.tm s).same hext, ⟨?_, ?_, ?_, ?_⟩, hg.keep, ?_⟩, ?_, fun k q hq => (hold k q hq).2⟩
  · intro s cs hs
    obtain ⟨arr, t, b1, b2, b3⟩ := hg.ob.bxr s cs hs
    exact ⟨arr, t, b1, b2, fun j u hu => ⟨hext _ _ (b3 j u hu).1, (b3 j u hu).2⟩⟩
  · intro k q hq
    rcases hlk k q hq with ⟨k0, rfl, h1, h2, h3⟩ | ⟨h1, h2, h3⟩
    · rw [h2]
      refine (ho.obr k0 q h1).imp (fun _ _ => rfl) (fun i j v' hi hj hc => ?_)
      refine hc.free (hn k0 q h1 i j hi hj) (fun sz n g e => ⟨by rw [h3], fun _ _ => rfl⟩)
    · rw [h2]
      refine (hg.ob.obr k q h1).imp (fun _ _ => rfl) (fun i j v' hi hj hc => ?_)
      cases e : q.get i j with
      | fr sz n g => rw [e] at hc; exact ⟨hc.1, by rw [h3]; exact hc.2.1, by rw [h3]; exact hc.2.2⟩
      | _ => rw [e] at hc; exact hc
  · intro p q x hp hq hbp hbq
    rcases live p hp with ⟨p0, lp, gp, rfl⟩ | ⟨lp, gp⟩
    · rcases live q hq with ⟨q0, lq, gq, rfl⟩ | ⟨lq, gq⟩
      · rw [ho.inj p0 q0 x lp lq (gp x hbp) (gq x hbq)]
      · have h1 := (ho.okb p0 x lp (gp x hbp)).1
        have h2 := h.ob.lt lq (gq x hbq)
        omega
    · rcases live q hq with ⟨q0, lq, gq, rfl⟩ | ⟨lq, gq⟩
      · have h1 := (ho.okb q0 x lq (gq x hbq)).1
        have h2 := h.ob.lt lp (gp x hbp)
        omega
      · exact h.ob.inj p q x lp lq (gp x hbp) (gq x hbq)
  · intro p x hp hbp
    rcases live p hp with ⟨p0, lp, gp, rfl⟩ | ⟨lp, gp⟩
    · have h1 := (ho.okb p0 x lp (gp x hbp)).1
      have := h.keep.size
      exact ⟨.inl (by omega), fun hI => by have := (C.imm x hI).1; omega⟩
    · exact h.ob.okb p x lp (gp x hbp)
  · intro k q hp hq
    rcases hlk k q hq with ⟨k0, rfl, h1, h2, h3⟩ | ⟨h1, h2, h3⟩
    · have : lk (shift b obr) (b + k0) = some q := by rw [lk_shift]; exact h1
      rw [noP_isP hnew.2 this] at hp; cases hp
    · rw [h2]; exact h.pk k q hp h1
  · refine hr.inst hot hres (fun v' c hc hv => ?_)
    cases c with
    | own k n =>
      obtain ⟨q, h1, h2, h3⟩ := hv
      have e : lk (shift b obr) (b + k) = some q := by rw [lk_shift]; exact h1
      refine ⟨q, by rw [lk_append, e]; rfl, h2, ?_⟩
      have : G2.top (b + k) = G'.top k := by simp [G2, e]
      rw [this]; exact h3
    | ro sz n g =>
      have hv : CRep w I' v' (.ro sz n g) := hv
      cases hh : hot with
      | false =>
        refine SRep.of_crep (c := .ro sz n g) (hv.mono (hI hh) (fun x hx => ?_))
        exact (h.heapI (hI hh x hx)).symm
      | true =>
        rw [hh] at hc
        exact SRep.of_crep (c := .ro sz n g) (hv.free hc)
    | u => exact CRep.u _
    | int k n => have hv : CRep w I' v' (.int k n) := hv; exact hv.free rfl
    | bool k => have hv : CRep w I' v' (.bool k) := hv; exact hv.free rfl
    | str k => have hv : CRep w I' v' (.str k) := hv; exact hv.free rfl
    | _ => cases hc
end snap
end Go.Proofs.YtjnpnpkjmlihdaaDoor.Ab
namespace Go.Proofs.YtjnpnpkjmlihdaaDoor.Ab
open Go Go.RowKit

theorem run_callFunc {P : Program} {f : Nat} {vs : Array Value} {w : World} (h : isBody P f = true) : (callFunc f vs).run P w = .ok (.enter f vs) w := by
  unfold isBody at h
  cases e : P.funcs[f]? with
  | none => rw [e] at h; cases h
  | some fn =>
    rw [e] at h
    simp only [Bool.and_eq_true, Bool.not_eq_true'] at h
    have e0 : (callFunc f vs).run P w = (match P.funcs[f]? with
      | none => stuck "call: no such function"
      | some fn =>
        if fn.name == "runtime.NumGoroutine" then Pure.pure Next.numGoroutine
        else if fn.body.isNone then do
          mark (.extern f)
          if let some e := Extern.findNext fn then return ← e vs
          match Extern.find fn with
          | some e => Pure.pure (.value (← e vs))
          | none =>
            if fn.name.endsWith ".init" && !fn.name.startsWith "(" && !fn.name.startsWith "gosem." then Pure.pure (.value (.tuple #[]))
            else unsupported (.extern fn.name)
        else Pure.pure (.enter f vs) : Sem Next).run P w := rfl
    rw [e0, e]
    have h2 : fn.body.isNone = false := by cases hb : fn.body <;> simp_all
    simp only [h.2, h2, Bool.false_eq_true, if_false]
    rfl

section
variable {C : Cx} {G : Gh} {sv st : St} {a : Act} {w : World} {xs : List CA}

theorem chkAs_len : ∀ {os : List Operand} {ys : List CA}, chkAs os ys = true → os.length = ys.length
  | [], [], _ => rfl
  | x :: l, c :: m, h => by simp only [chkAs, Bool.and_eq_true] at h; simp [chkAs_len h.2]
  | [], _ :: _, h => by cases h
  | _ :: _, [], h => by cases h
def nthT : List T → Nat → T
  | [], _ => .u
  | x :: _, 0 => x
  | _ :: l, n + 1 => nthT l n
theorem View.evs (V : View C G sv st a xs) : ∀ {os : List Operand} {ys : List CA}, chkAs os ys = true → (∀ y ∈ ys, y ∈ xs) →
    ∀ (j : Nat) (x : Operand), os[j]? = some x → TRep C.w0 C.I G st.bx st.ob (a.eval x) (nthT (Ab.evs C.E sv ys) j)
  | [], [], _, _, j, x, hj => by simp at hj
  | o :: l, c :: m, h, hm, j, x, hj => by
    simp only [chkAs, Bool.and_eq_true] at h
    cases j with
    | zero => simp at hj; subst hj; exact V.ev h.1 (hm c (by simp))
    | succ j => exact View.evs V h.2 (fun y hy => hm y (by simp [hy])) j x (by simpa using hj)
  | [], _ :: _, h, _, _, _, _ => by cases h
  | _ :: _, [], h, _, _, _, _ => by cases h
theorem length_evs (E : Env) (s : St) (l : List CA) : (Ab.evs E s l).length = l.length := by
  induction l with
  | nil => rfl
  | cons c l ih => simp [Ab.evs, ih]
theorem anyT_nth {p : Cell → Bool} {l : List T} (h : anyT p l = false) {j : Nat} (hj : j < l.length) : (nthT l j).any p = false := by
  induction l generalizing j with
  | nil => simp at hj
  | cons c l ih =>
    simp only [anyT, Bool.or_eq_false_iff] at h
    cases j with
    | zero => simpa [nthT] using h.1
    | succ j => simpa [nthT] using ih h.2 (by simpa using hj)
theorem snapVs_nth : ∀ {ts : List T} {as : List V}, snapVs sv ts = some as → as.length = ts.length ∧ ∀ j, j < ts.length → snapV sv (nthT ts j) = some (nthV as j)
  | [], as, h => by cases h; exact ⟨rfl, fun j hj => by simp at hj⟩
  | t :: ts, as, h => by
    simp only [snapVs] at h
    split at h
    · rename_i x hx
      split at h
      · rename_i l hl
        cases h
        obtain ⟨h1, h2⟩ := snapVs_nth hl
        refine ⟨by simp [h1], fun j hj => ?_⟩
        cases j with
        | zero => exact hx
        | succ j => exact h2 j (by simpa using hj)
      · cases h
    · cases h

theorem live_nil (p : Pos) : ¬ Live [] [] p := by
  intro hp
  cases p with
  | bx s => obtain ⟨_, hp⟩ := hp; cases hp
  | top k => obtain ⟨_, hp⟩ := hp; cases hp
  | sub k i j => obtain ⟨_, _, _, _, hp, _⟩ := hp; cases hp
theorem Objs.nil (w w0 : World) (I ok : Nat → Prop) (G : Gh) : Objs w w0 I ok G [] [] :=
  ⟨fun s cs hs => (by cases hs), fun k r hr => (by cases hr), fun p _ _ hp => (live_nil p hp).elim, fun p _ hp => (live_nil p hp).elim⟩

/-- a call of a function that only reads -/
theorem callQ_ok (h : Rel C G st a w) {o : Oper} {f : Nat} {as : List V} {vs : Array Value} {hot : Bool} {K : T → Ob → Prop}
    (hrun : isBody C.E.P f = true → (execOp a.eval o).run C.E.P w = .ok (.enter f vs) w) (hlen : vs.size = as.length)
    (hvs : ∀ (j : Nat) (v : Value), vs[j]? = some v → VRep w (if hot then fun b => b < w.heap.size else C.I) G [] [] v (nthV as j))
    (hq : CallQ C.E f as hot o.dst sv.ob K) :
    ∃ t ob', K t ob' ∧ (∀ k r, lk ob' k = some r → lk sv.ob k = none) ∧ ((∀ k r, lk ob' k = some r → lk st.ob k = none) → Yld C st a w o t ob' []) := by
  obtain ⟨r, obr, hF, hres, hK⟩ := hq
  obtain ⟨hbody, hno, hF⟩ := hF
  have hIsz : ∀ b, (if hot then fun b => b < w.heap.size else C.I) b → b < w.heap.size := by
    intro b hb
    cases hot with
    | true => exact hb
    | false => exact Nat.lt_of_lt_of_le (C.imm b hb).1 h.keep.size
  have hCI : ∀ b, C.I b → (if hot then fun b => b < w.heap.size else C.I) b := by
    intro b hb
    cases hot with
    | true => exact Nat.lt_of_lt_of_le (C.imm b hb).1 h.keep.size
    | false => exact hb
  have hcall := hF w (if hot then fun b => b < w.heap.size else C.I) G vs hIsz (Env.gok_mono hCI (fun b hb => h.heapI hb) C.glob) hlen hvs
    (Objs.nil _ _ _ _ _)
  have hlent : ∀ b, ¬ lent G [] b := by
    rintro b ⟨p, hp, _⟩
    exact live_nil p hp
  cases hd : o.dst with
  | none =>
    rw [hd] at hK
    obtain ⟨rfl, hK⟩ := hK
    refine ⟨_, _, hK, fun k r hr => (by cases hr), fun _ => ?_⟩
    intro next QQ hn
    unfold Oper.wp
    rw [hrun hbody]
    refine hcall.mono ?_
    rintro e w' ⟨v, G', rfl, hr, ho, _, hk⟩
    refine hn v w' G (h.grow ⟨hk.os, hk.tape, hk.output, hk.size, fun x hx => hk.block x hx (hlent x)⟩) TRep.u
  | some d =>
    rw [hd] at hK
    obtain ⟨hnew, hK⟩ := hK
    refine ⟨_, _, hK, fun k r hr => ?_, fun hf => ?_⟩
    · simp only [newL, Bool.and_eq_true] at hnew
      exact freshL_none hnew.1 hr
    · intro next QQ hn
      unfold Oper.wp
      rw [hrun hbody]
      refine hcall.mono ?_
      rintro e w' ⟨v, G', rfl, hr, ho, _, hk⟩
      have hnew' : newL st.ob (shift (dkey d 0) obr) = true := by
        simp only [newL, Bool.and_eq_true] at hnew ⊢
        refine ⟨?_, hnew.2⟩
        have : ∀ (l : Ob), (∀ k r, lk l k = some r → lk st.ob k = none) → freshL st.ob l = true := by
          intro l
          induction l with
          | nil => intro _; rfl
          | cons p l ih =>
            intro hl
            obtain ⟨k, q⟩ := p
            simp only [freshL, Bool.and_eq_true]
            refine ⟨?_, ih fun k' r hr => ?_⟩
            · rw [hl k q (by simp [lk_cons])]
            · by_cases e : k = k'
              · subst e; exact hl k q (by simp [lk_cons])
              · exact hl k' r (by rw [lk_cons, if_neg e]; exact hr)
        exact this _ hf
      obtain ⟨G2, h1, h2, _⟩ := h.took (w' := w') (G' := G') (obr := obr) (b := dkey d 0) (v := v) (r := r) (hot := hot)
        ⟨hk.os, hk.tape, hk.output, hk.size, fun x hx _ => hk.block x hx (hlent x)⟩
        ⟨(by simpa using ho.bxr), (by simpa using ho.obr), (by simpa using ho.inj), fun p b hp hb => by
          obtain ⟨h1, h2⟩ := ho.okb p b (by simpa using hp) hb
          exact ⟨h1.resolve_right (hlent b), h2⟩⟩
        (by simpa using hr) (fun e => by subst e; exact fun _ hx => hx) hres (by simpa using hno) hnew'
      exact hn v w' G2 h1 h2

/-- what is owed for an operation that changes nothing that there is -/
def Owes (C : Cx) (sv st : St) (a : Act) (w : World) (o : Oper) (K : T → Ob → Bx → Prop) : Prop :=
  ∃ t ob' bx', K t ob' bx' ∧ (∀ k r, lk ob' k = some r → lk sv.ob k = none) ∧ (∀ s cs, lk bx' s = some cs → lk sv.bx s = none) ∧
    ((∀ k r, lk ob' k = some r → lk st.ob k = none) → (∀ s cs, lk bx' s = some cs → lk st.bx s = none) → Yld C st a w o t ob' bx')

theorem Owes.pure (h : Rel C G st a w) {o : Oper} {K : T → Ob → Bx → Prop} {t : T} {v : Value} (hK : K t [] []) (hv : (execOp a.eval o).run C.E.P w = .ok (.value v) w)
    (hr : TRep C.w0 C.I G st.bx st.ob v t) : Owes C sv st a w o K :=
  ⟨t, [], [], hK, fun _ _ h => (by cases h), fun _ _ h => (by cases h), fun _ _ => Yld.pure hv hr h⟩

theorem run_v {P : Program} {s : Sem Value} {v : Value} {w w' : World} (h : s.run P w = .ok v w') : (do Pure.pure (Next.value (← s)) : Sem Next).run P w = .ok (.value v) w' := by
  simp only [Sem.run_bind, h, Result.andThen_ok]; rfl

theorem Owes.box (h : Rel C G st a w) {o : Oper} {K : T → Ob → Bx → Prop} {s : Nat} {cs : List Cell} {arr : Array Value} {t : TypeId} (hK : K (one (.box s 0)) [] [(s, cs)])
    (hf : freshK sv.bx s = true) (hv : (execOp a.eval o).run C.E.P w = .ok (.value (.pointer (some ⟨w.heap.size, 0, none⟩))) { w with heap := w.heap.push (.cells arr t) })
    (hl : arr.size = cs.length) (hc : ∀ (j : Nat) (u : Value), arr[j]? = some u → SRep C.w0 C.I G st.bx st.ob u (nth cs j) ∧ (nth cs j).stor = true) : Owes C sv st a w o K := by
  refine ⟨_, [], [(s, cs)], hK, fun _ _ h => (by cases h), fun s' cs' h => ?_, fun _ hb => Yld.box hv hl hc h (hb s cs (by simp [lk_cons]))⟩
  rw [lk_cons] at h
  split at h
  · rename_i e; subst e; exact freshK_none hf
  · cases h

theorem Owes.row (h : Rel C G st a w) {o : Oper} {K : T → Ob → Bx → Prop} {k cap : Nat} {r q : Row} {arr : Array Value} {t : TypeId} (hK : K (one (.own k q.n)) [(k, q)] [])
    (hf : newK sv.ob k = true) (hv : (execOp a.eval o).run C.E.P w = .ok (.value (.slice (some ⟨w.heap.size, 0, none⟩) r.n cap)) { w with heap := w.heap.push (.cells arr t) })
    (hcap : r.n ≤ cap) (hl : cap * r.sz ≤ arr.size) (hc : ∀ i j, i < r.n → j < r.sz → ∃ u, arr[i * r.sz + j]? = some u ∧ CRep C.w0 C.I u (r.get i j) ∧ (r.get i j).plain = true)
    (hq : RowEq r q) : Owes C sv st a w o K := by
  simp only [newK, Bool.and_eq_true, Bool.not_eq_true'] at hf
  refine ⟨_, [(k, q)], [], hK, fun k' r' h => ?_, fun _ _ h => (by cases h), fun hb _ => Yld.row hv hcap hl hc hq h (hb k q (by simp [lk_cons])) hf.2⟩
  rw [lk_cons] at h
  split at h
  · rename_i e; subst e; exact freshK_none hf.1
  · cases h

theorem intK_ok {K : IntKind → Int → Prop} {x : T} (h : intK x K) : ∃ k n, x = .v (.one (.int k n)) ∧ K k n := by
  unfold intK at h
  split at h
  · exact ⟨_, _, rfl, h⟩
  · exact h.elim

theorem run_asIntOf {P : Program} {k : IntKind} {n : Int} {w : World} : (asIntOf (.int k n)).run P w = .ok (k, n) w := rfl
theorem run_ok {α : Type} {P : Program} {x : α} {w : World} : (Pure.pure x : Sem α).run P w = .ok x w := rfl

/-- an element's address -/
theorem addr_ok (h : Rel C G st a w) (V : View C G sv st a xs) {P : Program} {sz : Nat} {t e : TypeId} {x : T} {i : Int} {ki : IntKind} {v : Value} {K : Cell → Prop} (hk : addr sz sv x i K) (hv : TRep C.w0 C.I G st.bx st.ob v x)
    (ht : P.underlying t = some (.slice e)) (hs : sizeT P e = some sz) :
    ∃ c u, K c ∧ (Instr.indexAt t v (.int ki i)).run P w = .ok u w ∧ TRep C.w0 C.I G st.bx st.ob u (one c) := by
  have run : ∀ (b : Option Addr) (o n cap : Nat) (p : Nat), b = some ⟨p, o, none⟩ → (0 ≤ i ∧ i < n) →
      (Instr.indexAt t (.slice b n cap) (.int ki i)).run P w = .ok (.pointer (some ⟨p, o + i.toNat * sz, none⟩)) w := by
    intro b o n cap p hb hi
    subst hb
    simp only [Instr.indexAt, Sem.run_bind, run_asIntOf, Result.andThen_ok, run_underlying ht, run_ok]
    rw [if_pos hi]
    simp only [Sem.run_bind, run_sizeOf hs, Result.andThen_ok, addr_add]
    rfl
  unfold addr at hk
  split at hk
  · rename_i sz' n g
    cases e1 : Nat.beq sz sz' with
    | false => rw [e1] at hk; exact hk.elim
    | true =>
      rw [e1] at hk
      have := Nat.eq_of_beq_eq_true e1; subst this
      obtain ⟨hi, hK⟩ := hk
      have hv : CRep C.w0 C.I v (.ro sz n g) := hv
      cases hv with
      | ro0 => omega
      | ro b o c _ _ _ vals hn hpl hI hc hr =>
        refine ⟨_, _, hK, run _ o n c b rfl hi, ?_⟩
        refine (CRep.pro b (o + i.toNat * sz) sz _ (fun j => vals i.toNat j) hI (fun j hj => ?_) (fun j hj => hr i.toNat j (by omega) hj))
        rw [show o + i.toNat * sz + j = o + (i.toNat * sz + j) by omega]
        exact hc i.toNat j (by omega) hj
  · rename_i k n
    split at hk
    · rename_i r hr
      cases e1 : Nat.beq sz r.sz with
      | false => rw [e1] at hk; exact hk.elim
      | true =>
        rw [e1] at hk
        have e1 := Nat.eq_of_beq_eq_true e1
        obtain ⟨hi, hK⟩ := hk
        obtain ⟨r', h1, h2, h3⟩ := hv
        rw [V.ob k r hr] at h1; cases h1
        obtain ⟨b, hb⟩ := (h.ob.obr k r (V.ob k r hr)).base (i := 0) (by omega)
        have h3 : v = .slice (some ⟨b, (G.top k).off, none⟩) n (G.top k).cap := by rw [h3]; unfold Hd.val; rw [hb]
        refine ⟨_, _, hK, by rw [h3]; exact run _ _ n _ b rfl hi, ?_⟩
        exact ⟨r, b, V.ob k r hr, by omega, hb, by rw [e1]; rfl⟩
    · exact hk.elim
  · rename_i k i' j n
    split at hk
    · rename_i r hr
      split at hk
      · rename_i sz' n' g hg
        cases e1 : Nat.beq sz sz' with
        | false => rw [e1] at hk; exact hk.elim
        | true =>
          rw [e1] at hk
          have e1 := Nat.eq_of_beq_eq_true e1
          obtain ⟨hi, hK⟩ := hk
          obtain ⟨r', sz2, g2, h1, h2, h3, h4, h5⟩ := hv
          rw [V.ob k r hr] at h1; cases h1
          rw [hg] at h4; cases h4
          obtain ⟨b, hb⟩ := (h.ob.sub (V.ob k r hr) h2 h3 hg).2.base (i := 0) (by omega)
          have h5 : v = .slice (some ⟨b, (G.sub k i' j).off, none⟩) n (G.sub k i' j).cap := by rw [h5]; unfold Hd.val; rw [hb]
          refine ⟨_, _, hK, by rw [h5]; exact run _ _ n _ b rfl hi, ?_⟩
          exact ⟨r, sz', n, g, b, V.ob k r hr, h2, h3, hg, by omega, hb, by rw [e1]; rfl⟩
      · exact hk.elim
    · exact hk.elim
  · exact hk.elim

theorem ptr_of (h : Rel C G st a w) {v : Value} {x : T} {K : Cell → Prop} {len sz : Nat} {i : Int} (hk : addrA len sz x i K) (hv : TRep C.w0 C.I G st.bx st.ob v x) :
    ∃ c b o, K c ∧ (0 ≤ i ∧ i < len) ∧ v = .pointer (some ⟨b, o, none⟩) ∧ TRep C.w0 C.I G st.bx st.ob (.pointer (some ⟨b, o + i.toNat * sz, none⟩)) (one c) := by
  unfold addrA at hk
  split at hk
  · rename_i m g
    cases e1 : Nat.ble (len * sz) m with
    | false => rw [e1] at hk; exact hk.elim
    | true =>
      rw [e1] at hk
      have e1 := Nat.le_of_ble_eq_true e1
      obtain ⟨hi, hK⟩ := hk
      have hv : CRep C.w0 C.I v (.pro m g) := hv
      cases hv with
      | pro b o _ _ vals hI hc hr =>
        have hm : ∀ j, j < sz → i.toNat * sz + j < m := by
          intro j hj
          have h1 : i.toNat + 1 ≤ len := by omega
          have h2 := Nat.mul_le_mul_right sz h1
          rw [Nat.add_mul, Nat.one_mul] at h2
          omega
        refine ⟨_, b, o, hK, hi, rfl, (CRep.pro b _ sz _ (fun j => vals (i.toNat * sz + j)) hI (fun j hj => ?_) (fun j hj => hr _ (hm j hj)))⟩
        rw [show o + i.toNat * sz + j = o + (i.toNat * sz + j) by omega]
        exact hc _ (hm j hj)
  · rename_i s o
    obtain ⟨hi, hK⟩ := hk
    obtain ⟨cs, h1, h2⟩ := hv
    exact ⟨_, _, _, hK, hi, h2, ⟨cs, h1, rfl⟩⟩
  · rename_i k i' o
    obtain ⟨hi, hK⟩ := hk
    obtain ⟨r, b, h1, h2, h3, h4⟩ := hv
    exact ⟨_, _, _, hK, hi, h4, ⟨r, b, h1, h2, h3, by rw [show (G.top k).off + (i' * r.sz + o) + i.toNat * sz = (G.top k).off + (i' * r.sz + (o + i.toNat * sz)) by omega]⟩⟩
  · exact hk.elim

theorem field_of (h : Rel C G st a w) {v : Value} {x : T} {K : Cell → Prop} {off : Nat} (hk : fieldA off x K) (hv : TRep C.w0 C.I G st.bx st.ob v x) :
    ∃ c b o, K c ∧ v = .pointer (some ⟨b, o, none⟩) ∧ TRep C.w0 C.I G st.bx st.ob (.pointer (some ⟨b, o + off, none⟩)) (one c) := by
  unfold fieldA at hk
  split at hk
  · rename_i m g
    cases e1 : Nat.ble off m with
    | false => rw [e1] at hk; exact hk.elim
    | true =>
      rw [e1] at hk
      have e1 := Nat.le_of_ble_eq_true e1
      have hv : CRep C.w0 C.I v (.pro m g) := hv
      cases hv with
      | pro b o _ _ vals hI hc hr =>
        refine ⟨_, b, o, hk, rfl, (CRep.pro b _ (m - off) _ (fun j => vals (off + j)) hI (fun j hj => ?_) (fun j hj => hr _ (by omega)))⟩
        rw [show o + off + j = o + (off + j) by omega]
        exact hc _ (by omega)
  · obtain ⟨cs, h1, h2⟩ := hv
    exact ⟨_, _, _, hk, h2, ⟨cs, h1, rfl⟩⟩
  · rename_i k i' o
    obtain ⟨r, b, h1, h2, h3, h4⟩ := hv
    exact ⟨_, _, _, hk, h4, ⟨r, b, h1, h2, h3, by rw [show (G.top k).off + (i' * r.sz + o) + off = (G.top k).off + (i' * r.sz + (o + off)) by omega]⟩⟩
  · rename_i k i' j i2 o
    obtain ⟨r, sz, n, g, b, h1, h2, h3, h4, h5, h6, h7⟩ := hv
    exact ⟨_, _, _, hk, h7, ⟨r, sz, n, g, b, h1, h2, h3, h4, h5, h6, by rw [show (G.sub k i' j).off + (i2 * sz + o) + off = (G.sub k i' j).off + (i2 * sz + (o + off)) by omega]⟩⟩
  · exact hk.elim
end

/-! ### append -/
section
variable {w : World}
theorem idx_inj {sz i j i' j' : Nat} (hj : j < sz) (hj' : j' < sz) (h : i * sz + j = i' * sz + j') : i = i' ∧ j = j' := by
  have h1 : (i * sz + j) / sz = i := by rw [Nat.mul_comm, Nat.mul_add_div (by omega), Nat.div_eq_of_lt hj]; omega
  have h2 : (i' * sz + j') / sz = i' := by rw [Nat.mul_comm, Nat.mul_add_div (by omega), Nat.div_eq_of_lt hj']; omega
  have e : i = i' := by rw [← h1, ← h2, h]
  subst e
  exact ⟨rfl, by omega⟩

theorem laid_get {cur : Array Value} {vs : List Value} {o' j : Nat} (ho : o' + vs.length ≤ cur.size) :
    (cur.toList.take o' ++ vs ++ cur.toList.drop (o' + vs.length)).toArray[j]? = if o' ≤ j ∧ j < o' + vs.length then vs[j - o']? else cur[j]? := by
  have h1 : (cur.toList.take o').length = o' := by simp; omega
  simp only [List.getElem?_toArray, List.append_assoc, List.getElem?_append, h1]
  by_cases a1 : j < o'
  · rw [if_pos a1, if_neg (by omega), List.getElem?_take, if_pos a1]; simp
  · rw [if_neg a1]
    by_cases a2 : j - o' < vs.length
    · rw [if_pos a2, if_pos (by omega)]
    · rw [if_neg a2, if_neg (by omega), List.getElem?_drop]
      rw [show o' + vs.length + (j - o' - vs.length) = j by omega]; simp
theorem laid_size {cur : Array Value} {vs : List Value} {o' : Nat} (ho : o' + vs.length ≤ cur.size) :
    (cur.toList.take o' ++ vs ++ cur.toList.drop (o' + vs.length)).toArray.size = cur.size := by
  simp; omega

theorem run_append_room' {P : Program} (t ty e : TypeId) (i : TypeInfo) (ht : P.underlying t = some (.slice e)) (hi : P.info? e = some i)
    (g off sLen sCap : Nat) (cur : Array Value) (t' : TypeId) (hg : w.heap[g]? = some (.cells cur t' (0, 0)))
    (a : Addr) (m c : Nat) (news : List Value) (hl : news.length = m * i.size) (hnews : ∀ j u, news[j]? = some u → w.cell? (a.add j) = some u) (h1 : ∀ u ∈ news, u.oneCell' = true)
    (hroom : sLen + m ≤ sCap) (hfit : off + sLen * i.size + news.length ≤ cur.size) :
    (Builtin.append_ #[t, t] ty #[.slice (some ⟨g, off, none⟩) sLen sCap, .slice (some a) m c]).run P w =
      .ok (.slice (some ⟨g, off, none⟩) (sLen + m) sCap) (w.setRow g (cur.toList.take (off + sLen * i.size) ++ news ++ cur.toList.drop (off + sLen * i.size + news.length)).toArray) := by
  have hf := run_firstCells_some (P := P) w i.size m a m c news hl hnews
  have hst := run_storeCells_at P g (off + sLen * i.size) t' news 0 cur w hg (by simpa using hfit) h1
  simp only [Nat.add_zero] at hst
  simp [Builtin.append_, Go.run_underlying ht, sizeOf, typeInfo, hi, Builtin.lenOf, hroom, hf, Addr.add_lit, hst]

theorem run_append_none {P : Program} (t ty e : TypeId) (i : TypeInfo) (ht : P.underlying t = some (.slice e)) (hi : P.info? e = some i) (s y : Option Addr) (n cap c : Nat) (hn : n ≤ cap) :
    (Builtin.append_ #[t, t] ty #[.slice s n cap, .slice y 0 c]).run P w = .ok (.slice s n cap) w := by
  cases y <;> cases s <;> simp [Builtin.append_, Go.run_underlying ht, sizeOf, typeInfo, hi, Builtin.lenOf, hn, Builtin.firstCells, loadCells, loadCellsFrom, storeCells]

/-- append: what comes of it -/
theorem run_app {P : Program} {t ty e : TypeId} {i : TypeInfo} {z : Value} {sz bytes n m : Nat} {d : Hd} {cr cy : Nat → Nat → Value → Prop} (ht : P.underlying t = some (.slice e)) (hi : P.info? e = some i) (hz : i.zero = some z)
    (hsz : i.size = sz) (hby : i.bytes = bytes) (hzs : z.cells.size = sz) (hpos : 0 < sz) (hr : RowAt w d sz n cr) {b' : Option Addr} {c : Nat}
    (hy : 0 < m → ∃ p o, b' = some ⟨p, o, none⟩ ∧ ∀ i j, i < m → j < sz → ∃ u, w.cell? ⟨p, o + (i * sz + j), none⟩ = some u ∧ cy i j u)
    (hone : ∀ i j u, cy i j u → u.oneCell' = true) (hb1 : n + m < 1073741824) (hb2 : bytes < 65536) :
    ∃ w' d', (Builtin.append_ #[t, t] ty #[d.val n, .slice b' m c]).run P w = .ok (d'.val (n + m)) w' ∧
      RowAt w' d' sz (n + m) (fun i j v => (i < n ∧ cr i j v) ∨ (n ≤ i ∧ cy (i - n) j v)) ∧ (∀ b, d'.base = some b → d.base = some b ∨ w.heap.size ≤ b) ∧
      (∀ b, b < w.heap.size → d.base ≠ some b → w'.heap[b]? = w.heap[b]?) ∧ w'.os = w.os ∧ w'.tape = w.tape ∧ w'.output = w.output ∧ w.heap.size ≤ w'.heap.size := by
  subst hsz
  subst hby
  by_cases hm : m = 0
  · subst hm
    refine ⟨w, d, ?_, ⟨hr.1, hr.2.1, fun b hb => ?_⟩, fun b hb => .inl hb, fun _ _ _ => rfl, rfl, rfl, rfl, Nat.le_refl _⟩
    · unfold Hd.val
      split <;> exact run_append_none t ty e i ht hi _ _ _ _ _ hr.1
    · obtain ⟨cs, t', h1, h2, h3⟩ := hr.2.2 b hb
      refine ⟨cs, t', h1, h2, fun i' j' a1 a2 => ?_⟩
      obtain ⟨v, hv, hc⟩ := h3 i' j' a1 a2
      exact ⟨v, hv, .inl ⟨a1, hc⟩⟩
  · obtain ⟨p, o, rfl, hcells⟩ := hy (by omega)
    let news : List Value := (List.range (m * i.size)).map fun k => (w.cell? ⟨p, o + k, none⟩).getD undef
    have hl : news.length = m * i.size := by simp [news]
    have hdec : ∀ k, k < m * i.size → k / i.size < m ∧ k % i.size < i.size ∧ k = k / i.size * i.size + k % i.size := by
      intro k hk
      refine ⟨Nat.div_lt_of_lt_mul (by rw [Nat.mul_comm]; exact hk), Nat.mod_lt _ hpos, ?_⟩
      rw [Nat.mul_comm]; exact (Nat.div_add_mod k i.size).symm
    have hget : ∀ k, k < m * i.size → ∃ u, news[k]? = some u ∧ w.cell? ⟨p, o + k, none⟩ = some u ∧ cy (k / i.size) (k % i.size) u := by
      intro k hk
      obtain ⟨h1, h2, h3⟩ := hdec k hk
      obtain ⟨u, hu, hcu⟩ := hcells _ _ h1 h2
      rw [← h3] at hu
      exact ⟨u, by simp [news, hk, hu], hu, hcu⟩
    have hnews : ∀ j u, news[j]? = some u → w.cell? ((⟨p, o, none⟩ : Addr).add j) = some u := by
      intro j u hj
      have hlt : j < m * i.size := by have := (List.getElem?_eq_some_iff.1 hj).1; omega
      obtain ⟨u', h1, h2, _⟩ := hget j hlt
      rw [h1] at hj; cases hj
      rw [addr_add]; exact h2
    have hn1 : ∀ u ∈ news, u.oneCell' = true := by
      intro u hu
      obtain ⟨j, hj⟩ := List.mem_iff_getElem?.1 hu
      have hlt : j < m * i.size := by have := (List.getElem?_eq_some_iff.1 hj).1; omega
      obtain ⟨u', h1, _, h3⟩ := hget j hlt
      rw [h1] at hj; cases hj
      exact hone _ _ _ h3
    have hbytes : (n + m) * i.bytes ≤ 140737488355328 := by
      have : (n + m) * i.bytes ≤ 1073741824 * 65536 := Nat.mul_le_mul (by omega) (by omega)
      omega
    have hcy : ∀ i' j', n ≤ i' → i' < n + m → j' < i.size → ∃ u, news[i' * i.size + j' - n * i.size]? = some u ∧ cy (i' - n) j' u := by
      intro i' j' a1 a2 a3
      have e1 : i' * i.size + j' - n * i.size = (i' - n) * i.size + j' := by
        rw [Nat.sub_mul]; have := Nat.mul_le_mul_right i.size a1; omega
      have hlt : (i' - n) * i.size + j' < m * i.size := by
        have : (i' - n + 1) * i.size ≤ m * i.size := Nat.mul_le_mul_right _ (by omega)
        rw [Nat.add_mul, Nat.one_mul] at this; omega
      obtain ⟨u, h1, h2, h3⟩ := hget _ hlt
      obtain ⟨k1, k2, k3⟩ := hdec _ hlt
      obtain ⟨k4, k5⟩ := idx_inj (sz := i.size) a3 k2 k3
      rw [← k4, ← k5] at h3
      exact ⟨u, by rw [e1]; exact h1, h3⟩
    -- a new block
    have grow : ∀ (olds : List Value) (cap : Nat), olds.length = n * i.size → (∀ i' j', i' < n → j' < i.size → ∃ v, olds[i' * i.size + j']? = some v ∧ cr i' j' v) → cap < n + m →
        RowAt (w.drew.alloc (.cells (olds.toArray ++ news.toArray ++ Builtin.zeroCells z.cells (grownCap w (n + m) cap e - (n + m))) e)) ⟨some w.heap.size, grownCap w (n + m) cap e, none, 0⟩ i.size (n + m)
          (fun i j v => (i < n ∧ cr i j v) ∨ (n ≤ i ∧ cy (i - n) j v)) := by
      intro olds cap ho hold hc
      have hge := grownCap_ge w (n + m) cap e
      refine ⟨hge, fun e => (by cases e), fun b hb => ?_⟩
      cases hb
      refine ⟨_, e, heap_alloc_new w.drew _, ?_, fun i' j' a1 a2 => ?_⟩
      · simp only [Nat.zero_add, Array.size_append, List.size_toArray, size_zeroCells, hzs, ho, hl, ← Nat.add_mul]
        exact Nat.mul_le_mul_right _ (by omega)
      · simp only [Nat.zero_add]
        have hlt : i' * i.size + j' < (n + m) * i.size := by
          have : (i' + 1) * i.size ≤ (n + m) * i.size := Nat.mul_le_mul_right _ (by omega)
          rw [Nat.add_mul, Nat.one_mul] at this; omega
        rw [Nat.add_mul] at hlt
        rw [Array.getElem?_append, if_pos (by simp [ho, hl]; omega), Array.getElem?_append]
        by_cases c1 : i' < n
        · have : i' * i.size + j' < n * i.size := by
            have : (i' + 1) * i.size ≤ n * i.size := Nat.mul_le_mul_right _ (by omega)
            rw [Nat.add_mul, Nat.one_mul] at this; omega
          rw [if_pos (by simp [ho]; omega)]
          obtain ⟨v, hv, hcv⟩ := hold i' j' c1 a2
          exact ⟨v, by simpa using hv, .inl ⟨c1, hcv⟩⟩
        · have : n * i.size ≤ i' * i.size := Nat.mul_le_mul_right _ (by omega)
          rw [if_neg (by simp [ho]; omega)]
          obtain ⟨u, hu, hcu⟩ := hcy i' j' (by omega) (by omega) a2
          exact ⟨u, by simpa [ho] using hu, .inr ⟨by omega, hcu⟩⟩
    cases hd : d.base with
    | none =>
      have hcap : d.cap = 0 := hr.2.1 hd
      have hn0 : n = 0 := by have := hr.1; omega
      subst hn0
      have hg := grow [] 0 (by simp) (fun i' j' h => by omega) (by omega)
      have hfr : ∀ b, b < w.heap.size → none ≠ some b → (w.drew.alloc (.cells ([].toArray ++ news.toArray ++ Builtin.zeroCells z.cells (grownCap w (0 + m) 0 e - (0 + m))) e)).heap[b]? = w.heap[b]? :=
        fun b hb _ => heap_alloc_old w.drew _ hb
      cases hjk : d.jk with
      | none =>
        have hrun := run_append_nil (P := P) w t ty e i z ht hi hz ⟨p, o, none⟩ m c news hl hnews (by omega) (by omega) (by simp only [Nat.zero_add] at hbytes; omega)
        refine ⟨_, _, ?_, hg, fun b hb => .inr (by cases hb; exact Nat.le_refl _), fun b hb hne => hfr b hb hne, rfl, rfl, rfl, by show _ ≤ (w.heap.push _).size; simp⟩
        have : d.val 0 = .slice none 0 0 := by unfold Hd.val; rw [hd, hjk, hcap]
        rw [this, hrun]
        simp [Hd.val]
      | some q =>
        have hrun := run_append_grow (P := P) w t ty e i z ht hi hz q 0 0 [] (by simp) (fun j v hj => by simp at hj) ⟨p, o, none⟩ m c news hl hnews (by omega) (by omega) (growslice_fits (by omega) hbytes)
        refine ⟨_, _, ?_, hg, fun b hb => .inr (by cases hb; exact Nat.le_refl _), fun b hb hne => hfr b hb hne, rfl, rfl, rfl, by show _ ≤ (w.heap.push _).size; simp⟩
        have : d.val 0 = .slice (some q) 0 0 := by unfold Hd.val; rw [hd, hjk, hcap]
        rw [this, hrun]
        simp [Hd.val]
    | some b =>
      obtain ⟨cs, t', h1, h2, h3⟩ := hr.2.2 b hd
      have hv : d.val n = .slice (some ⟨b, d.off, none⟩) n d.cap := by unfold Hd.val; rw [hd]
      by_cases hroom : n + m ≤ d.cap
      · have hfit : d.off + n * i.size + news.length ≤ cs.size := by
          rw [hl, Nat.add_assoc, ← Nat.add_mul]; exact Nat.le_trans (Nat.add_le_add_left (Nat.mul_le_mul_right _ hroom) _) h2
        have hrun := run_append_room' (P := P) t ty e i ht hi b d.off n d.cap cs t' h1 ⟨p, o, none⟩ m c news hl hnews hn1 hroom hfit
        refine ⟨_, d, by rw [hv, hrun]; unfold Hd.val; rw [hd], ⟨hroom, hr.2.1, fun b2 hb2 => ?_⟩, fun b2 hb2 => .inl (by rw [hd] at hb2; exact hb2), fun b2 _ hne => setRow_other w b b2 _ (fun e => hne (by rw [e])), rfl, rfl, rfl, by simp⟩
        rw [hd] at hb2; cases hb2
        refine ⟨_, t', setRow_heap w b cs _ t' _ h1, by rw [laid_size hfit]; simpa using h2, fun i' j' a1 a2 => ?_⟩
        rw [laid_get hfit]
        by_cases c1 : i' < n
        · have : i' * i.size + j' < n * i.size := by
            have : (i' + 1) * i.size ≤ n * i.size := Nat.mul_le_mul_right _ (by omega)
            rw [Nat.add_mul, Nat.one_mul] at this; omega
          rw [if_neg (by omega)]
          obtain ⟨v, hv, hcv⟩ := h3 i' j' c1 a2
          exact ⟨v, hv, .inl ⟨c1, hcv⟩⟩
        · have h4 : n * i.size ≤ i' * i.size := Nat.mul_le_mul_right _ (by omega)
          have h5 : i' * i.size + j' < (n + m) * i.size := by
            have : (i' + 1) * i.size ≤ (n + m) * i.size := Nat.mul_le_mul_right _ (by omega)
            rw [Nat.add_mul, Nat.one_mul] at this; omega
          rw [Nat.add_mul] at h5
          rw [if_pos (by omega)]
          obtain ⟨u, hu, hcu⟩ := hcy i' j' (by omega) (by omega) a2
          exact ⟨u, by rw [show d.off + (i' * i.size + j') - (d.off + n * i.size) = i' * i.size + j' - n * i.size by omega]; exact hu, .inr ⟨by omega, hcu⟩⟩
      · let olds : List Value := (cs.toList.drop d.off).take (n * i.size)
        have hfit : d.off + n * i.size ≤ cs.size := Nat.le_trans (Nat.add_le_add_left (Nat.mul_le_mul_right _ hr.1) _) h2
        have ho : olds.length = n * i.size := by simp [olds]; omega
        have hoget : ∀ k, k < n * i.size → olds[k]? = cs[d.off + k]? := by
          intro k hk
          simp only [olds, List.getElem?_take, if_pos hk, List.getElem?_drop]
          simp
        have holds : ∀ j u, olds[j]? = some u → w.cell? ((⟨b, d.off, none⟩ : Addr).add j) = some u := by
          intro j u hj
          have hlt : j < n * i.size := by have := (List.getElem?_eq_some_iff.1 hj).1; omega
          rw [hoget j hlt] at hj
          rw [addr_add, cell_of_heap h1]; exact hj
        have hrun := run_append_grow (P := P) w t ty e i z ht hi hz ⟨b, d.off, none⟩ n d.cap olds ho holds ⟨p, o, none⟩ m c news hl hnews (by omega) (by omega) (growslice_fits (by omega) hbytes)
        have hg := grow olds d.cap ho (fun i' j' a1 a2 => by
          have : i' * i.size + j' < n * i.size := by
            have : (i' + 1) * i.size ≤ n * i.size := Nat.mul_le_mul_right _ (by omega)
            rw [Nat.add_mul, Nat.one_mul] at this; omega
          obtain ⟨v, hv, hcv⟩ := h3 i' j' a1 a2
          exact ⟨v, by rw [hoget _ this]; exact hv, hcv⟩) (by omega)
        refine ⟨_, _, ?_, hg, fun b hb => .inr (by cases hb; exact Nat.le_refl _), fun b hb hne => heap_alloc_old w.drew _ hb, rfl, rfl, rfl, by show _ ≤ (w.heap.push _).size; simp⟩
        rw [hv, hrun]
        simp [Hd.val]
end
end Go.Proofs.YtjnpnpkjmlihdaaDoor.Ab
namespace Go.Proofs.YtjnpnpkjmlihdaaDoor.Ab
open Go Go.RowKit

section
variable {C : Cx} {G : Gh} {sv st : St} {a : Act} {w : World} {xs : List CA}

theorem eqopt {α : Type} [BEq α] [LawfulBEq α] {x : Option α} {y : α} (h : (x == some y) = true) : x = some y := by simpa using h

/-- the parts of a struct, laid in -/
theorem fill_ok (V : View C G sv st a xs) {P : Program} {fs : Array Field} {places : Array (Nat × Nat)} (hp : ∀ (i : Nat) f, fs[i]? = some f → ∃ n, sizeT P f.type = some n ∧ places[i]? = some (f.offset, n)) :
    ∀ {ps : List (Nat × Operand)} {qs : List (Nat × Nat × CA)} {z : List Cell} {cs : List Cell} {cells : Array Value}, chkParts P fs ps qs = true → (∀ q ∈ qs, q.2.2 ∈ xs) →
      (cells.size = z.length ∧ ∀ (j : Nat) (v : Value), cells[j]? = some v → SRep C.w0 C.I G st.bx st.ob v (nth z j)) → fillP C.E sv z qs = some cs →
      ∃ arr, Instr.fill (places[·]?) cells (ps.map fun (i, x) => (i, a.eval x)) = some arr ∧ arr.size = cs.length ∧ ∀ (j : Nat) (v : Value), arr[j]? = some v → SRep C.w0 C.I G st.bx st.ob v (nth cs j)
  | [], [], z, cs, cells, _, _, hz, hf => by
    simp only [fillP, Option.some.injEq] at hf
    subst hf
    exact ⟨cells, rfl, hz⟩
  | (i, x) :: ps, (o, n, y) :: qs, z, cs, cells, hc, hm, hz, hf => by
    simp only [chkParts, Bool.and_eq_true] at hc
    obtain ⟨⟨hc1, hc2⟩, hc3⟩ := hc
    have hv := V.ev hc2 (hm (o, n, y) (by simp))
    simp only [fillP] at hf
    split at hf
    · rename_i yv hy
      rw [hy] at hv
      cases hb : (Nat.beq yv.cells.length n && (Nat.ble (o + n) z.length && allC Cell.stor yv.cells)) with
      | false => rw [hb] at hf; cases hf
      | true =>
        rw [hb] at hf
        simp only [Bool.and_eq_true] at hb
        have hb1 := Nat.eq_of_beq_eq_true hb.1
        have hb2 := Nat.le_of_ble_eq_true hb.2.1
        split at hc1
        · rename_i f hf'
          simp only [Bool.and_eq_true] at hc1
          have ho := Nat.eq_of_beq_eq_true hc1.1
          have hn := eqopt hc1.2
          obtain ⟨n', hn', hpl⟩ := hp i f hf'
          rw [hn] at hn'; cases hn'
          have hu := vcells hv (.inl hb.2.2)
          have hlay := fill_rep (R := SRep C.w0 C.I G st.bx st.ob) (off := o) hz hu (by omega)
          obtain ⟨arr, h1, h2⟩ := fill_ok V hp (cells := (a.eval x).cells.zipIdx.foldl (fun cs (p : Value × Nat) => cs.setIfInBounds (o + p.2) p.1) cells) hc3 (fun q hq => hm q (by simp [hq])) hlay hf
          refine ⟨arr, ?_, h2⟩
          simp only [List.map_cons, Instr.fill, hpl, ho]
          rw [if_neg (by simp only [Bool.or_eq_true, decide_eq_true_eq, not_or]; have := hu.1; have := hz.1; omega)]
          exact h1
        · cases hc1
    · cases hf
  | [], _ :: _, _, _, _, hc, _, _, _ => by cases hc
  | _ :: _, [], _, _, _, hc, _, _, _ => by cases hc

/-- the parts of a row that is written out -/
theorem fillS_ok (V : View C G sv st a xs) {sz : Nat} :
    ∀ {ps : List (Nat × Operand)} {qs : List CA} {i0 : Nat} {ys : List (List Cell)} {cells : Array Value}, chkIdx i0 ps qs = true → (∀ q ∈ qs, q ∈ xs) → (i0 + qs.length) * sz ≤ cells.size → partsP C.E sv sz qs = some ys →
      ∃ arr, Instr.fill (fun i => some (i * sz, sz)) cells (ps.map fun (i, x) => (i, a.eval x)) = some arr ∧ arr.size = cells.size ∧ ys.length = qs.length ∧
        (∀ k, k < i0 * sz → arr[k]? = cells[k]?) ∧
        ∀ i j, i < qs.length → j < sz → ∃ u, arr[(i0 + i) * sz + j]? = some u ∧ SRep C.w0 C.I G st.bx st.ob u (nth (nthL ys i) j) ∧ (nth (nthL ys i) j).plain = true
  | [], [], i0, ys, cells, _, _, _, hf => by
    simp only [partsP, Option.some.injEq] at hf
    subst hf
    exact ⟨cells, rfl, rfl, rfl, fun _ _ => rfl, fun i j hi => by simp at hi⟩
  | (k, x) :: ps, y :: qs, i0, ys, cells, hc, hm, hz, hf => by
    simp only [chkIdx, Bool.and_eq_true] at hc
    obtain ⟨⟨hc1, hc2⟩, hc3⟩ := hc
    have hc1 := Nat.eq_of_beq_eq_true hc1
    subst hc1
    have hv := V.ev hc2 (hm y (by simp))
    simp only [partsP] at hf
    split at hf
    · rename_i yv hy
      rw [hy] at hv
      cases hb : (Nat.beq yv.cells.length sz && allC Cell.plain yv.cells) with
      | false => rw [hb] at hf; cases hf
      | true =>
        rw [hb] at hf
        simp only [Bool.and_eq_true] at hb
        have hb1 := Nat.eq_of_beq_eq_true hb.1
        simp only [cond_true] at hf
        split at hf
        · rename_i zs hzs
          cases hf
          have hu := vcells hv (.inl (allC_mono (fun _ => stor_of_plain) hb.2))
          have hz' : (i0 + 1 + qs.length) * sz ≤ cells.size := by simp only [List.length_cons] at hz; rw [show i0 + 1 + qs.length = i0 + (qs.length + 1) by omega]; exact hz
          have e : (a.eval x).cells.zipIdx.foldl (fun cs (p : Value × Nat) => cs.setIfInBounds (i0 * sz + p.2) p.1) cells = ((a.eval x).cells.toList.zipIdx 0).foldl (fun cs (p : Value × Nat) => cs.setIfInBounds (i0 * sz + p.2) p.1) cells := by
            rw [← Array.foldl_toList, Array.toList_zipIdx]
          obtain ⟨f1, f2⟩ := fold_set cells (a.eval x).cells.toList (i0 * sz) 0
          rw [← e] at f1 f2
          have hbig : i0 * sz + sz ≤ cells.size := by
            have : (i0 + 1) * sz ≤ (i0 + 1 + qs.length) * sz := Nat.mul_le_mul_right _ (by omega)
            rw [Nat.add_mul i0 1, Nat.one_mul] at this
            omega
          obtain ⟨arr, h1, h2, h3, h4, h5⟩ := fillS_ok V (i0 := i0 + 1) (cells := (a.eval x).cells.zipIdx.foldl (fun cs (p : Value × Nat) => cs.setIfInBounds (i0 * sz + p.2) p.1) cells) hc3 (fun q hq => hm q (by simp [hq])) (by rw [f2]; exact hz') hzs
          have hsz : (a.eval x).cells.size = sz := by rw [hu.1, hb1]
          have hone : (i0 + 1) * sz = i0 * sz + sz := by rw [Nat.add_mul, Nat.one_mul]
          refine ⟨arr, ?_, by rw [h2, f2], by simp [h3], ?_, ?_⟩
          · simp only [List.map_cons, Instr.fill]
            rw [if_neg (by simp only [Bool.or_eq_true, decide_eq_true_eq, not_or]; omega)]
            exact h1
          · intro k hk
            rw [h4 k (by omega), f1 k, if_neg (by omega)]
          · intro i j hi hj
            cases i with
            | zero =>
              have hj' : j < (a.eval x).cells.size := by omega
              refine ⟨(a.eval x).cells[j], ?_, hu.2 j _ (by simp [hj']), allC_nth hb.2 (by omega)⟩
              rw [Nat.add_zero, h4 _ (by omega), f1, if_pos (by simp; omega)]
              rw [show i0 * sz + j - (i0 * sz + 0) = j by omega]
              simp [hj']
            | succ i =>
              obtain ⟨u, u1, u2⟩ := h5 i j (by simpa using hi) hj
              exact ⟨u, by rw [show i0 + (i + 1) = i0 + 1 + i by omega]; exact u1, u2⟩
        · cases hf
    · cases hf
  | [], _ :: _, _, _, _, hc, _, _, _ => by cases hc
  | _ :: _, [], _, _, _, hc, _, _, _ => by cases hc

/-- bounds of a cut -/
theorem cut_ok (V : View C G sv st a xs) {P : Program} {n cap : Nat} {lo hi : Option Operand} {lo' hi' : Option CA} {K : Nat → Nat → Prop} (isSlice : Bool) (hn : n ≤ cap) (hlo : chkO lo lo' = true) (hhi : chkO hi hi' = true)
    (hm1 : ∀ y, lo' = some y → y ∈ xs) (hm2 : ∀ y, hi' = some y → y ∈ xs) (hk : cutK C.E sv n lo' hi' K) :
    ∃ l h, K l h ∧ l ≤ h ∧ h ≤ n ∧ (Instr.sliceBounds isSlice n cap (lo.map a.eval) (hi.map a.eval) none).run P w = .ok (l, h, cap) w := by
  have key2 : ∀ (y : Nat) (l : Int) (c : BoundsCode), (0 ≤ l ∧ l ≤ y) → ∀ k, (Instr.sliceBound (.int k l) y c).run P w = .ok l.toNat w := by
    intro y l c hl k
    simp only [Instr.sliceBound, Sem.run_bind, run_asIntOf, Result.andThen_ok]
    rw [if_pos hl]; rfl
  have e0 : (Pure.pure 0 : Sem Nat).run P w = .ok 0 w := rfl
  have en : (Pure.pure n : Sem Nat).run P w = .ok n w := rfl
  have ec : (Pure.pure cap : Sem Nat).run P w = .ok cap w := rfl
  unfold cutK at hk
  cases hi with
  | none =>
    cases hi' with
    | some _ => cases hhi
    | none =>
      cases lo with
      | none =>
        cases lo' with
        | some _ => cases hlo
        | none =>
          obtain ⟨h1, h2⟩ := hk
          refine ⟨0, n, h2, by omega, by omega, ?_⟩
          simp only [Instr.sliceBounds, Option.map_none, Sem.run_bind, e0, en, ec, Result.andThen_ok]
          rfl
      | some x =>
        cases lo' with
        | none => cases hlo
        | some y =>
          obtain ⟨k, m, e, h1, h2⟩ := intK_ok hk
          have hv := V.ev (x := x) (c := y) hlo (hm1 y rfl)
          rw [e] at hv
          have hv := rep_int hv
          refine ⟨m.toNat, n, h2, by omega, by omega, ?_⟩
          simp only [Instr.sliceBounds, Option.map_none, Option.map_some, Sem.run_bind, en, ec, Result.andThen_ok, hv, key2 n m _ ⟨h1.1, h1.2⟩ k]
          rfl
  | some x2 =>
    cases hi' with
    | none => cases hhi
    | some y2 =>
      cases lo with
      | none =>
        cases lo' with
        | some _ => cases hlo
        | none =>
          obtain ⟨k, m, e, h1, h2⟩ := intK_ok hk
          have hv := V.ev (x := x2) (c := y2) hhi (hm2 y2 rfl)
          rw [e] at hv
          have hv := rep_int hv
          refine ⟨0, m.toNat, h2, by omega, by omega, ?_⟩
          simp only [Instr.sliceBounds, Option.map_none, Option.map_some, Sem.run_bind, e0, ec, Result.andThen_ok, hv, key2 cap m _ ⟨h1.2.1, by omega⟩ k]
          rfl
      | some x =>
        cases lo' with
        | none => cases hlo
        | some y =>
          obtain ⟨k, m, e, hk⟩ := intK_ok hk
          obtain ⟨k2, m2, e2, h1, h2⟩ := intK_ok hk
          have hv := V.ev (x := x) (c := y) hlo (hm1 y rfl)
          rw [e] at hv
          have hv := rep_int hv
          have hv2 := V.ev (x := x2) (c := y2) hhi (hm2 y2 rfl)
          rw [e2] at hv2
          have hv2 := rep_int hv2
          refine ⟨m.toNat, m2.toNat, h2, by omega, by omega, ?_⟩
          simp only [Instr.sliceBounds, Option.map_some, Sem.run_bind, ec, Result.andThen_ok, hv, hv2, key2 cap m2 _ ⟨by omega, by omega⟩ k2, key2 m2.toNat m _ ⟨h1.1, by omega⟩ k]
          rfl

theorem run_call {P : Program} {c : Call} {f : Nat} {caps : Array Value} {x : Operand} {ty : TypeId} (ha : c.callee = .value x) (hx : a.eval x = .func (.func f) #[] caps) (h : isBody P f = true) :
    (do let d ← resolve a.eval c ty; invoke d.target d.args : Sem Next).run P w = .ok (.enter f (c.args.map a.eval ++ caps)) w := by
  have e : (do let d ← resolve a.eval c ty; invoke d.target d.args : Sem Next).run P w = (callFunc f ((#[] ++ c.args.map a.eval) ++ caps)).run P w := by
    simp only [resolve, ha, Deferred.ofValue, hx, Sem.run_bind]
    rfl
  rw [e, run_callFunc h]
  simp

theorem run_builtin {P : Program} {c : Call} {b : Builtin} {ty : TypeId} {s : Sem Value} (ha : c.callee = .builtin b)
    (hs : ∀ cs, builtin b c.argTypes ty cs (c.args.map a.eval) = (do Pure.pure (Next.value (← s)))) :
    (do let d ← resolve a.eval c ty; invoke d.target d.args : Sem Next).run P w = (do Pure.pure (Next.value (← s)) : Sem Next).run P w := by
  simp only [resolve, ha]
  exact congrArg (fun s => Sem.run P s w) (hs _)

theorem nthV_append (l m : List V) (j : Nat) : nthV (l ++ m) j = if j < l.length then nthV l j else nthV m (j - l.length) := by
  induction l generalizing j with
  | nil => simp
  | cons c l ih =>
    cases j with
    | zero => simp [nthV]
    | succ j => simp [nthV, ih]
theorem nthV_map (m : Nat) (g : Nat → V) (j : Nat) (h : j < m) : nthV ((List.range m).map g) j = g j := by
  have : ∀ (l : List Nat) (j : Nat) (x : Nat), l[j]? = some x → nthV (l.map g) j = g x := by
    intro l
    induction l with
    | nil => intro j x hx; simp at hx
    | cons c l ih =>
      intro j x hx
      cases j with
      | zero => simp at hx; subst hx; rfl
      | succ j => simpa [nthV] using ih j x (by simpa using hx)
  exact this _ _ _ (by simp [h])

theorem run_eqB {P : Program} {t : TypeId} {b1 b2 : Bool} (hu : P.underlying t = some .bool) {w : World} : ∀ d, d ≠ 0 → (Op.equalIn d t (.bool b1) (.bool b2)).run P w = .ok (b1 == b2) w
  | 0, h => (h rfl).elim
  | d + 1, _ => by
    simp only [Op.equalIn, Sem.run_bind, run_underlying hu, Result.andThen_ok]
    rfl

/-- the text of bytes -/
theorem bts_ok (h : Rel C G st a w) (V : View C G sv st a xs) {x : T} {v : Value} {K : Cell → Prop} (hk : btsK sv x K) (hv : TRep C.w0 C.I G st.bx st.ob v x) :
    ∃ (l : List UInt8) (a' : Addr) (cap : Nat), K (.str ⟨l.toArray⟩) ∧ v = .slice (some a') l.length cap ∧ ∀ j (hj : j < l.length), w.cell? (a'.add j) = some (.int .u8 (l[j].toNat : Int)) := by
  unfold btsK at hk
  split at hk
  · rename_i sz n g
    cases hb : Nat.beq sz 1 with
    | false => rw [hb] at hk; exact hk.elim
    | true =>
      rw [hb] at hk
      have hb := Nat.eq_of_beq_eq_true hb
      subst hb
      obtain ⟨l, h1, h2, h3, h4⟩ := hk
      have hv : CRep C.w0 C.I v (.ro 1 n g) := hv
      cases hv with
      | ro0 b c => omega
      | ro b o' c _ _ _ vals hn hpl hI hc hr =>
        subst h2
        refine ⟨l, ⟨b, o', none⟩, c, h4, rfl, fun j hj => ?_⟩
        have e := h3 j l[j] (by simp [hj])
        have hr1 := hr j 0 hj (by omega)
        rw [e] at hr1
        have hc1 := hc j 0 hj (by omega)
        rw [addr_add, h.cellI hI, show o' + j = o' + (j * 1 + 0) by omega, hc1]
        generalize hg : vals j 0 = u at hr1
        cases hr1; rfl
  · rename_i k n
    split at hk
    case h_2 => exact hk.elim
    rename_i r hr
    cases hb : Nat.beq r.sz 1 with
    | false => rw [hb] at hk; exact hk.elim
    | true =>
      rw [hb] at hk
      have hb := Nat.eq_of_beq_eq_true hb
      obtain ⟨l, h1, h2, h3, h4⟩ := hk
      obtain ⟨r', g1, g2, g3⟩ := hv
      have hr := V.ob k r hr
      rw [hr] at g1; cases g1
      have hR := h.ob.obr k r hr
      obtain ⟨b, hbb⟩ := hR.base (i := 0) (by omega)
      obtain ⟨cs, t, e1, e2, e3⟩ := hR.2.2 b hbb
      refine ⟨l, ⟨b, (G.top k).off, none⟩, (G.top k).cap, h4, ?_, fun j hj => ?_⟩
      · rw [g3, ← g2, h2]
        unfold Hd.val; rw [hbb]
      · obtain ⟨u, hu, hcu⟩ := e3 j 0 (by omega) (by omega)
        rw [h3 j l[j] (by simp [hj])] at hcu
        have hcu := hcu.1
        rw [addr_add, cell_of_heap e1, hb] at *
        have : (G.top k).off + (j * 1 + 0) = (G.top k).off + j := by omega
        rw [this] at hu
        rw [hu]
        cases hcu; rfl
  · exact hk.elim

theorem splice1_len : ∀ (cs : List Cell) (o : Nat) (c : Cell), (splice cs o [c]).length = cs.length
  | [], _, _ => rfl
  | _ :: cs, 0, c => by
    show (c :: splice cs 0 []).length = _
    have : splice cs 0 [] = cs := by cases cs <;> rfl
    rw [this]; rfl
  | x :: cs, o + 1, c => by
    show (x :: splice cs o [c]).length = _
    rw [List.length_cons, splice1_len cs o c]; rfl
theorem nth_splice1 : ∀ (cs : List Cell) (o j : Nat) (c : Cell), nth (splice cs o [c]) j = if j = o ∧ o < cs.length then c else nth cs j
  | [], o, j, c => by rw [if_neg (by simp)]; rfl
  | x :: cs, 0, j, c => by
    have e : splice (x :: cs) 0 [c] = c :: cs := by
      show c :: splice cs 0 [] = _
      have : splice cs 0 [] = cs := by cases cs <;> rfl
      rw [this]
    rw [e]
    cases j with
    | zero => rw [if_pos ⟨rfl, by simp⟩]; rfl
    | succ j => rw [if_neg (by omega)]; rfl
  | x :: cs, o + 1, j, c => by
    have e : splice (x :: cs) (o + 1) [c] = x :: splice cs o [c] := rfl
    rw [e]
    cases j with
    | zero => rw [if_neg (by omega)]; rfl
    | succ j =>
      show nth (splice cs o [c]) j = if j + 1 = o + 1 ∧ o + 1 < cs.length + 1 then c else nth cs j
      rw [nth_splice1 cs o j c]
      by_cases h : j = o ∧ o < cs.length
      · rw [if_pos h, if_pos (by omega)]
      · rw [if_neg h, if_neg (by omega)]
theorem val_ok (h : Rel C G st a w) (o : Oper) (co : COp) (hchk : chkOp C.E.P o.op co = true) (V : View C G sv st a co.args) {K : T → Ob → Bx → Prop} (hv : val C.E sv o.dst co K) :
    Owes C sv st a w o K := by
  generalize hop : o.op = op at hchk
  unfold chkOp at hchk
  split at hchk
  · rename_i x y
    exact Owes.pure h hv (by simp only [execOp, hop]; rfl) (V.ev hchk (by simp [COp.args]))
  · rename_i x y
    exact Owes.pure h hv (by simp only [execOp, hop]; rfl) (V.ev hchk (by simp [COp.args]))
  · rename_i x deep sz j
    simp only [val] at hv
    cases hd : o.dst with
    | none => rw [hd] at hv; exact hv.elim
    | some s =>
      rw [hd] at hv
      cases hf : newK sv.ob (dkey s j) with
      | false => simp only [hf] at hv; exact hv.elim
      | true =>
        simp only [hf] at hv
        obtain ⟨q, hq, hK⟩ := hv
        simp only [newK, Bool.and_eq_true, Bool.not_eq_true'] at hf
        have hx : x = .const (.slice none 0 0) := by unfold isNilS at hchk; split at hchk <;> first | rfl | cases hchk
        refine ⟨_, _, _, hK, fun k' r' h' => ?_, fun _ _ h => (by cases h), fun hb _ => Yld.nil (by simp only [execOp, hop, hx]; rfl) hq.n.symm h (hb _ q (by simp [lk_cons])) hf.2⟩
        rw [lk_cons] at h'
        split at h'
        · rename_i e; subst e; exact freshK_none hf.1
        · cases h'
  · rename_i x deep sz j
    simp only [val] at hv
    cases hd : o.dst with
    | none => rw [hd] at hv; exact hv.elim
    | some s =>
      rw [hd] at hv
      cases hf : newK sv.ob (dkey s j) with
      | false => simp only [hf] at hv; exact hv.elim
      | true =>
        simp only [hf] at hv
        obtain ⟨q, hq, hK⟩ := hv
        simp only [newK, Bool.and_eq_true, Bool.not_eq_true'] at hf
        have hx : x = .const (.slice none 0 0) := by unfold isNilS at hchk; split at hchk <;> first | rfl | cases hchk
        refine ⟨_, _, _, hK, fun k' r' h' => ?_, fun _ _ h => (by cases h), fun hb _ => Yld.nil (by simp only [execOp, hop, hx]; rfl) hq.n.symm h (hb _ q (by simp [lk_cons])) hf.2⟩
        rw [lk_cons] at h'
        split at h'
        · rename_i e; subst e; exact freshK_none hf.1
        · cases h'
  · rename_i t z
    simp only [val] at hv
    cases hd : o.dst with
    | none => rw [hd] at hv; exact hv.elim
    | some s =>
      rw [hd] at hv
      cases hf : (freshK sv.bx s && allC Cell.plain z) with
      | false => simp only [hf] at hv; exact hv.elim
      | true =>
        simp only [hf] at hv
        simp only [Bool.and_eq_true] at hf
        unfold zeroC at hchk
        split at hchk
        · rename_i i hi
          split at hchk
          · rename_i v hz
            obtain ⟨h1, h2⟩ := chkCs_rep hchk
            refine Owes.box h (arr := v.cells) (t := t) hv hf.1 ?_ (by simpa using h1) (fun j u hu => ?_)
            · simp only [execOp, hop]
              refine run_v ?_
              simp only [Instr.alloc, Sem.run_bind, run_zero hi hz, Result.andThen_ok]
              rfl
            · obtain ⟨k1, k2⟩ := h2 j u (by simpa using hu) C.w0 C.I
              exact ⟨SRep.of_crep k1, stor_of_plain k2⟩
          · cases hchk
        · cases hchk
  · rename_i t x y
    simp only [val] at hv
    cases hd : o.dst with
    | none => rw [hd] at hv; exact hv.elim
    | some s =>
      rw [hd] at hv
      simp only at hv
      have hx := V.ev hchk (by simp [COp.args])
      split at hv
      · rename_i yv hy
        rw [hy] at hx
        cases hf : (freshK sv.bx s && allC Cell.stor yv.cells) with
        | false => simp only [hf] at hv; exact hv.elim
        | true =>
          simp only [hf] at hv
          simp only [Bool.and_eq_true] at hf
          obtain ⟨h1, h2⟩ := vcells hx (.inl hf.2)
          refine Owes.box h (arr := (a.eval x).cells) (t := t) hv hf.1 ?_ h1 (fun j u hu => ⟨h2 j u hu, allC_nth hf.2 (by have := (Array.getElem?_eq_some_iff.1 hu).1; omega)⟩)
          simp only [execOp, hop]
          exact run_v rfl
      · exact hv.elim
  · rename_i t ps z qs
    simp only [Bool.and_eq_true] at hchk
    obtain ⟨hz, hp⟩ := hchk
    simp only [val] at hv
    split at hv
    · rename_i cs hcs
      unfold zeroC at hz
      split at hz
      · rename_i i hi
        split at hz
        · rename_i v hz'
          obtain ⟨z1, z2⟩ := chkCs_rep hz
          split at hp
          · rename_i fs hfs
            simp only [Bool.and_eq_true] at hp
            have hall : ∀ (i : Nat) (f : Field), fs[i]? = some f → (sizeT C.E.P f.type).isSome = true := by
              intro i f hf
              have := hp.1
              simp only [fieldsOk, Array.all_eq_true] at this
              have hlt := (Array.getElem?_eq_some_iff.1 hf).1
              have e := (Array.getElem?_eq_some_iff.1 hf).2
              have := this i hlt
              rw [e] at this; exact this
            have hmap : ∀ (w : World), (fs.mapM fun f => (do Pure.pure (f.offset, ← sizeOf f.type) : Sem (Nat × Nat))).run C.E.P w = .ok (fs.map fun f => (f.offset, (sizeT C.E.P f.type).getD 0)) w := by
              intro w
              have : ∀ (l : List Field), (∀ f ∈ l, (sizeT C.E.P f.type).isSome = true) → (l.mapM fun f => (do Pure.pure (f.offset, ← sizeOf f.type) : Sem (Nat × Nat))).run C.E.P w = .ok (l.map fun f => (f.offset, (sizeT C.E.P f.type).getD 0)) w := by
                intro l
                induction l with
                | nil => intro _; rfl
                | cons f l ih =>
                  intro hl
                  obtain ⟨n, hn⟩ := Option.isSome_iff_exists.1 (hl f (by simp))
                  simp only [List.mapM_cons, Sem.run_bind, run_sizeOf hn, Result.andThen_ok, run_ok, ih (fun g hg => hl g (by simp [hg])), List.map_cons, hn]
                  rfl
              rw [Array.mapM_eq_mapM_toList]
              have e : (List.toArray <$> fs.toList.mapM fun f => (do Pure.pure (f.offset, ← sizeOf f.type) : Sem (Nat × Nat))).run C.E.P w =
                  ((fs.toList.mapM fun f => (do Pure.pure (f.offset, ← sizeOf f.type) : Sem (Nat × Nat))) >>= fun l => Pure.pure l.toArray).run C.E.P w := rfl
              rw [e, Sem.run_bind, this fs.toList (fun f hf => by
                obtain ⟨i, hi⟩ := List.mem_iff_getElem?.1 hf
                exact hall i f (by simpa using hi))]
              simp only [Result.andThen_ok, run_ok]
              congr 1
              apply Array.ext' ; simp
            obtain ⟨arr, f1, f2, f3⟩ := fill_ok (xs := (COp.build z qs).args) V (places := fs.map fun f => (f.offset, (sizeT C.E.P f.type).getD 0)) (P := C.E.P) (fs := fs) (fun i f hf => by
                obtain ⟨n, hn⟩ := Option.isSome_iff_exists.1 (hall i f hf)
                exact ⟨n, hn, by simp [hf, hn]⟩) hp.2 (fun q hq => by simp only [COp.args, List.mem_map]; exact ⟨q, hq, rfl⟩)
              (cells := v.cells) ⟨by simpa using z1, fun j u hu => SRep.of_crep (z2 j u (by simpa using hu) C.w0 C.I).1⟩ hcs
            refine Owes.pure h hv (v := .agg arr) ?_ ⟨arr, rfl, f2, f3⟩
            simp only [execOp, hop]
            refine run_v ?_
            simp only [Instr.build, Sem.run_bind, run_zero hi hz', Result.andThen_ok, run_underlying hfs, hmap]
            have e : (ps.map fun (x : Nat × Operand) => (x.1, a.eval x.2)).toList = ps.toList.map fun (i, x) => (i, a.eval x) := by simp
            rw [e, f1]
            rfl
          · cases hp
        · cases hz
      · cases hz
    · exact hv.elim
  · rename_i t ps z off sz' qs
    simp only [Bool.and_eq_true] at hchk
    obtain ⟨hz, hp⟩ := hchk
    simp only [val] at hv
    cases hd : o.dst with
    | none => rw [hd] at hv; exact hv.elim
    | some s =>
      rw [hd] at hv
      simp only at hv
      split at hv
      · rename_i cs hcs
        split at hv
        · rename_i hE
          cases hf : (newK sv.ob (dkey s 0) && Nat.blt off cs.length) with
          | false => simp only [hf] at hv; exact hv.elim
          | true =>
            simp only [hf] at hv
            obtain ⟨q, hq, hK⟩ := hv
            simp only [newK, Bool.and_eq_true, Bool.not_eq_true'] at hf
            have hoff : off < cs.length := by have := hf.2; simpa [Nat.blt_eq] using this
            unfold zeroE at hz
            split at hz
            · rename_i i hi
              split at hz
              · rename_i v hz'
                obtain ⟨z1, z2⟩ := chkEs_rep hz
                split at hp
                · rename_i fs hfs
                  simp only [Bool.and_eq_true] at hp
                  have hall : ∀ (i : Nat) (f : Field), fs[i]? = some f → (sizeT C.E.P f.type).isSome = true := by
                    intro i f hf
                    have := hp.1
                    simp only [fieldsOk, Array.all_eq_true] at this
                    have hlt := (Array.getElem?_eq_some_iff.1 hf).1
                    have e := (Array.getElem?_eq_some_iff.1 hf).2
                    have := this i hlt
                    rw [e] at this; exact this
                  have hmap : ∀ (w : World), (fs.mapM fun f => (do Pure.pure (f.offset, ← sizeOf f.type) : Sem (Nat × Nat))).run C.E.P w = .ok (fs.map fun f => (f.offset, (sizeT C.E.P f.type).getD 0)) w := by
                    intro w
                    have : ∀ (l : List Field), (∀ f ∈ l, (sizeT C.E.P f.type).isSome = true) → (l.mapM fun f => (do Pure.pure (f.offset, ← sizeOf f.type) : Sem (Nat × Nat))).run C.E.P w = .ok (l.map fun f => (f.offset, (sizeT C.E.P f.type).getD 0)) w := by
                      intro l
                      induction l with
                      | nil => intro _; rfl
                      | cons f l ih =>
                        intro hl
                        obtain ⟨n, hn⟩ := Option.isSome_iff_exists.1 (hl f (by simp))
                        simp only [List.mapM_cons, Sem.run_bind, run_sizeOf hn, Result.andThen_ok, run_ok, ih (fun g hg => hl g (by simp [hg])), List.map_cons, hn]
                        rfl
                    rw [Array.mapM_eq_mapM_toList]
                    have e : (List.toArray <$> fs.toList.mapM fun f => (do Pure.pure (f.offset, ← sizeOf f.type) : Sem (Nat × Nat))).run C.E.P w =
                        ((fs.toList.mapM fun f => (do Pure.pure (f.offset, ← sizeOf f.type) : Sem (Nat × Nat))) >>= fun l => Pure.pure l.toArray).run C.E.P w := rfl
                    rw [e, Sem.run_bind, this fs.toList (fun f hf => by
                      obtain ⟨i, hi⟩ := List.mem_iff_getElem?.1 hf
                      exact hall i f (by simpa using hi))]
                    simp only [Result.andThen_ok, run_ok]
                    congr 1
                    apply Array.ext' ; simp
                  obtain ⟨arr, f1, f2, f3⟩ := fill_ok (xs := (COp.buildO z off sz' qs).args) V (places := fs.map fun f => (f.offset, (sizeT C.E.P f.type).getD 0)) (P := C.E.P) (fs := fs) (fun i f hf => by
                      obtain ⟨n, hn⟩ := Option.isSome_iff_exists.1 (hall i f hf)
                      exact ⟨n, hn, by simp [hf, hn]⟩) hp.2 (fun q hq => by simp only [COp.args, List.mem_map]; exact ⟨q, hq, rfl⟩)
                    (cells := v.cells) ⟨by simpa using z1, fun j u hu => SRep.of_crep (z2 j u (by simpa using hu) C.w0 C.I)⟩ hcs
                  have hex : (execOp a.eval o).run C.E.P w = .ok (.value (.agg arr)) w := by
                    simp only [execOp, hop]
                    refine run_v ?_
                    simp only [Instr.build, Sem.run_bind, run_zero hi hz', Result.andThen_ok, run_underlying hfs, hmap]
                    have e : (ps.map fun (x : Nat × Operand) => (x.1, a.eval x.2)).toList = ps.toList.map fun (i, x) => (i, a.eval x) := by simp
                    rw [e, f1]
                    rfl
                  refine ⟨_, _, _, hK, fun k' r' h' => ?_, fun _ _ h => (by cases h), fun hb _ => ?_⟩
                  · rw [lk_cons] at h'
                    split at h'
                    · rename_i e; subst e; exact freshK_none hf.1.1
                    · cases h'
                  · have hk := hb (dkey s 0) q (by simp [lk_cons])
                    intro next QQ hn
                    unfold Oper.wp
                    rw [hex]
                    have hq0 : q.n = 0 := hq.n.symm
                    obtain ⟨b, hb0⟩ : ∃ b, arr[off]? = some (.slice b 0 0) := by
                      have h1 : arr[off]? = some (arr[off]'(by omega)) := Array.getElem?_eq_getElem _
                      have h2 := f3 off _ h1
                      rw [hE] at h2
                      have h2 : CRep C.w0 C.I (arr[off]'(by omega)) .emp := h2
                      generalize arr[off]'(by omega) = u at h1 h2
                      cases h2
                      exact ⟨_, h1⟩
                    obtain ⟨h1, h2, h3⟩ := h.newR (r := q) (d := ⟨none, 0, b, 0⟩) hk hf.1.2 ⟨by omega, fun _ => rfl, fun b hb => by cases hb⟩ (fun p b hb => by cases hb) (fun b hb => by cases hb)
                    refine hn _ _ _ h1 ⟨arr, rfl, by rw [splice1_len, f2], fun j u hj => ?_⟩
                    rw [nth_splice1]
                    by_cases e : j = off ∧ off < cs.length
                    · rw [if_pos e]
                      rw [e.1, hb0] at hj
                      cases hj
                      have e2 : (Hd.mk none 0 b 0).val q.n = .slice b 0 0 := by rw [hq0]; rfl
                      rw [e2] at h3
                      exact h3
                    · rw [if_neg e]
                      exact h2 _ _ (f3 j u hj)
                · cases hp
              · cases hz
            · cases hz
        · exact hv.elim
      · exact hv.elim
  · rename_i t len ps deep sz qs
    simp only [Bool.and_eq_true] at hchk
    obtain ⟨⟨⟨ht, hl⟩, hi⟩, hsz⟩ := hchk
    have hl := Nat.eq_of_beq_eq_true hl
    have hsz := Nat.le_of_ble_eq_true hsz
    · simp only [val] at hv
      cases hd : o.dst with
      | none => rw [hd] at hv; exact hv.elim
      | some s =>
        rw [hd] at hv
        simp only at hv
        split at hv
        · rename_i ys hys
          cases hf : newK sv.ob (dkey s 0) with
          | false => simp only [hf] at hv; exact hv.elim
          | true =>
            simp only [hf] at hv
            obtain ⟨q, hq, hK⟩ := hv
            split at ht
            · rename_i e he
              simp only [Bool.and_eq_true] at ht
              have hs := eqopt ht.1
              obtain ⟨zv, hzv⟩ := Option.isSome_iff_exists.1 ht.2
              obtain ⟨ei, hei, hz⟩ := Option.bind_eq_some_iff.1 hzv
              obtain ⟨arr, f1, f2, f3, f4, f5⟩ := fillS_ok (xs := (COp.bslice deep sz qs).args) V (i0 := 0) (cells := (Array.range (len * sz)).map ((if len * sz = 0 then #[] else zv.cells)[· % (if len * sz = 0 then #[] else zv.cells).size]!))
                hi (fun q hq => by simpa [COp.args] using hq) (by simp [hl]) hys
              refine Owes.row h (r := litRow deep sz ys) (cap := len) (arr := arr) (t := e) hK hf ?_ (by simp [litRow, f3, hl]) (by rw [f2]; simp [litRow]) ?_ hq
              · simp only [execOp, hop]
                refine run_v ?_
                have hlen : (litRow deep sz ys).n = len := by simp [litRow, f3, hl]
                rw [hlen]
                simp only [Instr.buildSlice, Sem.run_bind, run_underlying he, Result.andThen_ok, run_sizeOf hs, if_neg (show ¬ len * sz > 2 ^ 24 by omega)]
                have e2 : (ps.map fun (x : Nat × Operand) => (x.1, a.eval x.2)).toList = ps.toList.map fun (i, x) => (i, a.eval x) := by simp
                by_cases h0 : len * sz = 0
                · simp only [if_pos h0, Sem.run_bind, run_ok, Result.andThen_ok] at f1 ⊢
                  rw [e2, f1]; rfl
                · simp only [if_neg h0, Sem.run_bind, run_zero hei hz, run_ok, Result.andThen_ok] at f1 ⊢
                  rw [e2, f1]; rfl
              · intro i j hi' hj'
                simp only [litRow] at hi' hj' ⊢
                obtain ⟨u, u1, u2, u3⟩ := f5 i j (by omega) hj'
                exact ⟨u, by simpa using u1, SRep.plain u2 u3, u3⟩
            · cases ht
        · exact hv.elim
  · simp only [val] at hv
  · rename_i t len ps
    simp only [Bool.and_eq_true] at hchk
    obtain ⟨⟨ht, hl⟩, hp⟩ := hchk
    have hl := Nat.eq_of_beq_eq_true hl
    have hp := Nat.eq_of_beq_eq_true hp
    subst hl
    simp only [val] at hv
    split at ht
    · rename_i e he
      simp only [Bool.and_eq_true] at ht
      obtain ⟨n, hs⟩ := Option.isSome_iff_exists.1 ht.1
      have hps : ps.toList = [] := List.length_eq_zero_iff.1 hp
      refine ⟨_, [], [], hv, fun _ _ h => (by cases h), fun _ _ h => (by cases h), fun _ _ => ?_⟩
      intro next QQ hn
      have hrun : (execOp a.eval o).run C.E.P w = .ok (.value (.slice (some ⟨w.heap.size, 0, none⟩) 0 0)) { w with heap := w.heap.push (.cells #[] e) } := by
        simp only [execOp, hop]
        refine run_v ?_
        have e2 : (ps.map fun (x : Nat × Operand) => (x.1, a.eval x.2)).toList = [] := by simp [hps]
        simp only [Instr.buildSlice, Sem.run_bind, run_underlying he, Result.andThen_ok, run_sizeOf hs, Nat.zero_mul, if_neg (show ¬ 0 > 2 ^ 24 by omega), if_true, run_ok, e2]
        rw [show Array.range 0 = #[] from by simp]
        simp only [List.map_toArray, List.map_nil, Array.map_empty]
        rfl
      unfold Oper.wp
      rw [hrun]
      exact hn _ _ _ (h.grow (Grow.push w (.cells #[] e))) (CRep.emp _)
    · cases ht
  · rename_i t x n agg y
    simp only [Bool.and_eq_true, Bool.or_eq_true] at hchk
    obtain ⟨⟨⟨hx, hn⟩, ha⟩, h1⟩ := hchk
    simp only [val] at hv
    obtain ⟨cs, u, hK, hr, ht⟩ := ld_ok h V hv (V.ev hx (by simp [COp.args])) (eqopt hn) (eqopt ha) (fun e => by
      rcases h1 with h1 | h1
      · rw [e] at h1; cases h1
      · exact Nat.eq_of_beq_eq_true h1)
    exact Owes.pure h hK (by simp only [execOp, hop]; exact run_v hr) ht
  · simp only [val] at hv
  · rename_i op t x y yt op' x' y'
    simp only [Bool.and_eq_true] at hchk
    obtain ⟨⟨⟨h1, h2⟩, h3⟩, h4⟩ := hchk
    have h1 : op = op' := by simpa using h1
    subst h1
    simp only [val] at hv
    obtain ⟨c, u, hK, hr, ht⟩ := bin_ok (C := C) (G := G) (st := st) (w := w) (P := C.E.P) (tx := t) (xo := x) (yo := y) hv (V.ev h2 (by simp [COp.args])) (V.ev h3 (by simp [COp.args]))
    exact Owes.pure h hK (by simp only [execOp, hop]; exact run_v hr) ht
  · rename_i op t x y yt neq x' y'
    simp only [Bool.and_eq_true] at hchk
    obtain ⟨⟨⟨h1, h2⟩, h3⟩, h4⟩ := hchk
    simp only [val] at hv
    split at hv
    · rename_i b1 b2 e1 e2
      have k1 := V.ev h2 (by simp [COp.args]); rw [e1] at k1; have k1 := rep_bool k1
      have k2 := V.ev h3 (by simp [COp.args]); rw [e2] at k2; have k2 := rep_bool k2
      split at h4
      · rename_i hu
        refine Owes.pure h hv (v := .bool (bif neq then !(b1 == b2) else b1 == b2)) ?_ mk_bool
        simp only [execOp, hop]
        refine run_v ?_
        rw [k1, k2]
        have heq : ∀ w : World, (Op.equal t (.bool b1) (.bool b2)).run C.E.P w = .ok (b1 == b2) w := by
          exact fun w => run_eqB hu Op.maxDepth (by decide)
        cases op <;> cases neq <;> first
          | (cases h1; done)
          | (simp only [eqGuard, Go.binOp, Sem.run_bind]
             simp only [Bool.not_true, Bool.false_eq_true, if_false, heq, run_ok, Result.andThen_ok]
             rfl)
      · cases h4
    · exact hv.elim
  · rename_i t x y
    simp only [val] at hv
    obtain ⟨k, n, e, hK⟩ := intK_ok hv
    have k1 := V.ev hchk (by simp [COp.args]); rw [e] at k1; have k1 := rep_int k1
    exact Owes.pure h hK (by simp only [execOp, hop]; refine run_v ?_; rw [k1]; rfl) mk_int
  · rename_i t x y
    simp only [val] at hv
    split at hv
    · rename_i b e
      have k1 := V.ev hchk (by simp [COp.args]); rw [e] at k1; have k1 := rep_bool k1
      exact Owes.pure h hv (by simp only [execOp, hop]; refine run_v ?_; rw [k1]; rfl) mk_bool
    · exact hv.elim
  · rename_i s d x k y
    simp only [Bool.and_eq_true] at hchk
    obtain ⟨⟨h1, h2⟩, h3⟩ := hchk
    simp only [val] at hv
    obtain ⟨k0, n, e, hK⟩ := intK_ok hv
    have k1 := V.ev h1 (by simp [COp.args]); rw [e] at k1; have k1 := rep_int k1
    obtain ⟨su, hsu⟩ := Option.isSome_iff_exists.1 h2
    split at h3
    · rename_i k' hdu
      have h3 : k = k' := by simpa using h3
      subst h3
      refine Owes.pure h hK ?_ mk_int
      simp only [execOp, hop]
      refine run_v ?_
      rw [k1]
      unfold convert
      rw [Sem.run_bind, run_underlying hsu, Result.andThen_ok, Sem.run_bind, run_underlying hdu, Result.andThen_ok]
      cases su <;> rfl
    · cases h3
  · rename_i t l c deep sz bytes z y
    simp only [Bool.and_eq_true] at hchk
    obtain ⟨⟨h1, h2⟩, h3⟩ := hchk
    simp only [val] at hv
    cases hd : o.dst with
    | none => rw [hd] at hv; exact hv.elim
    | some s =>
      rw [hd] at hv
      simp only at hv
      obtain ⟨k0, n, e, hv⟩ := intK_ok hv
      cases hf : (newK sv.ob (dkey s 0) && allC Cell.plain z && Nat.beq z.length sz) with
      | false => simp only [hf] at hv; exact hv.elim
      | true =>
        simp only [hf] at hv
        simp only [Bool.and_eq_true] at hf
        obtain ⟨⟨hf, hpl⟩, hlen⟩ := hf
        have hlen := Nat.eq_of_beq_eq_true hlen
        obtain ⟨hb, q, hq, hK⟩ := hv
        have k1 := V.ev h1 (by simp [COp.args]); rw [e] at k1; have k1 := rep_int k1
        have k2 : a.eval c = .int k0 n := by
          unfold sameOp at h2
          split at h2
          · have := Nat.eq_of_beq_eq_true h2; subst this; exact k1
          · simp only [Bool.and_eq_true, decide_eq_true_eq] at h2; rw [← h2.1, ← h2.2] at *; exact k1
          · cases h2
        split at h3
        · rename_i el hel
          simp only [Bool.and_eq_true] at h3
          obtain ⟨⟨⟨⟨a1, a2⟩, a3⟩, a4⟩, a5⟩ := h3
          have a1 := eqopt a1
          have a2 := eqopt a2
          have a4 := Nat.le_of_ble_eq_true a4
          have a5 := Nat.le_of_ble_eq_true a5
          unfold zeroC at a3
          split at a3
          · rename_i ei hei
            split at a3
            · rename_i zv hzv
              obtain ⟨z1, z2⟩ := chkCs_rep a3
              have hbytes : ei.bytes = bytes := by unfold bytesT at a2; rw [hei] at a2; simpa using a2
              have hzsz : zv.cells.size = sz := by rw [← hlen, ← z1]; simp
              have hn1 : n ≤ 140737488355328 := by
                have : (1 : Int) * n ≤ bytes * n := Int.mul_le_mul_of_nonneg_right (by omega) hb.1
                omega
              have hw : IntKind.i64.wrap n = n := by unfold IntKind.wrap IntKind.bits IntKind.signed; simp; omega
              refine Owes.row h (r := zeroRow deep sz n.toNat z) (cap := n.toNat) (arr := (Array.range (n.toNat * sz)).map ((if n.toNat * sz = 0 then #[] else zv.cells)[· % (if n.toNat * sz = 0 then #[] else zv.cells).size]!)) (t := el) hK hf ?_ (by simp [zeroRow]) (by simp [zeroRow]) ?_ hq
              · simp only [execOp, hop]
                refine run_v ?_
                rw [k1, k2]
                have hti : ∀ w : World, (typeInfo el).run C.E.P w = .ok ei w := fun w => run_typeInfo hei
                simp only [Instr.makeSlice, Sem.run_bind, run_underlying hel, Result.andThen_ok, asInt, run_asIntOf, run_ok, hti, hbytes, hw]
                have c1 : ¬ ((decide (n < 0) || decide ((bytes : Int) * n > 2 ^ 48)) = true) := by
                  simp only [Bool.or_eq_true, decide_eq_true_eq, not_or]; omega
                have c2 : ((decide (n < 0) || decide ((bytes : Int) * n > 2 ^ 48)) || decide (n < 0) || decide (n > n)) = false := by
                  simp only [Bool.or_eq_false_iff, decide_eq_false_iff_not]; omega
                simp only [c2, Bool.false_eq_true, if_false]
                have hask : (askRoom (n.toNat * bytes)).run C.E.P w = .ok () w := by
                  unfold askRoom; split <;> rfl
                simp only [Sem.run_bind, hask, Result.andThen_ok, run_sizeOf a1, zeroRow]
                by_cases h0 : n.toNat * sz = 0
                · simp only [if_pos h0, Sem.run_bind, run_ok, Result.andThen_ok]; rfl
                · simp only [if_neg h0, Sem.run_bind, run_zero hei hzv, run_ok, Result.andThen_ok]; rfl
              · intro i j hi hj
                simp only [zeroRow] at hi hj ⊢
                have hlt : i * sz + j < n.toNat * sz := by
                  have : (i + 1) * sz ≤ n.toNat * sz := Nat.mul_le_mul_right _ hi
                  rw [Nat.add_mul, Nat.one_mul] at this; omega
                have h0 : ¬ n.toNat * sz = 0 := by omega
                have hjz : j < zv.cells.size := by omega
                refine ⟨zv.cells[j], ?_, z2 j _ (by simp [hjz]) C.w0 C.I⟩
                simp only [if_neg h0, Array.getElem?_map]
                rw [Array.getElem?_range, if_pos hlt]
                simp only [Option.map_some, hzsz]
                rw [show (i * sz + j) % sz = j by rw [Nat.mul_comm, Nat.mul_add_mod]; exact Nat.mod_eq_of_lt hj]
                simp [hjz]
            · cases a3
          · cases a3
        · cases h3
  · rename_i t x lo hi sz' y lo' hi'
    simp only [Bool.and_eq_true] at hchk
    obtain ⟨⟨⟨h1, h2⟩, h3⟩, h4⟩ := hchk
    simp only [val] at hv
    split at hv
    · rename_i sz n g e
      have k1 := V.ev h1 (by simp [COp.args]); rw [e] at k1
      have k1 : CRep C.w0 C.I (a.eval x) (.ro sz n g) := k1
      cases hb : Nat.beq sz' sz with
      | false => simp only [hb] at hv; exact hv.elim
      | true =>
        simp only [hb, cond_true] at hv
        have hb := Nat.eq_of_beq_eq_true hb
        subst hb
        split at h4
        · rename_i el hel
          have hes := eqopt h4
          have run : ∀ (b : Option Addr) (cap l h : Nat), (Instr.sliceBounds true n cap (lo.map a.eval) (hi.map a.eval) none).run C.E.P w = .ok (l, h, cap) w →
              (execOp a.eval o).run C.E.P w = .ok (.value (.slice (if cap = l then b else b.map (·.add (l * sz'))) (h - l) (cap - l))) w ∨ a.eval x ≠ .slice b n cap := by
            intro b cap l h hs
            by_cases hx : a.eval x = .slice b n cap
            · left
              simp only [execOp, hop]
              refine run_v ?_
              rw [hx]
              simp only [Instr.sliceAt, Sem.run_bind, run_underlying hel, Result.andThen_ok, Instr.slice, Option.map_none, hs, run_sizeOf hes]
              rfl
            · exact .inr hx
          have hm1 : ∀ y', lo' = some y' → y' ∈ (COp.slc sz' y lo' hi').args := by intro y' hy'; subst hy'; simp [COp.args, optA]
          have hm2 : ∀ y', hi' = some y' → y' ∈ (COp.slc sz' y lo' hi').args := by intro y' hy'; subst hy'; simp [COp.args, optA]
          generalize hxe : a.eval x = xv at k1
          cases k1 with
          | ro0 b c =>
            obtain ⟨l, hh, hK, c1, c2, c3⟩ := cut_ok V (P := C.E.P) (cap := c) true (Nat.zero_le _) h2 h3 hm1 hm2 hv
            refine Owes.pure h hK ((run _ _ _ _ c3).resolve_right (fun hne => hne hxe)) ?_
            have : hh - l = 0 := by omega
            rw [this]
            exact CRep.ro0 _ _ _ _
          | ro b o' c _ _ _ vals hn hpl hI hc hr =>
            obtain ⟨l, hh, hK, c1, c2, c3⟩ := cut_ok V (P := C.E.P) (cap := c) true hn h2 h3 hm1 hm2 hv
            refine Owes.pure h hK ((run _ _ _ _ c3).resolve_right (fun hne => hne hxe)) ?_
            by_cases h0 : hh - l = 0
            · rw [h0]; exact CRep.ro0 _ _ _ _
            · rw [if_neg (by omega)]
              have hadd : (some (⟨b, o', none⟩ : Addr)).map (·.add (l * sz')) = some ⟨b, o' + l * sz', none⟩ := by simp [addr_add]
              rw [hadd]
              refine CRep.ro b (o' + l * sz') (c - l) sz' (hh - l) _ (fun i j => vals (i + l) j) (by omega) (fun i j hi hj => hpl (i + l) j (by omega) hj) hI (fun i j hi hj => ?_) (fun i j hi hj => hr (i + l) j (by omega) hj)
              rw [show o' + l * sz' + (i * sz' + j) = o' + ((i + l) * sz' + j) by rw [Nat.add_mul]; omega]
              exact hc (i + l) j (by omega) hj
        · cases h4
    · exact hv.elim
  · simp only [val] at hv
  · rename_i t x lo hi y lo' hi'
    simp only [Bool.and_eq_true] at hchk
    obtain ⟨⟨⟨h1, h2⟩, h3⟩, h4⟩ := hchk
    simp only [val] at hv
    split at hv
    · rename_i s e
      have k1 := V.ev h1 (by simp [COp.args]); rw [e] at k1; have k1 := rep_str k1
      split at h4
      · rename_i hel
        have hm1 : ∀ y', lo' = some y' → y' ∈ (COp.slcS y lo' hi').args := by intro y' hy'; subst hy'; simp [COp.args, optA]
        have hm2 : ∀ y', hi' = some y' → y' ∈ (COp.slcS y lo' hi').args := by intro y' hy'; subst hy'; simp [COp.args, optA]
        obtain ⟨l, hh, hK, c1, c2, c3⟩ := cut_ok V (P := C.E.P) (cap := s.size) false (Nat.le_refl _) h2 h3 hm1 hm2 hv
        refine Owes.pure h hK ?_ mk_str
        simp only [execOp, hop]
        refine run_v ?_
        rw [k1]
        simp only [Instr.sliceAt, Sem.run_bind, run_underlying hel, Result.andThen_ok, Instr.slice, Option.map_none, Option.isSome_none, Bool.false_eq_true, if_false]
        rw [c3]
        rfl
      · cases h4
    · exact hv.elim
  · rename_i s x f off y
    simp only [Bool.and_eq_true] at hchk
    obtain ⟨h1, h2⟩ := hchk
    simp only [val] at hv
    obtain ⟨c, b, o', hK, e, ht⟩ := field_of h hv (V.ev h1 (by simp [COp.args]))
    split at h2
    · rename_i fs hfs
      split at h2
      · rename_i q hq
        simp only [Bool.and_eq_true] at h2
        obtain ⟨a1, a2⟩ := h2
        have a1 := Nat.eq_of_beq_eq_true a1
        split at a2
        · rename_i n hn
          have a2 := Nat.le_of_ble_eq_true a2
          refine Owes.pure h hK ?_ ht
          simp only [execOp, hop]
          refine run_v ?_
          rw [e]
          simp only [Instr.fieldAt, Sem.run_bind, run_underlying hfs, Result.andThen_ok, hq, Instr.sureAddr, run_ok, fieldPlace, run_sizeOf hn]
          rw [if_neg (by omega)]
          simp only [Sem.run_bind, run_ok, Result.andThen_ok, addr_add, a1]
        · cases a2
      · cases h2
    · cases h2
  · rename_i s x f off sz agg y
    simp only [Bool.and_eq_true] at hchk
    obtain ⟨h1, h2⟩ := hchk
    simp only [val] at hv
    split at hv
    · rename_i cs e
      have k1 := V.ev h1 (by simp [COp.args]); rw [e] at k1
      obtain ⟨arr, k1, k2, k3⟩ := k1
      cases hb : Nat.ble (off + sz) cs.length with
      | false => simp only [hb] at hv; exact hv.elim
      | true =>
        simp only [hb] at hv
        have hb := Nat.le_of_ble_eq_true hb
        split at h2
        · rename_i fs hfs
          split at h2
          · rename_i q hq
            simp only [Bool.and_eq_true, Bool.or_eq_true] at h2
            obtain ⟨⟨⟨a1, a2⟩, a3⟩, a4⟩ := h2
            have a1 := Nat.eq_of_beq_eq_true a1
            have a2 := eqopt a2
            have a3 := eqopt a3
            cases agg with
            | true =>
              refine Owes.pure h hv (v := .agg (arr.extract off (off + sz))) ?_ ⟨_, rfl, by simp [length_cellsFrom]; omega, fun j u hu => ?_⟩
              · simp only [execOp, hop]
                refine run_v ?_
                rw [k1]
                simp only [Instr.field, Sem.run_bind, run_underlying hfs, Result.andThen_ok, hq, asAgg, run_ok, part, run_isAgg a3, if_true, run_sizeOf a2, a1]
              · have hj : j < sz := by
                  have := (Array.getElem?_eq_some_iff.1 hu).1
                  simp at this; omega
                rw [nth_cellsFrom _ _ _ _ hj]
                refine k3 (off + j) u ?_
                rw [Array.getElem?_extract] at hu
                split at hu
                · exact hu
                · cases hu
            | false =>
              have a4 : sz = 1 := Nat.eq_of_beq_eq_true (a4.resolve_left (by simp))
              subst a4
              have hlt : off < arr.size := by omega
              refine Owes.pure h hv (v := arr[off]) ?_ (k3 off _ (by simp [hlt]))
              simp only [execOp, hop]
              refine run_v ?_
              rw [k1]
              simp only [Instr.field, Sem.run_bind, run_underlying hfs, Result.andThen_ok, hq, asAgg, run_ok, part, run_isAgg a3, Bool.false_eq_true, if_false, a1]
              rw [show arr[off]? = some arr[off] by simp [hlt]]
              rfl
          · cases h2
        · cases h2
    · exact hv.elim
  · rename_i t x i sz y j
    simp only [Bool.and_eq_true] at hchk
    obtain ⟨⟨h1, h2⟩, h3⟩ := hchk
    simp only [val] at hv
    obtain ⟨ki, n, e, hv⟩ := intK_ok hv
    have k1 := V.ev h2 (by simp [COp.args]); rw [e] at k1; have k1 := rep_int k1
    split at h3
    · rename_i el hel
      obtain ⟨c, u, hK, hr, ht⟩ := addr_ok (P := C.E.P) h V (ki := ki) hv (V.ev h1 (by simp [COp.args])) hel (eqopt h3)
      exact Owes.pure h hK (by simp only [execOp, hop]; refine run_v ?_; rw [k1]; exact hr) ht
    · cases h3
  · rename_i t x i len sz y j
    simp only [Bool.and_eq_true] at hchk
    obtain ⟨⟨h1, h2⟩, h3⟩ := hchk
    simp only [val] at hv
    obtain ⟨ki, n, e, hv⟩ := intK_ok hv
    have k1 := V.ev h2 (by simp [COp.args]); rw [e] at k1; have k1 := rep_int k1
    obtain ⟨c, b, o', hK, hb, e2, ht⟩ := ptr_of h hv (V.ev h1 (by simp [COp.args]))
    split at h3
    · rename_i n' el hel
      simp only [Bool.and_eq_true] at h3
      have a1 := Nat.eq_of_beq_eq_true h3.1
      have a2 := eqopt h3.2
      refine Owes.pure h hK ?_ ht
      simp only [execOp, hop]
      refine run_v ?_
      rw [k1, e2]
      simp only [Instr.indexAt, Sem.run_bind, run_asIntOf, Result.andThen_ok, run_underlying hel, Instr.sureAddr, run_ok]
      rw [if_pos (by rw [a1]; exact hb)]
      simp only [Sem.run_bind, run_sizeOf a2, Result.andThen_ok, addr_add, run_ok]
    · cases h3
  · rename_i t x i y j
    simp only [Bool.and_eq_true] at hchk
    obtain ⟨⟨h1, h2⟩, h3⟩ := hchk
    simp only [val] at hv
    split at hv
    · rename_i s e
      obtain ⟨ki, n, e2, hb, hK⟩ := intK_ok hv
      have k1 := V.ev h1 (by simp [COp.args]); rw [e] at k1; have k1 := rep_str k1
      have k2 := V.ev h2 (by simp [COp.args]); rw [e2] at k2; have k2 := rep_int k2
      split at h3
      · rename_i hel
        refine Owes.pure h hK ?_ mk_int
        simp only [execOp, hop]
        refine run_v ?_
        rw [k1, k2]
        simp only [Instr.index, Sem.run_bind, run_asIntOf, Result.andThen_ok, run_underlying hel]
        have hlt : n.toNat < s.size := by omega
        rw [if_pos hb.1]
        have : s[n.toNat]? = some s[n.toNat] := by simp [hlt]
        rw [this]
        have hd : s.data[n.toNat]? = some s[n.toNat] := by
          have : n.toNat < s.data.size := hlt
          rw [Array.getElem?_eq_getElem this]; rfl
        unfold bt
        rw [hd]
        rfl
      · cases h3
    · exact hv.elim
  · rename_i x j j' y
    simp only [Bool.and_eq_true] at hchk
    obtain ⟨h1, h2⟩ := hchk
    have h2 := Nat.eq_of_beq_eq_true h2
    subst h2
    simp only [val] at hv
    split at hv
    · rename_i ts e
      have k1 := V.ev h1 (by simp [COp.args]); rw [e] at k1
      obtain ⟨arr, k1, k2, k3⟩ := k1
      split at hv
      · rename_i z hz
        have hj : j < ts.length ∧ nthV ts j = z := by
          have : ∀ (l : List Ab.V) (j : Nat), lkV l j = some z → j < l.length ∧ nthV l j = z := by
            intro l
            induction l with
            | nil => intro j hj; cases hj
            | cons c l ih =>
              intro j hj
              cases j with
              | zero => simp only [lkV, Option.some.injEq] at hj; subst hj; exact ⟨by simp, rfl⟩
              | succ j => obtain ⟨a1, a2⟩ := ih j hj; exact ⟨by simpa using a1, a2⟩
          exact this _ _ hz
        have hlt : j < arr.size := by omega
        refine Owes.pure h hv (v := arr[j]) ?_ (by have := k3 j arr[j] (by simp [hlt]); rw [hj.2] at this; exact this)
        simp only [execOp, hop]
        refine run_v ?_
        rw [k1]
        simp only [Instr.extract]
        rw [show arr[j]? = some arr[j] by simp [hlt]]
        rfl
      · exact hv.elim
    · exact hv.elim
  · rename_i c y
    simp only [Bool.and_eq_true] at hchk
    obtain ⟨⟨h1, h2⟩, h3⟩ := hchk
    simp only [val] at hv
    split at h1
    · rename_i hcal
      split at h2
      · rename_i x hx
        split at h3
        · rename_i t ht
          split at h3
          · rename_i el hel
            have k1 := V.ev h2 (by simp [COp.args])
            have hargs : c.args = #[x] := by apply Array.ext'; simpa using hx
            have htys : c.argTypes = #[t] := by apply Array.ext'; simpa using ht
            have run : ∀ (b : Option Addr) (n cap : Nat), a.eval x = .slice b n cap → (execOp a.eval o).run C.E.P w = .ok (.value (.int .i64 n)) w := by
              intro b n cap e
              simp only [execOp, hop]
              have : (do let d ← resolve a.eval c o.type; invoke d.target d.args : Sem Next).run C.E.P w = (do Pure.pure (Next.value (← Builtin.len_ c.argTypes o.type (c.args.map a.eval))) : Sem Next).run C.E.P w := run_builtin hcal (fun _ => rfl)
              rw [this]
              refine run_v ?_
              simp only [hargs, htys, Builtin.len_]
              have e2 : (#[x].map a.eval)[0]? = some (a.eval x) := by simp
              have e3 : (#[t] : Array TypeId)[0]? = some t := rfl
              rw [e2, e3]
              simp only [Sem.run_bind, run_underlying hel, Result.andThen_ok, e]
              rfl
            split at hv
            · rename_i sz n g e
              rw [e] at k1
              have k1 : CRep C.w0 C.I (a.eval x) (.ro sz n g) := k1
              generalize hxe : a.eval x = xv at k1
              cases k1 with
              | ro0 => exact Owes.pure h hv (run _ _ _ hxe) mk_int
              | ro => exact Owes.pure h hv (run _ _ _ hxe) mk_int
            · rename_i k n e
              rw [e] at k1
              obtain ⟨r, _, _, k3⟩ := k1
              unfold Hd.val at k3
              split at k3 <;> exact Owes.pure h hv (run _ _ _ k3) mk_int
            · rename_i k i j n e
              rw [e] at k1
              obtain ⟨r, _, _, _, _, _, _, k3⟩ := k1
              unfold Hd.val at k3
              split at k3 <;> exact Owes.pure h hv (run _ _ _ k3) mk_int
            · exact hv.elim
          · cases h3
        · cases h3
      · cases h2
    · cases h1
  · rename_i c y
    simp only [Bool.and_eq_true] at hchk
    obtain ⟨⟨h1, h2⟩, h3⟩ := hchk
    simp only [val] at hv
    split at h1
    · rename_i hcal
      split at h2
      · rename_i x hx
        split at h3
        · rename_i t ht
          split at h3
          · rename_i hel
            have k1 := V.ev h2 (by simp [COp.args])
            have hargs : c.args = #[x] := by apply Array.ext'; simpa using hx
            have htys : c.argTypes = #[t] := by apply Array.ext'; simpa using ht
            split at hv
            · rename_i s e
              rw [e] at k1; have k1 := rep_str k1
              refine Owes.pure h hv ?_ mk_int
              simp only [execOp, hop]
              have : (do let d ← resolve a.eval c o.type; invoke d.target d.args : Sem Next).run C.E.P w = (do Pure.pure (Next.value (← Builtin.len_ c.argTypes o.type (c.args.map a.eval))) : Sem Next).run C.E.P w := run_builtin hcal (fun _ => rfl)
              rw [this]
              refine run_v ?_
              simp only [hargs, htys, Builtin.len_]
              have e2 : (#[x].map a.eval)[0]? = some (a.eval x) := by simp
              have e3 : (#[t] : Array TypeId)[0]? = some t := rfl
              rw [e2, e3]
              simp only [Sem.run_bind, run_underlying hel, Result.andThen_ok, k1]
              rfl
            · exact hv.elim
          · cases h3
        · cases h3
      · cases h2
    · cases h1
  · rename_i c sz bytes x' y'
    simp only [Bool.and_eq_true] at hchk
    obtain ⟨⟨hc1, hc2⟩, hc3⟩ := hchk
    split at hc1
    case h_2 => cases hc1
    rename_i hcal
    split at hc2
    case h_2 => cases hc2
    rename_i x y hxy
    simp only [Bool.and_eq_true] at hc2
    have hargs : c.args = #[x, y] := by apply Array.ext'; simpa using hxy
    split at hc3
    case h_2 => cases hc3
    rename_i t u htu
    have hty : c.argTypes = #[t, u] := by apply Array.ext'; simpa using htu
    simp only [Bool.and_eq_true] at hc3
    obtain ⟨hc3, htu'⟩ := hc3
    have htu' := Nat.eq_of_beq_eq_true htu'
    subst htu'
    split at hc3
    case h_2 => cases hc3
    rename_i e hte
    simp only [Bool.and_eq_true] at hc3
    obtain ⟨⟨⟨hs1, hs2⟩, hs3⟩, hs4⟩ := hc3
    have hs1 := eqopt hs1
    have hs2 := eqopt hs2
    have hs4 := Nat.le_of_ble_eq_true hs4
    split at hs3
    case h_2 => cases hs3
    rename_i i hi
    split at hs3
    case h_2 => cases hs3
    rename_i z hz
    have hs3 := Nat.eq_of_beq_eq_true hs3
    have hsz : i.size = sz := by simpa [sizeT, hi] using hs1
    have hby : i.bytes = bytes := by simpa [bytesT, hi] using hs2
    simp only [val] at hv
    cases hd : o.dst with
    | none => rw [hd] at hv; exact hv.elim
    | some s =>
      rw [hd] at hv
      simp only at hv
      split at hv
      case h_2 => exact hv.elim
      rename_i hx
      split at hv
      case h_2 => exact hv.elim
      rename_i sz' n g hy
      cases hb : Nat.beq sz sz' && Nat.blt bytes 65536 with
      | false => rw [hb] at hv; exact hv.elim
      | true =>
      rw [hb] at hv
      simp only [Bool.and_eq_true] at hb
      simp only [cond_true] at hv
      obtain ⟨hb1, hb2⟩ := hb
      have hb1 := Nat.eq_of_beq_eq_true hb1
      have hbl : bytes < 65536 := Nat.le_of_ble_eq_true hb2
      have hvx := V.ev hc2.1 (by simp [COp.args])
      rw [hx] at hvx
      have hvx : CRep C.w0 C.I (a.eval x) .emp := hvx
      have hvy := V.ev hc2.2 (by simp [COp.args])
      rw [hy] at hvy
      have hvy : CRep C.w0 C.I (a.eval y) (.ro sz' n g) := hvy
      subst hb1
      obtain ⟨b0, ex⟩ : ∃ b, a.eval x = .slice b 0 0 := by
        generalize a.eval x = v at hvx
        cases hvx; exact ⟨_, rfl⟩
      have hrun2 : ∀ v w', (Builtin.append_ #[t, t] o.type #[.slice b0 0 0, a.eval y]).run C.E.P w = .ok v w' → (execOp a.eval o).run C.E.P w = .ok (.value v) w' := by
        intro v w' hrun
        simp only [execOp, hop]
        have : (do let d ← resolve a.eval c o.type; invoke d.target d.args : Sem Next).run C.E.P w = (do Pure.pure (Next.value (← Builtin.append_ c.argTypes o.type (c.args.map a.eval))) : Sem Next).run C.E.P w := run_builtin hcal (fun _ => rfl)
        rw [this]
        refine run_v ?_
        have e3 : (#[x, y].map a.eval) = #[a.eval x, a.eval y] := by simp
        rw [hargs, hty, e3, ex]
        exact hrun
      by_cases hn0 : n = 0
      · subst hn0
        obtain ⟨b', c', ey⟩ : ∃ b' c', a.eval y = .slice b' 0 c' := by
          generalize a.eval y = v at hvy
          cases hvy
          · exact ⟨_, _, rfl⟩
          · exact ⟨_, _, rfl⟩
        refine Owes.pure h (hv.1 rfl) (hrun2 _ _ ?_) (CRep.ro0 b0 0 sz _)
        rw [ey]
        exact run_append_none t o.type e i hte hi _ _ _ _ _ (Nat.le_refl _)
      · have hv2 := hv.2 hn0
        cases hf : newK sv.ob (dkey s 0) with
        | false => rw [hf] at hv2; exact hv2.elim
        | true =>
        rw [hf] at hv2
        obtain ⟨hlt, q, hq, hK⟩ := hv2
        generalize hye : a.eval y = vy at hvy hrun2
        cases hvy with
        | ro0 => exact absurd rfl hn0
        | ro b o' cp _ _ _ vals hn hpl hI hc hr =>
        obtain ⟨w', d', hrun, hrow, hbase, hheap, hos, hta, hou, hwsz⟩ := run_app (P := C.E.P) (ty := o.type) (c := cp) (n := 0) (m := n) (d := ⟨none, 0, b0, 0⟩) (b' := some ⟨b, o', none⟩) (cr := fun _ _ _ => False) (cy := fun i j u => CRep C.w0 C.I u (g i j) ∧ (g i j).plain = true)
          hte hi hz hsz hby (by rw [hs3]) hs4 ⟨Nat.le_refl _, fun _ => rfl, fun b hb => (by cases hb)⟩
          (fun _ => ⟨b, o', rfl, fun i j hi hj => ⟨vals i j, by rw [h.cellI hI]; exact hc i j hi hj, hr i j hi hj, hpl i j hi hj⟩⟩)
          (fun i j u hc => by
            obtain ⟨k1, k2⟩ := hc
            cases hg : g i j <;> rw [hg] at k1 k2 <;> first | (cases k1 <;> rfl) | cases k2) (by omega) hbl
        have hrun3 := hrun2 _ _ hrun
        simp only [newK, Bool.and_eq_true, Bool.not_eq_true'] at hf
        refine ⟨_, [(dkey s 0, q)], [], hK, fun k' r' h' => ?_, fun _ _ h => (by cases h), fun hb _ => ?_⟩
        · rw [lk_cons] at h'
          split at h'
          · rename_i e; subst e; exact freshK_none hf.1
          · cases h'
        · intro next QQ hnx
          unfold Oper.wp
          rw [hrun3]
          have hR := h.grow (w' := w') ⟨hos, hta, hou, hwsz, fun b hb => hheap b hb (by intro e; cases e)⟩
          have hb9 : ∀ b, d'.base = some b → w.heap.size ≤ b := fun b hb => (hbase b hb).resolve_left (by intro e; cases e)
          obtain ⟨h1, h2, h3⟩ := hR.newR (r := q) (d := d') (hb (dkey s 0) q (by simp [lk_cons])) hf.2
            (by
              rw [← hq.n, ← hq.sz]
              have hrow' := hrow
              rw [Nat.zero_add] at hrow'
              refine hrow'.imp (fun _ _ => rfl) (fun i j v hi hj hc => ?_)
              rcases hc with ⟨hc, _⟩ | ⟨_, hc⟩
              · omega
              · rw [Nat.sub_zero] at hc
                rw [← hq.get i j hi hj]
                exact hc)
            (fun p b hb hp => h.ob.notNew hp (hb9 b hb)) (fun b hb => Nat.le_trans h.keep.size (hb9 b hb))
          have e5 : d'.val (0 + n) = d'.val q.n := by rw [Nat.zero_add, ← hq.n]
          rw [e5]
          exact hnx _ _ _ h1 h3
  · rename_i c x' y'
    simp only [Bool.and_eq_true] at hchk
    obtain ⟨h1, h2⟩ := hchk
    simp only [val] at hv
    split at h1
    · rename_i hcal
      split at h2
      · rename_i x y hxy
        simp only [Bool.and_eq_true] at h2
        have hargs : c.args = #[x, y] := by apply Array.ext'; simpa using hxy
        split at hv
        · rename_i k n k' m e1 e2
          have hkk : k = k' := by cases k <;> cases k' <;> first | rfl | exact hv.elim
          subst hkk
          have hv : K (one (.int k (if m > n then m else n))) [] [] := by cases k <;> exact hv
          have k1 := V.ev h2.1 (by simp [COp.args]); rw [e1] at k1; have k1 := rep_int k1
          have k2 := V.ev h2.2 (by simp [COp.args]); rw [e2] at k2; have k2 := rep_int k2
          refine Owes.pure h hv ?_ mk_int
          simp only [execOp, hop]
          have : (do let d ← resolve a.eval c o.type; invoke d.target d.args : Sem Next).run C.E.P w = (do Pure.pure (Next.value (← Builtin.max_ c.argTypes o.type (c.args.map a.eval))) : Sem Next).run C.E.P w := run_builtin hcal (fun _ => rfl)
          rw [this]
          refine run_v ?_
          have e3 : (#[x, y].map a.eval).toList = [a.eval x, a.eval y] := by simp
          simp only [hargs, Builtin.max_, e3, k1, k2]
          rfl
        · exact hv.elim
      · cases h2
    · cases h1
  · rename_i c x' y'
    simp only [Bool.and_eq_true] at hchk
    obtain ⟨h1, h2⟩ := hchk
    simp only [val] at hv
    split at h1
    · rename_i hcal
      split at h2
      · rename_i x y hxy
        simp only [Bool.and_eq_true] at h2
        have hargs : c.args = #[x, y] := by apply Array.ext'; simpa using hxy
        split at hv
        · rename_i k n k' m e1 e2
          have hkk : k = k' := by cases k <;> cases k' <;> first | rfl | exact hv.elim
          subst hkk
          have hv : K (one (.int k (if m < n then m else n))) [] [] := by cases k <;> exact hv
          have k1 := V.ev h2.1 (by simp [COp.args]); rw [e1] at k1; have k1 := rep_int k1
          have k2 := V.ev h2.2 (by simp [COp.args]); rw [e2] at k2; have k2 := rep_int k2
          refine Owes.pure h hv ?_ mk_int
          simp only [execOp, hop]
          have : (do let d ← resolve a.eval c o.type; invoke d.target d.args : Sem Next).run C.E.P w = (do Pure.pure (Next.value (← Builtin.min_ c.argTypes o.type (c.args.map a.eval))) : Sem Next).run C.E.P w := run_builtin hcal (fun _ => rfl)
          rw [this]
          refine run_v ?_
          have e3 : (#[x, y].map a.eval).toList = [a.eval x, a.eval y] := by simp
          simp only [hargs, Builtin.min_, e3, k1, k2]
          rfl
        · exact hv.elim
      · cases h2
    · cases h1
  · rename_i c ref f ys
    simp only [Bool.and_eq_true] at hchk
    obtain ⟨h1, h2⟩ := hchk
    split at h1
    · rename_i g hcal
      have h1 := Nat.eq_of_beq_eq_true h1
      subst h1
      cases ref with
      | true => simp only [val] at hv
      | false =>
        simp only [val] at hv
        split at hv
        · rename_i as has
          obtain ⟨s1, s2⟩ := snapVs_nth has
          rw [length_evs] at s1
          have hlen := chkAs_len h2
          obtain ⟨t, ob', hK, f1, f2⟩ := callQ_ok (sv := sv) h (o := o) (vs := c.args.map a.eval) (K := fun r ob => K r ob []) (hot := anyT Cell.hot (evs C.E sv ys))
            (fun hb => by simp only [execOp, hop]; have := run_call (w := w) (a := a) (ty := o.type) (caps := #[]) hcal rfl hb; simpa using this)
            (by simp; simpa [s1] using hlen) (fun j v hj => by
              have hj' : j < c.args.size := by have := (Array.getElem?_eq_some_iff.1 hj).1; simpa using this
              have hjl : j < ys.length := by have : c.args.toList.length = c.args.size := by simp
                                             omega
              have hx : c.args.toList[j]? = some c.args[j] := by simp [hj']
              have hvv : v = a.eval c.args[j] := by simp [hj'] at hj; exact hj.symm
              rw [hvv]
              refine snapV_ok h V.bx V.ob (V.evs h2 (fun y hy => by simpa [COp.args] using hy) j _ hx) (s2 j (by rw [length_evs]; exact hjl)) (fun e => anyT_nth e (by rw [length_evs]; exact hjl))) hv
          exact ⟨t, ob', [], hK, f1, fun _ _ h => (by cases h), fun a1 _ => f2 a1⟩
        · exact hv.elim
    · cases h1
  · rename_i c y ys
    simp only [Bool.and_eq_true] at hchk
    obtain ⟨h1, h2⟩ := hchk
    split at h1
    · rename_i x hcal
      simp only [val] at hv
      have k1 := V.ev h1 (by simp [COp.args])
      split at hv
      · rename_i f m sz get e
        split at hv
        · rename_i as has
          have k1 := snapV_ok h V.bx V.ob (hot := anyT Cell.hot (Ab.ev C.E sv y :: evs C.E sv ys)) k1 e (fun e => by simp only [anyT, Bool.or_eq_false_iff] at e; exact e.1)
          have k1 : CRep w (if anyT Cell.hot (Ab.ev C.E sv y :: evs C.E sv ys) then fun b => b < w.heap.size else C.I) (a.eval x) (.fnp f m sz get) := k1
          obtain ⟨s1, s2⟩ := snapVs_nth has
          rw [length_evs] at s1
          have hlen := chkAs_len h2
          generalize hxe : a.eval x = xv at k1
          cases k1 with
          | fnp f m sz get caps bs vals hs hI hp hc hr =>
            have hal : c.args.toList.length = c.args.size := by simp
            obtain ⟨t, ob', hK, f1, f2⟩ := callQ_ok (sv := sv) h (o := o) (vs := c.args.map a.eval ++ caps) (K := fun r ob => K r ob []) (hot := anyT Cell.hot (Ab.ev C.E sv y :: evs C.E sv ys))
              (fun hb => by simp only [execOp, hop]; exact run_call (w := w) (a := a) (ty := o.type) hcal hxe hb)
              (by simp [s1, hs]; omega) (fun j v hj => by
                rw [nthV_append]
                by_cases hj' : j < c.args.size
                · have hjl : j < ys.length := by omega
                  rw [if_pos (show j < as.length by omega)]
                  have hx : c.args.toList[j]? = some c.args[j] := by simp [hj']
                  have hvv : v = a.eval c.args[j] := by
                    rw [Array.getElem?_append, if_pos (by simpa using hj')] at hj
                    simp [hj'] at hj; exact hj.symm
                  rw [hvv]
                  exact snapV_ok h V.bx V.ob (V.evs h2 (fun y hy => by simp [COp.args, hy]) j _ hx) (s2 j (by rw [length_evs]; exact hjl)) (fun e => anyT_nth (by simp only [anyT, Bool.or_eq_false_iff] at e; exact e.2) (by rw [length_evs]; exact hjl))
                · rw [if_neg (show ¬ j < as.length by omega)]
                  rw [Array.getElem?_append, if_neg (by simpa using hj')] at hj
                  have hjm : j - c.args.size < m := by have := (Array.getElem?_eq_some_iff.1 hj).1; simp at this; omega
                  have e2 : j - as.length = j - c.args.size := by omega
                  rw [e2, nthV_map _ _ _ hjm]
                  have : some v = some (Value.pointer (some ⟨bs (j - c.args.size), 0, none⟩)) := by
                    rw [← hp _ hjm, ← hj]; simp
                  cases this
                  have hcap : CRep w (if anyT Cell.hot (Ab.ev C.E sv y :: evs C.E sv ys) then fun b => b < w.heap.size else C.I) (Value.pointer (some ⟨bs (j - c.args.size), 0, none⟩)) (.pro (sz (j - c.args.size)) (get (j - c.args.size))) :=
                    .pro _ 0 _ _ (fun j' => vals (j - c.args.size) j') (hI _ hjm) (fun j' hj' => by rw [Nat.zero_add]; exact hc _ j' hjm hj') (fun j' hj' => hr _ j' hjm hj')
                  exact SRep.of_crep (G := G) (bx := []) (ob := []) hcap) hv
            exact ⟨t, ob', [], hK, f1, fun _ _ h => (by cases h), fun a1 _ => f2 a1⟩
        · exact hv.elim
      · exact hv.elim
    · cases h1
  · rename_i f first caps g ys
    simp only [Bool.and_eq_true] at hchk
    obtain ⟨⟨h1, h2⟩, h3⟩ := hchk
    have h1 := Nat.eq_of_beq_eq_true h1
    subst h1
    simp only [val] at hv
    split at hv
    · rename_i bs hbs
      have hfirst : first = #[] := by simpa [Array.isEmpty_iff] using h2
      have hb : ∀ (ts : List T) (bs : List Nat), boxesOf ts = some bs → bs.length = ts.length ∧ ∀ (j s : Nat), bs[j]? = some s → nthT ts j = one (.box s 0) := by
        intro ts
        induction ts with
        | nil => intro bs hb; cases hb; exact ⟨rfl, fun j s hj => by simp at hj⟩
        | cons t ts ih =>
          intro bs hb
          unfold boxesOf at hb
          split at hb
          · cases hb; rename_i heq; cases heq
          · rename_i s l heq
            cases heq
            split at hb
            · rename_i l' hl'
              cases hb
              obtain ⟨a1, a2⟩ := ih _ hl'
              refine ⟨by simp [a1], fun j s' hj => ?_⟩
              cases j with
              | zero => simp at hj; subst hj; rfl
              | succ j => exact a2 j s' (by simpa using hj)
            · cases hb
          · cases hb
      obtain ⟨b1, b2⟩ := hb _ _ hbs
      rw [length_evs] at b1
      have hlen := chkAs_len h3
      refine Owes.pure h hv (v := .func (.func f) #[] (caps.map a.eval)) ?_ ⟨caps.map a.eval, rfl, ?_, fun j s hj => ?_⟩
      · simp only [execOp, hop, hfirst]; simp; rfl
      · have : caps.toList.length = caps.size := by simp
        simp; omega
      · have hjl : j < bs.length := (List.getElem?_eq_some_iff.1 hj).1
        have hcs : caps.toList.length = caps.size := by simp
        have hj' : j < caps.size := by omega
        have hx : caps.toList[j]? = some caps[j] := by simp [hj']
        have k1 := V.evs h3 (fun y hy => by simpa [COp.args] using hy) j _ hx
        rw [b2 j s hj] at k1
        obtain ⟨cs, k2, k3⟩ := k1
        exact ⟨⟨cs, k2⟩, by simp [hj', k3]⟩
    · exact hv.elim
  · rename_i c x y c' x' y'
    simp only [Bool.and_eq_true] at hchk
    obtain ⟨⟨h1, h2⟩, h3⟩ := hchk
    simp only [val] at hv
    split at hv
    · rename_i b e
      have k1 := V.ev h1 (by simp [COp.args]); rw [e] at k1; have k1 := rep_bool k1
      cases b with
      | true =>
        refine Owes.pure h (hv.1 rfl) ?_ (V.ev h2 (by simp [COp.args]))
        simp only [execOp, hop, k1]; rfl
      | false =>
        refine Owes.pure h (hv.2 rfl) ?_ (V.ev h3 (by simp [COp.args]))
        simp only [execOp, hop, k1]; rfl
    · exact hv.elim
  · rename_i s d x y
    simp only [Bool.and_eq_true] at hchk
    obtain ⟨⟨h1, h2⟩, h3⟩ := hchk
    simp only [val] at hv
    split at h2
    case h_2 => cases h2
    rename_i hd
    split at h3
    case h_2 => cases h3
    rename_i e hs
    split at h3
    case h_2 => cases h3
    rename_i he
    obtain ⟨l, a', cap, hK, e1, e2⟩ := bts_ok h V hv (V.ev h1 (by simp [COp.args]))
    refine Owes.pure h hK ?_ mk_str
    simp only [execOp, hop]
    refine run_v ?_
    rw [e1]
    exact run_convert_bytes_back w s d e a' cap l hs he hd e2
  · rename_i x y
    simp only [val] at hv
    have k1 := V.ev hchk (by simp [COp.args])
    unfold ncK at hv
    split at hv
    · rename_i s o' e
      rw [e] at k1
      obtain ⟨cs, c1, c2⟩ := k1
      refine Owes.pure h hv (v := a.eval x) ?_ ⟨cs, c1, c2⟩
      simp only [execOp, hop, c2]; rfl
    · rename_i k i o' e
      rw [e] at k1
      obtain ⟨r, b, c1, c2, c3, c4⟩ := k1
      refine Owes.pure h hv (v := a.eval x) ?_ ⟨r, b, c1, c2, c3, c4⟩
      simp only [execOp, hop, c4]; rfl
    · rename_i k i j i2 o' e
      rw [e] at k1
      obtain ⟨r, sz, n, g, b, c1, c2, c3, c4, c5, c6, c7⟩ := k1
      refine Owes.pure h hv (v := a.eval x) ?_ ⟨r, sz, n, g, b, c1, c2, c3, c4, c5, c6, c7⟩
      simp only [execOp, hop, c7]; rfl
    · exact hv.elim
  · simp only [val] at hv
  · rename_i tx x kk yt y
    simp only [val] at hv
    obtain ⟨k, n, e, hK⟩ := intK_ok hv
    have k1 := V.ev hchk (by simp [COp.args]); rw [e] at k1; have k1 := rep_int k1
    refine Owes.pure h hK ?_ mk_int
    simp only [execOp, hop]
    refine run_v ?_
    have k2 : a.eval (.const (.int kk 1)) = .int kk 1 := rfl
    rw [k1, k2]
    simp only [eqGuard, Go.binOp, Sem.run_bind]
    rw [shift_shr _ _ _ _ (by omega) (by cases k <;> decide)]
    rfl
  · exact (hv : False).elim
  · exact (hv : False).elim
  · cases hchk
end
end Go.Proofs.YtjnpnpkjmlihdaaDoor.Ab
