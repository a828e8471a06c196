/- An abstract machine over the model, proved sound once: by-value states, weakest preconditions, contracts of functions (part 3).
   Conditions: none. -/
import Derived.Test.YtjnpnpkjmlihdaaDoorAb2
import Derived.SizedLaws
import Derived.OpenShut
import Derived.ChangeVars
import Derived.Carry
import Derived.MakeChecks
import Derived.LaidMore
import Derived.Lib.ItoaNum
import Derived.Lib.LaidTab
set_option linter.unusedVariables false
set_option linter.unusedSimpArgs false
namespace Go.Proofs.YtjnpnpkjmlihdaaDoor.Ab
open Go Go.RowKit

def nfC (c : Cell) (K : Cell → Prop) : Prop := match c with
  | .u => K .u
  | .sk => K .sk
  | .int k n => K (.int k n)
  | .bool b => K (.bool b)
  | .str s => K (.str s)
  | .ro sz n g => K (.ro sz n g)
  | .fr sz n g => K (.fr sz n g)
  | .own k n => K (.own k n)
  | .own1 k i j n => K (.own1 k i j n)
  | .box s o => K (.box s o)
  | .elt k i o => K (.elt k i o)
  | .elt1 k i j i2 o => K (.elt1 k i j i2 o)
  | .pro m g => K (.pro m g)
  | .fn f bs => K (.fn f bs)
  | .fnp f m sz g => K (.fnp f m sz g)
  | .emp => K .emp
  | .pv φ => K (.pv φ)
  | .pb k n => K (.pb k n)
  | .fnx f k n i m sz get => K (.fnx f k n i m sz get)
def nfCs : List Cell → (List Cell → Prop) → Prop
  | [], K => K []
  | c :: l, K => nfC c fun c' => nfCs l fun l' => K (c' :: l')
def nfV (x : V) (K : V → Prop) : Prop := match x with
  | .one c => nfC c fun c' => K (.one c')
  | .agg cs => nfCs cs fun cs' => K (.agg cs')
def nfVs : List V → (List V → Prop) → Prop
  | [], K => K []
  | c :: l, K => nfV c fun c' => nfVs l fun l' => K (c' :: l')
def nfT (x : T) (K : T → Prop) : Prop := match x with
  | .v x => nfV x fun x' => K (.v x')
  | .tup xs => nfVs xs fun xs' => K (.tup xs')
def nfTs : List T → (List T → Prop) → Prop
  | [], K => K []
  | c :: l, K => nfT c fun c' => nfTs l fun l' => K (c' :: l')
def nfB : Bx → (Bx → Prop) → Prop
  | [], K => K []
  | (s, cs) :: l, K => nfCs cs fun cs' => nfB l fun l' => K ((s, cs') :: l')
def nfO : Ob → (Ob → Prop) → Prop
  | [], K => K []
  | (s, r) :: l, K => nfO l fun l' => K ((s, r) :: l')
def nfS (st : St) (K : St → Prop) : Prop := match st with
  | ⟨tm, bx, ob⟩ => nfTs tm fun tm' => nfB bx fun bx' => nfO ob fun ob' => K ⟨tm', bx', ob'⟩
def setK : List T → Nat → T → (List T → Prop) → Prop
  | [], _, _, K => K []
  | _ :: l, 0, x, K => K (x :: l)
  | t :: l, n + 1, x, K => setK l n x fun l' => K (t :: l')
def appB : Bx → Bx → (Bx → Prop) → Prop
  | [], m, K => K m
  | p :: l, m, K => appB l m fun l' => K (p :: l')
def appO : Ob → Ob → (Ob → Prop) → Prop
  | [], m, K => K m
  | p :: l, m, K => appO l m fun l' => K (p :: l')
def putK (st : St) (d : Option Nat) (t : T) (ob : Ob) (bx : Bx) (K : St → Prop) : Prop := match st with
  | ⟨tm, b, o⟩ => nfT t fun t' => appB bx b fun b' => appO ob o fun o' => match d with
    | some s => setK tm s t' fun tm' => nfB b' fun b'' => K ⟨tm', b'', o'⟩
    | none => nfB b' fun b'' => K ⟨tm, b'', o'⟩

theorem nfC_eq (c : Cell) (K : Cell → Prop) : nfC c K = K c := by cases c <;> rfl
theorem nfCs_eq (l : List Cell) (K : List Cell → Prop) : nfCs l K = K l := by
  induction l generalizing K with
  | nil => rfl
  | cons c l ih => simp only [nfCs, nfC_eq, ih]
theorem nfV_eq (x : V) (K : V → Prop) : nfV x K = K x := by cases x <;> simp only [nfV, nfC_eq, nfCs_eq]
theorem nfVs_eq (l : List V) (K : List V → Prop) : nfVs l K = K l := by
  induction l generalizing K with
  | nil => rfl
  | cons c l ih => simp only [nfVs, nfV_eq, ih]
theorem nfT_eq (x : T) (K : T → Prop) : nfT x K = K x := by cases x <;> simp only [nfT, nfV_eq, nfVs_eq]
theorem nfTs_eq (l : List T) (K : List T → Prop) : nfTs l K = K l := by
  induction l generalizing K with
  | nil => rfl
  | cons c l ih => simp only [nfTs, nfT_eq, ih]
theorem nfB_eq (l : Bx) (K : Bx → Prop) : nfB l K = K l := by
  induction l generalizing K with
  | nil => rfl
  | cons c l ih => obtain ⟨s, cs⟩ := c; simp only [nfB, nfCs_eq, ih]
theorem nfO_eq (l : Ob) (K : Ob → Prop) : nfO l K = K l := by
  induction l generalizing K with
  | nil => rfl
  | cons c l ih => obtain ⟨s, cs⟩ := c; simp only [nfO, ih]
theorem nfS_eq (st : St) (K : St → Prop) : nfS st K = K st := by
  obtain ⟨tm, bx, ob⟩ := st
  simp only [nfS, nfTs_eq, nfB_eq, nfO_eq]
theorem setK_eq (l : List T) (s : Nat) (x : T) (K : List T → Prop) : setK l s x K = K (setL l s x) := by
  induction l generalizing s K with
  | nil => rfl
  | cons t l ih => cases s <;> simp only [setK, setL, ih]
theorem appB_eq (l m : Bx) (K : Bx → Prop) : appB l m K = K (l ++ m) := by
  induction l generalizing K with
  | nil => rfl
  | cons t l ih => simp only [appB, ih]; rfl
theorem appO_eq (l m : Ob) (K : Ob → Prop) : appO l m K = K (l ++ m) := by
  induction l generalizing K with
  | nil => rfl
  | cons t l ih => simp only [appO, ih]; rfl
theorem putK_eq (st : St) (d : Option Nat) (t : T) (ob : Ob) (bx : Bx) (K : St → Prop) : putK st d t ob bx K = K ((st.add ob bx).put d t) := by
  obtain ⟨tm, b, o⟩ := st
  cases d <;> simp only [putK, nfT_eq, appB_eq, appO_eq, setK_eq, nfB_eq] <;> rfl

def xo (E : Env) (d : Option Nat) (o : COp) (st : St) (Q : St → Prop) : Prop :=
  match o with
  | .st n x y => wo E d (.st n x y) st fun st' => nfS st' Q
  | .app a b x y => wo E d (.app a b x y) st fun st' => nfS st' Q
  | .bsl1 x => wo E d (.bsl1 x) st fun st' => nfS st' Q
  | .slcO s x l h => wo E d (.slcO s x l h) st fun st' => nfS st' Q
  | .call true f xs => wo E d (.call true f xs) st fun st' => nfS st' Q
  | .isn x => wo E d (.isn x) st fun st' => nfS st' Q
  | .callv x xs => match ev E st x with
    | .v (.one (.fnx f k n i m sz get)) => match lendVs st 0 (evs E st xs ++ fnxA k n i m sz get) with
      | some (as, ob, ts) => bif onceKey ts && onceL ob then CallRX E f as ob ts d st fun st' => nfS st' Q else False
      | none => False
    | _ => val E st d (.callv x xs) fun t ob bx => putK st d t ob bx Q
  | o => val E st d o fun t ob bx => putK st d t ob bx Q
theorem xo_eq (E : Env) (d : Option Nat) (o : COp) (st : St) (Q : St → Prop) : xo E d o st Q = wo E d o st Q := by
  have e : (fun st' => nfS st' Q) = Q := funext fun st' => nfS_eq st' Q
  have e2 : (fun t ob bx => putK st d t ob bx Q) = fun t ob bx => Q ((st.add ob bx).put d t) := funext fun t => funext fun ob => funext fun bx => putK_eq st d t ob bx Q
  cases o with
  | call ref f xs => cases ref <;> simp only [xo, e, e2] <;> rfl
  | _ => simp only [xo, e, e2] <;> rfl
def xi (E : Env) (i : CI) (st : St) (Q : St → Prop) : Prop :=
  match i with
  | ⟨d, o, g⟩ => match g with
    | none => xo E d o st Q
    | some (s, true) => match getL st.tm s with
      | .v (.one (.bool c)) => Cnd c (xo E d o st Q) (putK st d (one .sk) [] [] Q)
      | .v (.one .sk) => putK st d (one .sk) [] [] Q
      | _ => False
    | some (s, false) => match getL st.tm s with
      | .v (.one (.bool c)) => Cnd c (putK st d (one .sk) [] [] Q) (xo E d o st Q)
      | .v (.one .sk) => putK st d (one .sk) [] [] Q
      | _ => False
theorem add_nil (st : St) : st.add [] [] = st := rfl
theorem xi_eq (E : Env) (i : CI) (st : St) (Q : St → Prop) : xi E i st Q = wi E i st Q := by
  obtain ⟨d, o, g⟩ := i
  unfold xi wi
  cases g with
  | none => exact xo_eq E d o st Q
  | some p =>
    obtain ⟨s, b⟩ := p
    cases b <;> simp only [xo_eq, putK_eq, add_nil] <;> rfl
noncomputable def xis (E : Env) (l : List CI) : St → (St → Prop) → Prop :=
  List.rec (motive := fun _ => St → (St → Prop) → Prop) (fun st Q => Q st) (fun i _ ih st Q => xi E i st fun st' => ih st' Q) l
theorem xis_eq (E : Env) (l : List CI) (st : St) (Q : St → Prop) : xis E l st Q = wis E l st Q := by
  induction l generalizing st Q with
  | nil => rfl
  | cons i l ih =>
    have e : (fun st' => xis E l st' Q) = fun st' => wis E l st' Q := funext fun st' => ih st' Q
    show (xi E i st fun st' => xis E l st' Q) = _
    simp only [wis, e, xi_eq]

noncomputable def xvis (E : Env) (l : List CI) : List T → Ob → Bx → (List T → Ob → Bx → Prop) → Prop :=
  List.rec (motive := fun _ => List T → Ob → Bx → (List T → Ob → Bx → Prop) → Prop) (fun tm ob bx Q => Q tm ob bx)
    (fun i _ ih tm ob bx Q => vi E i ⟨[], bx, ob⟩ tm fun t o b => bif freshL ob o && freshL bx b then
      nfT t fun t' => appO o ob fun ob' => appB b bx fun bx' => nfB bx' fun bx' => match i.dst with
        | some s => setK tm s t' fun tm' => ih tm' ob' bx' Q
        | none => ih tm ob' bx' Q else False) l
theorem xvis_cons (E : Env) (i : CI) (l : List CI) (tm : List T) (ob : Ob) (bx : Bx) (Q : List T → Ob → Bx → Prop) : xvis E (i :: l) tm ob bx Q = vi E i ⟨[], bx, ob⟩ tm fun t o b => bif freshL ob o && freshL bx b then
      nfT t fun t' => appO o ob fun ob' => appB b bx fun bx' => nfB bx' fun bx' => match i.dst with
        | some s => setK tm s t' fun tm' => xvis E l tm' ob' bx' Q
        | none => xvis E l tm ob' bx' Q else False := rfl
theorem xvis_eq (E : Env) (l : List CI) (tm : List T) (ob : Ob) (bx : Bx) (Q : List T → Ob → Bx → Prop) : xvis E l tm ob bx Q = vis E l tm ob bx Q := by
  induction l generalizing tm ob bx Q with
  | nil => rfl
  | cons i l ih =>
    rw [xvis_cons]
    simp only [vis]
    congr 1
    funext t o b
    congr 1
    simp only [nfT_eq, appO_eq, appB_eq, nfB_eq]
    cases i.dst <;> simp only [setK_eq, ih]

noncomputable def xc (E : Env) (c : CC) : St → (Ex → St → Prop) → Prop :=
  CC.rec (motive := fun _ => St → (Ex → St → Prop) → Prop)
    (fun st Q => Q .normal st)
    (fun is st Q => xis E is st (Q .normal))
    (fun is tl st Q => match st with
      | ⟨t, b, o⟩ => xvis E is t o b fun tm ob bx => xis E tl ⟨tm, bx, ob⟩ (Q .normal))
    (fun _ _ iha ihb st Q => iha st fun x st' => match x with
      | .normal => ihb st' Q
      | .exit i => Q (.exit i) st'
      | .ret => Q .ret st')
    (fun x _ _ iha ihb st Q => match ev E st x with
      | .v (.one (.bool c)) => Cnd c (iha st Q) (ihb st Q)
      | _ => False)
    (fun id _ iha st Q => iha st fun x st' => match x with
      | .exit i => bif Nat.beq i id then Q .normal st' else Q (.exit i) st'
      | .normal => Q .normal st'
      | .ret => Q .ret st')
    (fun _ iha st Q => WLoop (fun s Q => iha s Q) st Q)
    (fun id st Q => Q (.exit id) st)
    (fun st Q => Q .ret st) c
theorem xc_eq (E : Env) (c : CC) : ∀ (st : St) (Q : Ex → St → Prop), xc E c st Q = wc E c st Q := by
  induction c with
  | skip => intro st Q; rfl
  | reg is => intro st Q; exact xis_eq E is st (Q .normal)
  | drw is tl =>
    intro st Q
    obtain ⟨tm, b, o⟩ := st
    show (xvis E is tm o b fun tm ob bx => xis E tl ⟨tm, bx, ob⟩ (Q .normal)) = _
    simp only [wc, xvis_eq, xis_eq]
  | seq a b iha ihb =>
    intro st Q
    show (xc E a st fun x st' => match x with
      | .normal => xc E b st' Q
      | .exit i => Q (.exit i) st'
      | .ret => Q .ret st') = _
    simp only [wc, iha]
    congr 1
    funext x st'
    cases x <;> simp only [ihb]
  | cond x a b iha ihb =>
    intro st Q
    show (match ev E st x with
      | .v (.one (.bool c)) => Cnd c (xc E a st Q) (xc E b st Q)
      | _ => False) = _
    simp only [wc, iha, ihb]; rfl
  | block id a ih =>
    intro st Q
    show (xc E a st fun x st' => match x with
      | .exit i => bif Nat.beq i id then Q .normal st' else Q (.exit i) st'
      | .normal => Q .normal st'
      | .ret => Q .ret st') = _
    simp only [wc, ih]
    congr 1
    funext x st'
    cases x <;> rfl
  | loop a ih =>
    intro st Q
    show WLoop (fun s Q => xc E a s Q) st Q = _
    simp only [wc]
    have : (fun s Q => xc E a s Q) = fun s Q => wc E a s Q := funext fun s => funext fun Q => ih s Q
    rw [this]
  | exit id => intro st Q; rfl
  | ret => intro st Q; rfl

/-- A FUNCTION'S CONTRACT, once more. -/
theorem Fun_of_xc {E : Env} {f : Nat} {cf : CF} {args : List V} {ob : Ob} {r : T} {obr obo : Ob} (hchk : chkF E.P f cf = true) (hon : okNames ob obr obo = true) (hlen : Nat.ble args.length cf.ntmps = true)
    (hno : ∀ k q, lk (obr ++ obo) k = some q → NoRo q)
    (h : nfS (enterSt cf args ob) fun st => xc E cf.body st fun x st => match x with
      | .exit _ => False
      | .normal => Ret cf.results ob r obr obo st
      | .ret => Ret cf.results ob r obr obo st) : Fun E f args ob r obr obo := by
  rw [nfS_eq, xc_eq] at h
  refine Fun_of_wc hchk hon hlen hno ?_
  refine cast (congrArg (fun Q => wc E cf.body (enterSt cf args ob) Q) ?_) h
  funext x st
  cases x <;> rfl

/-- A function's contract that tells something alone, once more. -/
theorem FunE_of_xc {E : Env} {f : Nat} {cf : CF} {args : List V} {ob : Ob} {Φ : T → Ob → Ob → Prop} (hchk : chkF E.P f cf = true) (hlen : Nat.ble args.length cf.ntmps = true)
    (hon : ∀ r obr obo, Φ r obr obo → okNames ob obr obo = true)
    (h : nfS (enterSt cf args ob) fun st => xc E cf.body st fun x st => match x with
      | .exit _ => False
      | .normal => RetE cf.results ob Φ st
      | .ret => RetE cf.results ob Φ st) : FunE E f args ob Φ := by
  rw [nfS_eq, xc_eq] at h
  refine FunE_of_wc hchk hlen hon ?_
  refine cast (congrArg (fun Q => wc E cf.body (enterSt cf args ob) Q) ?_) h
  funext x st
  cases x <;> rfl

theorem Cnd_i {b : Bool} {A B : Prop} (h : b = true → A) (h' : b = false → B) : Cnd b A B := ⟨h, h'⟩
theorem Cnd_t {b : Bool} {A B : Prop} (hb : b = true) (h : A) : Cnd b A B := ⟨fun _ => h, fun e => (by rw [hb] at e; cases e)⟩
theorem Cnd_f {b : Bool} {A B : Prop} (hb : b = false) (h : B) : Cnd b A B := ⟨fun e => (by rw [hb] at e; cases e), fun _ => h⟩
theorem Isn_i {n : Nat} {K : Bool → Prop} (h : K false) (h' : n = 0 → K true) : Isn n K := ⟨h, h'⟩
theorem Emp_i {n : Nat} {A B : Prop} (h : n = 0 → A) (h' : n ≠ 0 → B) : Emp n A B := ⟨h, h'⟩
theorem Bnd_i {p A : Prop} (h : p) (h' : A) : Bnd p A := ⟨h, h'⟩
theorem Ct {b : Bool} {A B : Prop} (hb : b = true) (h : A) : Cnd b A B := Cnd_t hb h
theorem Cf {b : Bool} {A B : Prop} (hb : b = false) (h : B) : Cnd b A B := Cnd_f hb h
theorem Bi {p A : Prop} (h : p) (h' : A) : Bnd p A := ⟨h, h'⟩
theorem Bz {b : Int} {A : Prop} (hb : (b == 0) = false) (h : A) : Bnd (b ≠ 0) A := ⟨(by intro e; subst e; cases hb), h⟩
theorem Lr {cs : List Cell} {K : List Cell → Prop} (h : K cs) : Lc cs K := h
theorem Lc_i {cs : List Cell} {K : List Cell → Prop} (cs' : List Cell) (e : cs = cs') (h : K cs') : Lc cs K := by subst e; exact h
theorem Rw_i {r : Row} {K : Row → Prop} (s : Row) (h : RowEq r s) (h' : K s) : Rw r K := ⟨s, h, h'⟩
end Go.Proofs.YtjnpnpkjmlihdaaDoor.Ab
namespace Go.Proofs.YtjnpnpkjmlihdaaDoor.Ab
open Go Go.RowKit

theorem CallQ_some {E : Env} {f : Nat} {av : List V} {hot : Bool} {d : Nat} {ob : Ob} {K : T → Ob → Prop} {r : T} {obr : Ob} (hF : Fun E f av [] r obr []) (hres : (!(r.any fun c => !c.resOk hot)) = true)
    (hn : newL ob (shift (dkey d 0) obr) = true) (h : K (instT (dkey d 0) r) (shift (dkey d 0) obr)) : CallQ E f av hot (some d) ob K := ⟨r, obr, hF, hres, hn, h⟩
theorem CallQ_none {E : Env} {f : Nat} {av : List V} {hot : Bool} {ob : Ob} {K : T → Ob → Prop} {r : T} (hF : Fun E f av [] r [] []) (hres : (!(r.any fun c => !c.resOk hot)) = true)
    (h : K .u []) : CallQ E f av hot none ob K := ⟨r, [], hF, hres, rfl, h⟩

def setAll : List T → List (Nat × T) → List T
  | tm, [] => tm
  | tm, (s, x) :: l => setAll (setL tm s x) l
/-- a state at a loop's head: what stands in the temporaries that are kept -/
def hdS (n : Nat) (l : List (Nat × T)) (bx : Bx) (ob : Ob) : St := ⟨setAll (masked n) l, bx, ob⟩

theorem WLoop_v {body : St → (Ex → St → Prop) → Prop} {st : St} {Q : Ex → St → Prop} (κ : Kp) {σ : Type} (S : σ → St) (Inv : Nat → σ → Prop) (k0 : Nat) (x0 : σ) (hk : keep κ st = some (S x0)) (hI : Inv k0 x0)
    (h : ∀ k x, Inv k x → nfS (S x) fun s => body s fun e st' => match e with
      | .normal => ∃ k' x', keep κ st' = some (S x') ∧ k' < k ∧ Inv k' x'
      | .exit i => Q (.exit i) st'
      | .ret => Q .ret st') : WLoop body st Q := by
  refine ⟨κ, fun k s => ∃ x, s = S x ∧ Inv k x, k0, S x0, hk, ⟨x0, rfl, hI⟩, ?_⟩
  rintro k s ⟨x, rfl, hx⟩
  have h1 := h k x hx
  rw [nfS_eq] at h1
  refine cast (congrArg (body (S x)) ?_) h1
  funext e st'
  cases e with
  | normal =>
    refine propext ⟨?_, ?_⟩
    · rintro ⟨k', x', h1, h2, h3⟩
      exact ⟨k', S x', h1, h2, x', rfl, h3⟩
    · rintro ⟨k', s', h1, h2, x', rfl, h3⟩
      exact ⟨k', x', h1, h2, h3⟩
  | exit i => rfl
  | ret => rfl

theorem Bts_i {n : Nat} {get : Nat → Nat → Cell} {K : Cell → Prop} (l : List UInt8) (h1 : 1 ≤ l.length) (h2 : l.length = n) (h3 : ∀ (i : Nat) (b : UInt8), l[i]? = some b → get i 0 = .int .u8 b.toNat) (h4 : K (.str ⟨l.toArray⟩)) : Bts n get K := ⟨l, h1, h2, h3, h4⟩

theorem WLoop_v2 {body : St → (Ex → St → Prop) → Prop} {st : St} {Q : Ex → St → Prop} (κ : Kp) {α β : Type} (S : α → β → St) (Inv : Nat → α → β → Prop) (k0 : Nat) (a0 : α) (b0 : β) (hk : keep κ st = some (S a0 b0)) (hI : Inv k0 a0 b0)
    (h : ∀ k a b, Inv k a b → nfS (S a b) fun s => body s fun e st' => match e with
      | .normal => ∃ k' a' b', keep κ st' = some (S a' b') ∧ k' < k ∧ Inv k' a' b'
      | .exit i => Q (.exit i) st'
      | .ret => Q .ret st') : WLoop body st Q :=
  WLoop_v κ (fun x : α × β => S x.1 x.2) (fun k x => Inv k x.1 x.2) k0 (a0, b0) hk hI (fun k x hx => by
    refine cast ?_ (h k x.1 x.2 hx)
    congr 1
    funext s
    congr 1
    funext e st'
    cases e with
    | normal => exact propext ⟨fun ⟨k', a', b', h⟩ => ⟨k', (a', b'), h⟩, fun ⟨k', x', h⟩ => ⟨k', x'.1, x'.2, h⟩⟩
    | exit i => rfl
    | ret => rfl)
theorem WLoop_v3 {body : St → (Ex → St → Prop) → Prop} {st : St} {Q : Ex → St → Prop} (κ : Kp) {α β γ : Type} (S : α → β → γ → St) (Inv : Nat → α → β → γ → Prop) (k0 : Nat) (a0 : α) (b0 : β) (c0 : γ) (hk : keep κ st = some (S a0 b0 c0)) (hI : Inv k0 a0 b0 c0)
    (h : ∀ k a b c, Inv k a b c → nfS (S a b c) fun s => body s fun e st' => match e with
      | .normal => ∃ k' a' b' c', keep κ st' = some (S a' b' c') ∧ k' < k ∧ Inv k' a' b' c'
      | .exit i => Q (.exit i) st'
      | .ret => Q .ret st') : WLoop body st Q :=
  WLoop_v κ (fun x : α × β × γ => S x.1 x.2.1 x.2.2) (fun k x => Inv k x.1 x.2.1 x.2.2) k0 (a0, b0, c0) hk hI (fun k x hx => by
    refine cast ?_ (h k x.1 x.2.1 x.2.2 hx)
    congr 1
    funext s
    congr 1
    funext e st'
    cases e with
    | normal => exact propext ⟨fun ⟨k', a', b', c', h⟩ => ⟨k', (a', b', c'), h⟩, fun ⟨k', x', h⟩ => ⟨k', x'.1, x'.2.1, x'.2.2, h⟩⟩
    | exit i => rfl
    | ret => rfl)
theorem WLoop_v4 {body : St → (Ex → St → Prop) → Prop} {st : St} {Q : Ex → St → Prop} (κ : Kp) {α β γ δ : Type} (S : α → β → γ → δ → St) (Inv : Nat → α → β → γ → δ → Prop) (k0 : Nat) (a0 : α) (b0 : β) (c0 : γ) (d0 : δ) (hk : keep κ st = some (S a0 b0 c0 d0)) (hI : Inv k0 a0 b0 c0 d0)
    (h : ∀ k a b c d, Inv k a b c d → nfS (S a b c d) fun s => body s fun e st' => match e with
      | .normal => ∃ k' a' b' c' d', keep κ st' = some (S a' b' c' d') ∧ k' < k ∧ Inv k' a' b' c' d'
      | .exit i => Q (.exit i) st'
      | .ret => Q .ret st') : WLoop body st Q :=
  WLoop_v κ (fun x : α × β × γ × δ => S x.1 x.2.1 x.2.2.1 x.2.2.2) (fun k x => Inv k x.1 x.2.1 x.2.2.1 x.2.2.2) k0 (a0, b0, c0, d0) hk hI (fun k x hx => by
    refine cast ?_ (h k x.1 x.2.1 x.2.2.1 x.2.2.2 hx)
    congr 1
    funext s
    congr 1
    funext e st'
    cases e with
    | normal => exact propext ⟨fun ⟨k', a', b', c', d', h⟩ => ⟨k', (a', b', c', d'), h⟩, fun ⟨k', x', h⟩ => ⟨k', x'.1, x'.2.1, x'.2.2.1, x'.2.2.2, h⟩⟩
    | exit i => rfl
    | ret => rfl)

/-! ### calls that write rows that they are lent -/
theorem CallR_e {E : Env} {f : Nat} {as : List V} {ob : Ob} {ts : List (Nat × Tgt)} {d : Option Nat} {st : St} {Q : St → Prop} {Φ : T → Ob → Ob → Prop} (hF : FunE E f as ob Φ)
    (h : ∀ r obr obo, Φ r obr obo → Shape ob obo ∧ (!(r.any fun c => !c.resR ts obr)) = true ∧ freshL obr obo = true ∧
      match back obo ts st with
      | some st' => match d with
        | some s => newL st.ob (shift (dkey s 0) obr) = true ∧ Q ((st'.add (shift (dkey s 0) obr) []).put d (instTR ts (dkey s 0) r))
        | none => obr = [] ∧ Q st'
      | none => False) : CallR E f as ob ts d st Q := ⟨Φ, hF, h⟩
theorem CallR_some {E : Env} {f : Nat} {as : List V} {ob : Ob} {ts : List (Nat × Tgt)} {s : Nat} {st : St} {Q : St → Prop} {r : T} {obr obo : Ob} (hF : Fun E f as ob r obr obo) (hsh : Shape ob obo)
    (hres : (!(r.any fun c => !c.resR ts obr)) = true) (hfr : freshL obr obo = true) (hn : newL st.ob (shift (dkey s 0) obr) = true)
    (h : match back obo ts st with
      | some st' => Q ((st'.add (shift (dkey s 0) obr) []).put (some s) (instTR ts (dkey s 0) r))
      | none => False) : CallR E f as ob ts (some s) st Q := by
  refine ⟨_, hF.toE, ?_⟩
  rintro r' o o' ⟨rfl, rfl, rfl⟩
  refine ⟨hsh, hres, hfr, ?_⟩
  cases e : back o' ts st with
  | none => rw [e] at h; exact h.elim
  | some st' => rw [e] at h; exact ⟨hn, h⟩
theorem CallR_none {E : Env} {f : Nat} {as : List V} {ob : Ob} {ts : List (Nat × Tgt)} {st : St} {Q : St → Prop} {r : T} {obo : Ob} (hF : Fun E f as ob r [] obo) (hsh : Shape ob obo)
    (hres : (!(r.any fun c => !c.resR ts [])) = true)
    (h : match back obo ts st with
      | some st' => Q st'
      | none => False) : CallR E f as ob ts none st Q := by
  refine ⟨_, hF.toE, ?_⟩
  rintro r' o o' ⟨rfl, rfl, rfl⟩
  refine ⟨hsh, hres, ?_, ?_⟩
  · have : ∀ l : Ob, freshL ([] : Ob) l = true := by
      intro l
      induction l with
      | nil => rfl
      | cons p l ih => obtain ⟨k, q⟩ := p; show (true && freshL ([] : Ob) l) = true; rw [ih]; rfl
    exact this _
  · cases e : back o' ts st with
    | none => rw [e] at h; exact h.elim
    | some st' => rw [e] at h; exact ⟨rfl, h⟩
theorem CallR_as {E : Env} {f : Nat} {as as' : List V} {ob ob' : Ob} {ts : List (Nat × Tgt)} {d : Option Nat} {st : St} {Q : St → Prop} (e : as = as') (e' : ob = ob') (h : CallR E f as' ob' ts d st Q) : CallR E f as ob ts d st Q := e ▸ e' ▸ h

/-! ### calls that are lent rows through caught variables -/
def NoRoL : Ob → Prop
  | [] => True
  | (_, q) :: l => NoRo q ∧ NoRoL l
theorem NoRoL.at : ∀ {l : Ob}, NoRoL l → ∀ k q, lk l k = some q → NoRo q
  | [], _, k, q, h => by cases h
  | (k', q') :: l, ⟨h1, h2⟩, k, q, h => by
    rw [lk] at h
    cases e : Nat.beq k' k with
    | true => rw [e] at h; cases h; exact h1
    | false => rw [e] at h; exact h2.at k q h
theorem CallRX_some {E : Env} {f : Nat} {as : List V} {ob : Ob} {ts : List (Nat × Tgt)} {s : Nat} {st : St} {Q : St → Prop} {r : T} {obr obo : Ob} (hF : Fun E f as ob r obr obo) (hsh : Shape ob obo)
    (hres : (!(r.any fun c => !c.resR ts obr)) = true) (hfr : freshL obr obo = true) (hn : newL st.ob (shift (dkey s 0) obr) = true)
    (h : match back obo ts st with
      | some st' => Q ((st'.add (shift (dkey s 0) obr) []).put (some s) (instTR ts (dkey s 0) r))
      | none => False) : CallRX E f as ob ts (some s) st Q := by
  refine ⟨_, hF.toE, ?_⟩
  rintro r' o o' ⟨rfl, rfl, rfl⟩
  refine ⟨hF.2.1, hsh, hres, hfr, ?_⟩
  cases e : back o' ts st with
  | none => rw [e] at h; exact h.elim
  | some st' => rw [e] at h; exact ⟨hn, h⟩
theorem CallRX_as {E : Env} {f : Nat} {as as' : List V} {ob ob' : Ob} {ts : List (Nat × Tgt)} {d : Option Nat} {st : St} {Q : St → Prop} (e : as = as') (e' : ob = ob') (h : CallRX E f as' ob' ts d st Q) : CallRX E f as ob ts d st Q := e ▸ e' ▸ h
theorem CallRX_none {E : Env} {f : Nat} {as : List V} {ob : Ob} {ts : List (Nat × Tgt)} {st : St} {Q : St → Prop} {r : T} {obo : Ob} (hF : Fun E f as ob r [] obo) (hsh : Shape ob obo)
    (hres : (!(r.any fun c => !c.resR ts [])) = true)
    (h : match back obo ts st with
      | some st' => Q st'
      | none => False) : CallRX E f as ob ts none st Q := by
  refine ⟨_, hF.toE, ?_⟩
  rintro r' o o' ⟨rfl, rfl, rfl⟩
  refine ⟨hF.2.1, hsh, hres, ?_, ?_⟩
  · have : ∀ l : Ob, freshL ([] : Ob) l = true := by
      intro l
      induction l with
      | nil => rfl
      | cons p l ih => obtain ⟨k, q⟩ := p; show (true && freshL ([] : Ob) l) = true; rw [ih]; rfl
    exact this _
  · cases e : back o' ts st with
    | none => rw [e] at h; exact h.elim
    | some st' => rw [e] at h; exact ⟨rfl, h⟩
/-- .. where it is told only what comes back -/
theorem CallRX_e {E : Env} {f : Nat} {as : List V} {ob : Ob} {ts : List (Nat × Tgt)} {d : Option Nat} {st : St} {Q : St → Prop} {Φ : T → Ob → Ob → Prop} (hF : FunE E f as ob Φ)
    (h : ∀ r obr obo, Φ r obr obo → NoRoL (obr ++ obo) ∧ Shape ob obo ∧ (!(r.any fun c => !c.resR ts obr)) = true ∧ freshL obr obo = true ∧
      match back obo ts st with
      | some st' => match d with
        | some s => newL st.ob (shift (dkey s 0) obr) = true ∧ Q ((st'.add (shift (dkey s 0) obr) []).put d (instTR ts (dkey s 0) r))
        | none => obr = [] ∧ Q st'
      | none => False) : CallRX E f as ob ts d st Q :=
  ⟨Φ, hF, fun r obr obo hh => by
    obtain ⟨h1, h2, h3, h4, h5⟩ := h r obr obo hh
    exact ⟨h1.at, h2, h3, h4, h5⟩⟩

/-! ### whole numbers -/
theorem wrapI {n : Int} (h : -9223372036854775808 ≤ n ∧ n ≤ 9223372036854775807) : IntKind.i64.wrap n = n := by
  rw [IntWalk.i64_left]; exact IntWalk.wrap64_in n h
end Go.Proofs.YtjnpnpkjmlihdaaDoor.Ab
namespace Go.Proofs.YtjnpnpkjmlihdaaDoor.Ab
open Go Go.RowKit

section
variable {H : Type} {enc : TypeId × Value → H} {P : Program} {w : World} {base : Nat} {sp : Nat → Bool} {held : Bool}

/-- these values read as these cells; their memory lies in the world -/
def Reads (w : World) (cs : List Value) (c : List Cell) : Prop :=
  cs.length = c.length ∧ ∀ (j : Nat) (u : Value), cs[j]? = some u → CRep w (fun b => b < w.heap.size) u (nth c j) ∧ (nth c j).plain = true

theorem Reads.one {v : Value} {c : Cell} (h : CRep w (fun b => b < w.heap.size) v c) (hp : c.plain = true) : Reads w [v] [c] := by
  refine ⟨rfl, fun j u hj => ?_⟩
  cases j with
  | zero => simp at hj; subst hj; exact ⟨h, hp⟩
  | succ j => simp at hj
theorem nth_append (a b : List Cell) (j : Nat) : nth (a ++ b) j = if j < a.length then nth a j else nth b (j - a.length) := by
  induction a generalizing j with
  | nil => simp
  | cons c l ih =>
    cases j with
    | zero => simp [nth]
    | succ j => simp [nth, ih]
theorem Reads.field {cs : List Value} {o n m : Nat} {c c' : List Cell} (h : Reads w ((cs.drop o).take n) c) (hn : c.length = n) (hm : o + n = m) (h' : Reads w (cs.drop m) c') : Reads w (cs.drop o) (c ++ c') := by
  subst hm
  have hl : (cs.drop o).length = n + (cs.drop (o + n)).length := by
    have := h.1
    simp only [List.length_take, List.length_drop] at this ⊢
    omega
  refine ⟨by rw [List.length_append, hn, hl, h'.1], fun j u hj => ?_⟩
  rw [nth_append, hn]
  by_cases e : j < n
  · rw [if_pos e]
    exact h.2 j u (by rw [List.getElem?_take, if_pos e]; exact hj)
  · rw [if_neg e]
    refine h'.2 (j - n) u ?_
    rw [List.getElem?_drop] at hj ⊢
    rw [show o + n + (j - n) = o + j by omega]; exact hj
theorem Reads.last {cs : List Value} {o : Nat} (h : cs.length = o) : Reads w (cs.drop o) [] := by
  have : cs.drop o = [] := by rw [List.drop_eq_nil_iff]; omega
  rw [this]; exact ⟨rfl, fun j u hj => by simp at hj⟩

theorem reads_int {t : TypeId} {k : IntKind} {fuel : Nat} {cs : List Value} {x : DataW H × List MemPlace} (ht : P.underlying t = some (.int k)) (h : DataW.trod enc P w base sp held fuel t cs = some x) :
    ∃ n : Int, Reads w cs [.int k n] ∧ (Lit.int k n).wf = true := by
  obtain ⟨n, rfl, _, hw⟩ := DataW.trod_int ht h
  exact ⟨n, .one (.int k n) rfl, hw⟩
theorem reads_bool {t : TypeId} {fuel : Nat} {cs : List Value} {x : DataW H × List MemPlace} (ht : P.underlying t = some .bool) (h : DataW.trod enc P w base sp held fuel t cs = some x) :
    ∃ b : Bool, Reads w cs [.bool b] := by
  obtain ⟨b, rfl, _⟩ := DataW.trod_bool ht h
  exact ⟨b, .one (.bool b) rfl⟩
theorem reads_str {t : TypeId} {fuel : Nat} {cs : List Value} {x : DataW H × List MemPlace} (ht : P.underlying t = some .string) (h : DataW.trod enc P w base sp held fuel t cs = some x) :
    ∃ s : ByteArray, Reads w cs [.str s] ∧ s.size ≤ maxLen := by
  obtain ⟨s, rfl, _, hs⟩ := DataW.trod_string ht h
  exact ⟨s, .one (.str s) rfl, hs⟩

theorem list_choose {α : Type} {R : Nat → α → Prop} : ∀ (n : Nat), (∀ i, i < n → ∃ a, R i a) → ∃ l : List α, l.length = n ∧ ∀ (i : Nat) a, l[i]? = some a → R i a
  | 0, _ => ⟨[], rfl, fun i a h => by simp at h⟩
  | n + 1, h => by
    obtain ⟨l, h1, h2⟩ := list_choose n (fun i hi => h i (by omega))
    obtain ⟨a, ha⟩ := h n (by omega)
    refine ⟨l ++ [a], by simp [h1], fun i b hb => ?_⟩
    by_cases e : i < n
    · rw [List.getElem?_append_left (by omega)] at hb; exact h2 i b hb
    · have hi : i < (l ++ [a]).length := (List.getElem?_eq_some_iff.1 hb).1
      simp [h1] at hi
      obtain rfl : i = n := by omega
      rw [List.getElem?_append_right (by omega)] at hb
      simp [h1] at hb
      subst hb; exact ha

theorem spot_none {a : Addr} {v : Value} (h : w.cell? a = some v) : a.spot = none := by
  unfold World.cell? at h
  split at h
  · cases hs : a.spot with
    | none => rfl
    | some s => rw [hs] at h; simp at h
  · cases h

theorem cells_at {a : Addr} {n : Nat} {cs : List Value} (h : w.cells? base a n = some cs) : cs.length = n ∧ ∀ j, j < n → w.cell? (a.add j) = cs[j]? := by
  unfold World.cells? at h
  split at h
  · have hl := mapM_some_length h
    refine ⟨by simpa using hl, fun j hj => ?_⟩
    exact mapM_some_get h j j (by simp [hj])
  · cases h

/-- a row, element by element -/
theorem reads_row {α : Type} (ec : α → List Cell) (d0 : α) (Pr : α → Prop) {t e : TypeId} {sz : Nat} {fuel : Nat} {cs : List Value} {x : DataW H × List MemPlace} (ht : P.underlying t = some (.slice e)) (hc : P.cellsOf e = sz) (hpos : 0 < sz)
    (hlen : ∀ a, (ec a).length = sz) (hel : ∀ fuel cs x, DataW.trod enc P w base sp held fuel e cs = some x → ∃ a, Reads w cs (ec a) ∧ Pr a) (h : DataW.trod enc P w base sp held fuel t cs = some x) :
    ∃ l : List α, Reads w cs [.ro sz l.length fun i j => nth (ec (l.getD i d0)) j] ∧ l.length ≤ maxLen ∧ ∀ a ∈ l, Pr a := by
  rcases DataW.trod_slice ht h with ⟨rfl, _⟩ | ⟨a, len, cap, elems, rest, n, _, rfl, _, hb, hl, hm, hlen', hel', _, _⟩
  · exact ⟨[], .one (.ro0 _ _ _ _) rfl, Nat.zero_le _, fun a h => (by cases h)⟩
  · subst hc
    have key : ∀ i, i < len → ∃ y, ∃ csi, csi.length = P.cellsOf e ∧ (∀ j, j < P.cellsOf e → w.cell? ((a.add (i * P.cellsOf e)).add j) = csi[j]?) ∧ Reads w csi (ec y) ∧ Pr y := by
      intro i hi
      have h1 := hel' i hi
      have hs : ∃ y, elems[i]? = some y := ⟨elems[i]'(by omega), by simp [hlen', hi]⟩
      obtain ⟨y, hy⟩ := hs
      rw [hy] at h1
      obtain ⟨csi, h2, h3⟩ := Option.bind_eq_some_iff.1 h1
      obtain ⟨c1, c2⟩ := cells_at h2
      obtain ⟨z, z1, z2⟩ := hel n csi y h3
      exact ⟨z, csi, c1, c2, z1, z2⟩
    obtain ⟨l, l1, l2⟩ := list_choose (R := fun i y => ∃ csi, csi.length = P.cellsOf e ∧ (∀ j, j < P.cellsOf e → w.cell? ((a.add (i * P.cellsOf e)).add j) = csi[j]?) ∧ Reads w csi (ec y) ∧ Pr y) len key
    refine ⟨l, ?_, by omega, fun y hy => ?_⟩
    · by_cases h0 : len = 0
      · subst h0
        rw [l1]
        exact .one (.ro0 _ _ _ _) rfl
      · have hspot : a.spot = none := by
          obtain ⟨y, csi, c1, c2, _⟩ := key 0 (by omega)
          have := c2 0 hpos
          have hj : 0 < csi.length := by omega
          rw [Nat.zero_mul] at this
          have e0 : (a.add 0).add 0 = a := by simp [Addr.add]
          rw [e0] at this
          exact spot_none (this.trans (by simp [hj]) : w.cell? a = some csi[0])
        obtain ⟨b, o, s⟩ := a
        simp only at hspot
        subst hspot
        have hget : ∀ i, i < len → l[i]? = some (l.getD i d0) := by
          intro i hi
          have : i < l.length := by omega
          simp [this]
        have hcell : ∀ i j, i < len → j < P.cellsOf e → ∃ u, w.cell? ⟨b, o + (i * P.cellsOf e + j), none⟩ = some u ∧ CRep w (fun b => b < w.heap.size) u (nth (ec (l.getD i d0)) j) ∧ (nth (ec (l.getD i d0)) j).plain = true := by
          intro i j hi hj
          obtain ⟨csi, c1, c2, c3, _⟩ := l2 i _ (hget i hi)
          have hjl : j < csi.length := by omega
          have h1 := c2 j hj
          rw [addr_add, addr_add] at h1
          have hu : csi[j]? = some csi[j] := by simp [hjl]
          refine ⟨csi[j], ?_, c3.2 j _ hu⟩
          rw [← hu, ← h1, show o + (i * P.cellsOf e + j) = o + i * P.cellsOf e + j by omega]
        rw [l1]
        refine .one (CRep.ro b o cap _ len _ (fun i j => (w.cell? ⟨b, o + (i * P.cellsOf e + j), none⟩).getD undef) hl (fun i j hi hj => ?_) ?_ (fun i j hi hj => ?_) (fun i j hi hj => ?_)) rfl
        · obtain ⟨u, u1, u2, u3⟩ := hcell i j hi hj; exact u3
        · obtain ⟨u, u1, _⟩ := hcell 0 0 (by omega) hpos
          show b < w.heap.size
          unfold World.cell? at u1
          split at u1
          · rename_i hh
            exact (Array.getElem?_eq_some_iff.1 hh).1
          · cases u1
        · obtain ⟨u, u1, _⟩ := hcell i j hi hj; rw [u1]; rfl
        · obtain ⟨u, u1, u2, _⟩ := hcell i j hi hj
          rw [u1]; exact u2
    · obtain ⟨i, hi⟩ := List.mem_iff_getElem?.1 hy
      obtain ⟨_, _, _, _, hp⟩ := l2 i y hi
      exact hp

/-- a struct, field by field -/
theorem reads_struct {t : TypeId} {fs : Array Field} {fuel : Nat} {cs : List Value} {x : DataW H × List MemPlace} (ht : P.underlying t = some (.struct fs)) (h : DataW.trod enc P w base sp held fuel t cs = some x) :
    cs.length = P.cellsOf t ∧ ∀ (i : Nat) f, fs[i]? = some f → ∃ y n, DataW.trod enc P w base sp held n f.type ((cs.drop f.offset).take (P.cellsOf f.type)) = some y := by
  obtain ⟨xs, n, _, rfl, hl, hlen, hf⟩ := DataW.trod_struct ht h
  refine ⟨hl, fun i f hi => ?_⟩
  have h1 := hf i f hi
  have hi' : i < xs.length := by
    have := (Array.getElem?_eq_some_iff.1 hi).1
    omega
  exact ⟨xs[i], n, by rw [h1]; simp [hi']⟩
end
end Go.Proofs.YtjnpnpkjmlihdaaDoor.Ab
namespace Go.Proofs.YtjnpnpkjmlihdaaDoor.Ab
open Go Go.RowKit

abbrev vI (n : Int) : V := .one (.int .i64 n)
abbrev vB (b : Bool) : V := .one (.bool b)
abbrev vS (s : ByteArray) : V := .one (.str s)
abbrev cI (n : Int) : Cell := .int .i64 n
abbrev roI (l : List Int) : Cell := .ro 1 l.length fun i _ => cI (l.getD i 0)

structure Ter where
  name : ByteArray
  cost : List Int
  shift : Int
  height : Int
  blocks : Bool
structure Knd where
  name : ByteArray
  str : Int
  mov : Int
  ste : Int
  zone : Bool
  view : Int
structure Rul where
  ter : List Ter
  knd : List Knd
  stack : Int
  river : Int
  road : Int
  supply : Int
  turns : Int
structure Map where
  w : Int
  h : Int
  ter : List Int
  riv : List Int
  roa : List Int
structure Brd where
  r : Rul
  m : Map
abbrev Ter.cs (t : Ter) : List Cell := [.str t.name, roI t.cost, cI t.shift, cI t.height, .bool t.blocks]
abbrev Knd.cs (k : Knd) : List Cell := [.str k.name, cI k.str, cI k.mov, cI k.ste, .bool k.zone, cI k.view]
def Ter.d : Ter := ⟨⟨#[]⟩, [], 0, 0, false⟩
def Knd.d : Knd := ⟨⟨#[]⟩, 0, 0, 0, false, 0⟩
abbrev roT (l : List Ter) : Cell := .ro 5 l.length fun i j => nth (l.getD i Ter.d).cs j
abbrev roK (l : List Knd) : Cell := .ro 6 l.length fun i j => nth (l.getD i Knd.d).cs j
abbrev Rul.cs (r : Rul) : List Cell := [roT r.ter, roK r.knd, cI r.stack, cI r.river, cI r.road, cI r.supply, cI r.turns]
abbrev Map.cs (m : Map) : List Cell := [cI m.w, cI m.h, roI m.ter, roI m.riv, roI m.roa]
abbrev Brd.cs (b : Brd) : List Cell := [roT b.r.ter, roK b.r.knd, cI b.r.stack, cI b.r.river, cI b.r.road, cI b.r.supply, cI b.r.turns, cI b.m.w, cI b.m.h, roI b.m.ter, roI b.m.riv, roI b.m.roa]

def i64 (n : Int) : Prop := -9223372036854775808 ≤ n ∧ n ≤ 9223372036854775807
structure okL (l : List Int) : Prop where
  len : l.length ≤ maxLen
  all : ∀ n ∈ l, i64 n
structure Ter.Ok (t : Ter) : Prop where
  name : t.name.size ≤ maxLen
  cost : okL t.cost
  shift : i64 t.shift
  height : i64 t.height
structure Knd.Ok (k : Knd) : Prop where
  name : k.name.size ≤ maxLen
  str : i64 k.str
  mov : i64 k.mov
  ste : i64 k.ste
  view : i64 k.view
structure Rul.Ok (r : Rul) : Prop where
  lter : r.ter.length ≤ maxLen
  ter : ∀ t ∈ r.ter, t.Ok
  lknd : r.knd.length ≤ maxLen
  knd : ∀ k ∈ r.knd, k.Ok
  stack : i64 r.stack
  river : i64 r.river
  road : i64 r.road
  supply : i64 r.supply
  turns : i64 r.turns
structure Map.Ok (m : Map) : Prop where
  w : i64 m.w
  h : i64 m.h
  ter : okL m.ter
  riv : okL m.riv
  roa : okL m.roa
structure Brd.Ok (b : Brd) : Prop where
  r : b.r.Ok
  m : b.m.Ok

/-- a struct's fields: their types, their places -/
def fieldsT (P : Program) (t : TypeId) : Option (List (Nat × Nat)) := match P.underlying t with
  | some (.struct fs) => some (fs.toList.map fun f => (f.type, f.offset))
  | _ => none

section
variable {H : Type} {enc : TypeId × Value → H} {P : Program} {w : World} {base : Nat} {sp : Nat → Bool} {held : Bool}

theorem i64_of {n : Int} (h : (Lit.int .i64 n).wf = true) : i64 n := by
  simp only [Lit.wf, Bool.and_eq_true, decide_eq_true_eq] at h
  have e1 : IntKind.i64.min = -9223372036854775808 := by decide
  have e2 : IntKind.i64.max = 9223372036854775807 := by decide
  rw [e1, e2] at h
  exact h

theorem reads_fields {t : TypeId} {L : List (Nat × Nat)} {fuel : Nat} {cs : List Value} {x : DataW H × List MemPlace} (ht : fieldsT P t = some L) (h : DataW.trod enc P w base sp held fuel t cs = some x) :
    cs.length = P.cellsOf t ∧ ∀ (i : Nat) p, L[i]? = some p → ∃ y n, DataW.trod enc P w base sp held n p.1 ((cs.drop p.2).take (P.cellsOf p.1)) = some y := by
  unfold fieldsT at ht
  split at ht
  case h_2 => cases ht
  rename_i fs hu
  cases ht
  obtain ⟨h1, h2⟩ := reads_struct hu h
  refine ⟨h1, fun i p hp => ?_⟩
  rw [List.getElem?_map] at hp
  obtain ⟨f, hf, rfl⟩ := Option.map_eq_some_iff.1 hp
  exact h2 i f (by simpa using hf)

theorem ro_get {I : Nat → Prop} {v : Value} {sz n : Nat} {g g' : Nat → Nat → Cell} (h : CRep w I v (.ro sz n g)) (e : ∀ i j, i < n → j < sz → g i j = g' i j) : CRep w I v (.ro sz n g') := by
  generalize hc : Cell.ro sz n g = c at h
  cases h with
  | ro0 b c => cases hc; exact .ro0 _ _ _ _
  | ro b o c _ _ _ vals hn hpl hI hcl hr =>
    cases hc
    exact .ro b o c sz n g' vals hn (fun i j hi hj => by rw [← e i j hi hj]; exact hpl i j hi hj) hI hcl (fun i j hi hj => by rw [← e i j hi hj]; exact hr i j hi hj)
  | _ => cases hc

theorem reads_ints {t tI : TypeId} {fuel : Nat} {cs : List Value} {x : DataW H × List MemPlace} (ht : P.underlying t = some (.slice tI)) (hI : P.underlying tI = some (.int .i64)) (cI1 : P.cellsOf tI = 1)
    (h : DataW.trod enc P w base sp held fuel t cs = some x) : ∃ l : List Int, Reads w cs [roI l] ∧ okL l := by
  obtain ⟨l, h1, h2, h3⟩ := reads_row (fun n : Int => [cI n]) 0 i64 ht cI1 (by omega) (fun _ => rfl) (fun fuel cs x hx => by
    obtain ⟨n, a, b⟩ := reads_int hI hx
    exact ⟨n, a, i64_of b⟩) h
  refine ⟨l, ⟨h1.1, fun j u hj => ?_⟩, h2, h3⟩
  obtain ⟨a, b⟩ := h1.2 j u hj
  cases j with
  | zero =>
    have a : CRep w _ u (.ro 1 l.length fun i j => nth [cI (l.getD i 0)] j) := a
    exact ⟨ro_get a (fun i j hi hj => by
      obtain rfl : j = 0 := by omega
      rfl), rfl⟩
  | succ j => have := (List.getElem?_eq_some_iff.1 hj).1; have := h1.1; simp at this; omega
end

/-- the numbers of the types of a seat -/
structure Tys where
  int : Nat
  bool : Nat
  str : Nat
  ints : Nat
  ter : Nat
  ters : Nat
  knd : Nat
  knds : Nat
  rul : Nat
  map : Nat
  brd : Nat
structure TyOk (P : Program) (y : Tys) : Prop where
  int : P.underlying y.int = some (.int .i64)
  bool : P.underlying y.bool = some .bool
  str : P.underlying y.str = some .string
  ints : P.underlying y.ints = some (.slice y.int)
  ters : P.underlying y.ters = some (.slice y.ter)
  knds : P.underlying y.knds = some (.slice y.knd)
  ter : fieldsT P y.ter = some [(y.str, 0), (y.ints, 1), (y.int, 2), (y.int, 3), (y.bool, 4)]
  knd : fieldsT P y.knd = some [(y.str, 0), (y.int, 1), (y.int, 2), (y.int, 3), (y.bool, 4), (y.int, 5)]
  rul : fieldsT P y.rul = some [(y.ters, 0), (y.knds, 1), (y.int, 2), (y.int, 3), (y.int, 4), (y.int, 5), (y.int, 6)]
  map : fieldsT P y.map = some [(y.int, 0), (y.int, 1), (y.ints, 2), (y.ints, 3), (y.ints, 4)]
  brd : fieldsT P y.brd = some [(y.rul, 0), (y.map, 7)]
  c : P.cellsOf y.int = 1 ∧ P.cellsOf y.bool = 1 ∧ P.cellsOf y.str = 1 ∧ P.cellsOf y.ints = 1 ∧ P.cellsOf y.ter = 5 ∧ P.cellsOf y.ters = 1 ∧ P.cellsOf y.knd = 6 ∧ P.cellsOf y.knds = 1 ∧ P.cellsOf y.rul = 7 ∧ P.cellsOf y.map = 5 ∧ P.cellsOf y.brd = 12

section
variable {H : Type} {enc : TypeId × Value → H} {P : Program} {w : World} {base : Nat} {sp : Nat → Bool} {held : Bool} {y : Tys} (Y : TyOk P y)
include Y

theorem reads_i64 {fuel : Nat} {cs : List Value} {x : DataW H × List MemPlace} (h : DataW.trod enc P w base sp held fuel y.int cs = some x) : ∃ n : Int, Reads w cs [cI n] ∧ i64 n := by
  obtain ⟨n, a, b⟩ := reads_int Y.int h
  exact ⟨n, a, i64_of b⟩

theorem reads_ter {fuel : Nat} {cs : List Value} {x : DataW H × List MemPlace} (h : DataW.trod enc P w base sp held fuel y.ter cs = some x) : ∃ t : Ter, Reads w cs t.cs ∧ t.Ok := by
  obtain ⟨hl, hf⟩ := reads_fields Y.ter h
  obtain ⟨c1, c2, c3, c4, c5, c6, c7, c8, c9, c10, c11⟩ := Y.c
  obtain ⟨_, _, h0⟩ := hf 0 _ rfl
  obtain ⟨_, _, h1⟩ := hf 1 _ rfl
  obtain ⟨_, _, h2⟩ := hf 2 _ rfl
  obtain ⟨_, _, h3⟩ := hf 3 _ rfl
  obtain ⟨_, _, h4⟩ := hf 4 _ rfl
  obtain ⟨name, r0, k0⟩ := reads_str Y.str h0
  obtain ⟨cost, r1, k1⟩ := reads_ints Y.ints Y.int c1 h1
  obtain ⟨shift, r2, k2⟩ := reads_i64 Y h2
  obtain ⟨height, r3, k3⟩ := reads_i64 Y h3
  obtain ⟨blocks, r4⟩ := reads_bool Y.bool h4
  simp only [c1, c2, c3, c4] at r0 r1 r2 r3 r4
  exact ⟨⟨name, cost, shift, height, blocks⟩, .field r0 rfl rfl (.field r1 rfl rfl (.field r2 rfl rfl (.field r3 rfl rfl (.field r4 rfl rfl (.last (by omega)))))), ⟨k0, k1, k2, k3⟩⟩
theorem reads_knd {fuel : Nat} {cs : List Value} {x : DataW H × List MemPlace} (h : DataW.trod enc P w base sp held fuel y.knd cs = some x) : ∃ t : Knd, Reads w cs t.cs ∧ t.Ok := by
  obtain ⟨hl, hf⟩ := reads_fields Y.knd h
  obtain ⟨c1, c2, c3, c4, c5, c6, c7, c8, c9, c10, c11⟩ := Y.c
  obtain ⟨_, _, h0⟩ := hf 0 _ rfl
  obtain ⟨_, _, h1⟩ := hf 1 _ rfl
  obtain ⟨_, _, h2⟩ := hf 2 _ rfl
  obtain ⟨_, _, h3⟩ := hf 3 _ rfl
  obtain ⟨_, _, h4⟩ := hf 4 _ rfl
  obtain ⟨_, _, h5⟩ := hf 5 _ rfl
  obtain ⟨name, r0, k0⟩ := reads_str Y.str h0
  obtain ⟨n1, r1, k1⟩ := reads_i64 Y h1
  obtain ⟨n2, r2, k2⟩ := reads_i64 Y h2
  obtain ⟨n3, r3, k3⟩ := reads_i64 Y h3
  obtain ⟨b, r4⟩ := reads_bool Y.bool h4
  obtain ⟨n5, r5, k5⟩ := reads_i64 Y h5
  simp only [c1, c2, c3, c4] at r0 r1 r2 r3 r4 r5
  exact ⟨⟨name, n1, n2, n3, b, n5⟩, .field r0 rfl rfl (.field r1 rfl rfl (.field r2 rfl rfl (.field r3 rfl rfl (.field r4 rfl rfl (.field r5 rfl rfl (.last (by omega))))))), ⟨k0, k1, k2, k3, k5⟩⟩
theorem reads_rul {fuel : Nat} {cs : List Value} {x : DataW H × List MemPlace} (h : DataW.trod enc P w base sp held fuel y.rul cs = some x) : ∃ t : Rul, Reads w cs t.cs ∧ t.Ok := by
  obtain ⟨hl, hf⟩ := reads_fields Y.rul h
  obtain ⟨c1, c2, c3, c4, c5, c6, c7, c8, c9, c10, c11⟩ := Y.c
  obtain ⟨_, _, h0⟩ := hf 0 _ rfl
  obtain ⟨_, _, h1⟩ := hf 1 _ rfl
  obtain ⟨_, _, h2⟩ := hf 2 _ rfl
  obtain ⟨_, _, h3⟩ := hf 3 _ rfl
  obtain ⟨_, _, h4⟩ := hf 4 _ rfl
  obtain ⟨_, _, h5⟩ := hf 5 _ rfl
  obtain ⟨_, _, h6⟩ := hf 6 _ rfl
  obtain ⟨l0, r0, k0, q0⟩ := reads_row Ter.cs Ter.d Ter.Ok Y.ters c5 (by omega) (fun _ => rfl) (fun fuel cs x hx => reads_ter Y hx) h0
  obtain ⟨l1, r1, k1, q1⟩ := reads_row Knd.cs Knd.d Knd.Ok Y.knds c7 (by omega) (fun _ => rfl) (fun fuel cs x hx => reads_knd Y hx) h1
  obtain ⟨n2, r2, k2⟩ := reads_i64 Y h2
  obtain ⟨n3, r3, k3⟩ := reads_i64 Y h3
  obtain ⟨n4, r4, k4⟩ := reads_i64 Y h4
  obtain ⟨n5, r5, k5⟩ := reads_i64 Y h5
  obtain ⟨n6, r6, k6⟩ := reads_i64 Y h6
  simp only [c1, c6, c8] at r0 r1 r2 r3 r4 r5 r6
  exact ⟨⟨l0, l1, n2, n3, n4, n5, n6⟩, .field r0 rfl rfl (.field r1 rfl rfl (.field r2 rfl rfl (.field r3 rfl rfl (.field r4 rfl rfl (.field r5 rfl rfl (.field r6 rfl rfl (.last (by omega)))))))), ⟨k0, q0, k1, q1, k2, k3, k4, k5, k6⟩⟩
theorem reads_map {fuel : Nat} {cs : List Value} {x : DataW H × List MemPlace} (h : DataW.trod enc P w base sp held fuel y.map cs = some x) : ∃ t : Map, Reads w cs t.cs ∧ t.Ok := by
  obtain ⟨hl, hf⟩ := reads_fields Y.map h
  obtain ⟨c1, c2, c3, c4, c5, c6, c7, c8, c9, c10, c11⟩ := Y.c
  obtain ⟨_, _, h0⟩ := hf 0 _ rfl
  obtain ⟨_, _, h1⟩ := hf 1 _ rfl
  obtain ⟨_, _, h2⟩ := hf 2 _ rfl
  obtain ⟨_, _, h3⟩ := hf 3 _ rfl
  obtain ⟨_, _, h4⟩ := hf 4 _ rfl
  obtain ⟨n0, r0, k0⟩ := reads_i64 Y h0
  obtain ⟨n1, r1, k1⟩ := reads_i64 Y h1
  obtain ⟨l2, r2, k2⟩ := reads_ints Y.ints Y.int c1 h2
  obtain ⟨l3, r3, k3⟩ := reads_ints Y.ints Y.int c1 h3
  obtain ⟨l4, r4, k4⟩ := reads_ints Y.ints Y.int c1 h4
  simp only [c1, c4] at r0 r1 r2 r3 r4
  exact ⟨⟨n0, n1, l2, l3, l4⟩, .field r0 rfl rfl (.field r1 rfl rfl (.field r2 rfl rfl (.field r3 rfl rfl (.field r4 rfl rfl (.last (by omega)))))), ⟨k0, k1, k2, k3, k4⟩⟩
theorem reads_brd {fuel : Nat} {cs : List Value} {x : DataW H × List MemPlace} (h : DataW.trod enc P w base sp held fuel y.brd cs = some x) : ∃ t : Brd, Reads w cs t.cs ∧ t.Ok := by
  obtain ⟨hl, hf⟩ := reads_fields Y.brd h
  obtain ⟨c1, c2, c3, c4, c5, c6, c7, c8, c9, c10, c11⟩ := Y.c
  obtain ⟨_, _, h0⟩ := hf 0 _ rfl
  obtain ⟨_, _, h1⟩ := hf 1 _ rfl
  obtain ⟨r, r0, k0⟩ := reads_rul Y h0
  obtain ⟨m, r1, k1⟩ := reads_map Y h1
  simp only [c9, c10] at r0 r1
  exact ⟨⟨r, m⟩, .field r0 rfl rfl (.field r1 rfl rfl (.last (by omega))), ⟨k0, k1⟩⟩

/-- a board, as a law is handed it -/
theorem arg_brd {r : Reach} {b0 : Nat} {v : Value} {d : DataW H} {ps : List MemPlace} (hu : ∃ fs, P.underlying y.brd = some (.struct fs)) (hval : Value.okWide P w r b0 y.brd v) (hd : DataW.Trod enc P w base sp held y.brd v d ps) :
    ∃ b : Brd, VRep w (fun b => b < w.heap.size) ⟨fun _ => 0, fun _ => ⟨none, 0, none, 0⟩, fun _ _ _ => ⟨none, 0, none, 0⟩⟩ [] [] v (.agg b.cs) ∧ b.Ok := by
  obtain ⟨fs, hu⟩ := hu
  obtain ⟨arr, rfl, _⟩ := WideShapes.okWide_struct hu hval
  obtain ⟨fuel, hf⟩ := hd
  obtain ⟨b, h1, h2⟩ := reads_brd Y hf
  refine ⟨b, ⟨arr, rfl, by simpa [Value.cells] using h1.1, fun j u hj => SRep.of_plain (h1.2 j u (by simpa [Value.cells] using hj)).1⟩, h2⟩
end
end Go.Proofs.YtjnpnpkjmlihdaaDoor.Ab
namespace Go.Proofs.YtjnpnpkjmlihdaaDoor.Ab
open Go Go.RowKit Go.ChangeShapes

def G00 : Gh := ⟨fun _ => 0, fun _ => ⟨none, 0, none, 0⟩, fun _ _ _ => ⟨none, 0, none, 0⟩⟩

/-- the call of a law that answers true -/
theorem Fun.calls {E : Env} {f : Nat} {args : List V} (hF : Fun E f args [] (.v (vB true)) [] []) {W : World} {vs : Array Value} (hl : vs.size = args.length)
    (hvs : ∀ (j : Nat) (v : Value), vs[j]? = some v → VRep W (fun b => b < W.heap.size) G00 [] [] v (nthV args j)) (hg : E.gok W (fun b => b < W.heap.size)) :
    Calls E.P f vs W fun e W' => e = .returned (.bool true) ∧ Below W.heap.size W W' := by
  refine (hF.2.2 W (fun b => b < W.heap.size) G00 vs (fun _ h => h) hg hl hvs (Objs.nil _ _ _ _ _)).mono ?_
  rintro e W' ⟨v, G', rfl, hr, _, _, hk⟩
  have := rep_bool (hr : TRep W _ G' [] _ v (.v (.one (.bool true))))
  subst this
  refine ⟨rfl, hk.os, hk.tape, hk.output, hk.size, fun k hk' => hk.block k hk' ?_⟩
  rintro ⟨p, hp, _⟩
  exact live_nil p hp

def dirL : List Int := [1, 0, 1, -1, 0, -1, -1, 0, -1, 1, 0, 1]
def dirs : Nat → Cell := fun j => .int .i64 (dirL.getD j 0)
def dirD : DataW Unit := .agg [.agg [.lit (.int .i64 1), .lit (.int .i64 0)], .agg [.lit (.int .i64 1), .lit (.int .i64 (-1))], .agg [.lit (.int .i64 0), .lit (.int .i64 (-1))], .agg [.lit (.int .i64 (-1)), .lit (.int .i64 0)], .agg [.lit (.int .i64 (-1)), .lit (.int .i64 1)], .agg [.lit (.int .i64 0), .lit (.int .i64 1)]]

section
variable {P : Program} {w : World} {base : Nat} {sp : Nat → Bool} {held : Bool} {enc : TypeId × Value → Unit}

theorem hex_at {tH tI : TypeId} (hH : fieldsT P tH = some [(tI, 0), (tI, 1)]) (hI : P.underlying tI = some (.int .i64)) (c1 : P.cellsOf tI = 1) (c2 : P.cellsOf tH = 2) {fuel : Nat} {cs : List Value} {x : DataW Unit × List MemPlace} {a b : Int}
    (h : DataW.trod enc P w base sp held fuel tH cs = some x) (hx : x.1 = .agg [.lit (.int .i64 a), .lit (.int .i64 b)]) : cs = [.int .i64 a, .int .i64 b] := by
  unfold fieldsT at hH
  split at hH
  case h_2 => cases hH
  rename_i fs hu
  obtain ⟨xs, n, _, rfl, hl, hlen, hf⟩ := DataW.trod_struct hu h
  have hfs : fs.toList.map (fun f => (f.type, f.offset)) = [(tI, 0), (tI, 1)] := Option.some.inj hH
  obtain ⟨f0, f1, hfl, e0, e1⟩ : ∃ f0 f1, fs.toList = [f0, f1] ∧ (f0.type, f0.offset) = (tI, 0) ∧ (f1.type, f1.offset) = (tI, 1) := by
    generalize fs.toList = l at hfs
    cases l with
    | nil => cases hfs
    | cons f0 l =>
      cases l with
      | nil => simp at hfs
      | cons f1 l =>
        cases l with
        | nil => simp only [List.map_cons, List.map_nil, List.cons.injEq, and_true] at hfs; exact ⟨f0, f1, rfl, hfs.1, hfs.2⟩
        | cons f2 l => simp at hfs
  have hfs2 : fs = #[f0, f1] := by apply Array.ext'; simpa using hfl
  subst hfs2
  have h0 := hf 0 f0 rfl
  have h1 := hf 1 f1 rfl
  simp only [Prod.mk.injEq] at e0 e1
  rw [e0.1, e0.2, c1] at h0
  rw [e1.1, e1.2, c1] at h1
  match xs, hlen, hx, h0, h1 with
  | [x0, x1], _, hx, h0, h1 =>
    obtain ⟨n0, a1, a2, _⟩ := DataW.trod_int hI (show DataW.trod _ _ _ _ _ _ _ _ _ = some x0 from h0)
    obtain ⟨n1, b1, b2, _⟩ := DataW.trod_int hI (show DataW.trod _ _ _ _ _ _ _ _ _ = some x1 from h1)
    subst a2; subst b2
    simp only [List.map_cons, List.map_nil, DataW.agg.injEq, List.cons.injEq, DataW.lit.injEq, Lit.int.injEq, true_and, and_true] at hx
    obtain ⟨rfl, rfl⟩ := hx
    rw [c2] at hl
    match cs, hl, a1, b1 with
    | [u, v], _, a1, b1 => simp at a1 b1; rw [a1, b1]

theorem dirs_at {tA tH tI : TypeId} (hA : P.underlying tA = some (.array 6 tH)) (hH : fieldsT P tH = some [(tI, 0), (tI, 1)]) (hI : P.underlying tI = some (.int .i64)) (c1 : P.cellsOf tI = 1) (c2 : P.cellsOf tH = 2) (c3 : P.cellsOf tA = 12)
    {fuel : Nat} {cs : List Value} {p : List MemPlace} (h : DataW.trod enc P w base sp held fuel tA cs = some (dirD, p)) : cs = dirL.map fun n => .int .i64 n := by
  obtain ⟨xs, m, _, hx, hl, hlen, hf⟩ := DataW.trod_array hA h
  rw [c3] at hl
  simp only [Prod.mk.injEq] at hx
  have hx1 := hx.1
  unfold dirD at hx1
  match xs, hlen, hx1, hf with
  | [x0, x1, x2, x3, x4, x5], _, hx1, hf =>
    simp only [List.map_cons, List.map_nil, DataW.agg.injEq, List.cons.injEq, and_true] at hx1
    obtain ⟨e0, e1, e2, e3, e4, e5⟩ := hx1
    have g0 := hex_at hH hI c1 c2 (hf 0 (by omega)) e0.symm
    have g1 := hex_at hH hI c1 c2 (hf 1 (by omega)) e1.symm
    have g2 := hex_at hH hI c1 c2 (hf 2 (by omega)) e2.symm
    have g3 := hex_at hH hI c1 c2 (hf 3 (by omega)) e3.symm
    have g4 := hex_at hH hI c1 c2 (hf 4 (by omega)) e4.symm
    have g5 := hex_at hH hI c1 c2 (hf 5 (by omega)) e5.symm
    simp only [c2] at g0 g1 g2 g3 g4 g5
    match cs, hl, g0, g1, g2, g3, g4, g5 with
    | [v0, v1, v2, v3, v4, v5, v6, v7, v8, v9, v10, v11], _, g0, g1, g2, g3, g4, g5 =>
      simp at g0 g1 g2 g3 g4 g5
      simp [dirL, g0, g1, g2, g3, g4, g5]
end

/-- what a seat knows of the variable `directions` -/
structure DirOk (P : Program) (n : String) (g tA tH tI : Nat) : Prop where
  named : P.globalNamed n = some g
  type : (P.globals[g]?).map (·.type) = some tA
  arr : P.underlying tA = some (.array 6 tH)
  hex : fieldsT P tH = some [(tI, 0), (tI, 1)]
  int : P.underlying tI = some (.int .i64)
  c : P.cellsOf tI = 1 ∧ P.cellsOf tH = 2 ∧ P.cellsOf tA = 12

theorem gok_dirs {P : Program} {n : String} {g tA tH tI : Nat} (D : DirOk P n g tA tH tI) {W : World} (h : laidMetH P [(n, dirD)] W) : (⟨P, [(g, (12, dirs))], []⟩ : Env).gok W (fun b => b < W.heap.size) := by
  rw [MakeChecks.laidMetH_plain _ _ _ (by kernel_rfl)] at h
  obtain ⟨ps, ⟨g0, t0, cs0, f0, p0, q0, hg0, ht0, hv0, hd0, _⟩, _, _⟩ := h
  obtain rfl := Option.some.inj (D.named.symm.trans hg0)
  obtain rfl := Option.some.inj (D.type.symm.trans ht0)
  have hcs := dirs_at D.arr D.hex D.int D.c.1 D.c.2.1 D.c.2.2 hd0
  refine ⟨?_, fun p hp => by cases hp⟩
  intro g' m get hk
  by_cases e : g = g'
  · subst e
    simp only [lk_cons, if_pos, Option.some.injEq, Prod.mk.injEq] at hk
    obtain ⟨rfl, rfl⟩ := hk
    have hcell : ∀ j, j < 12 → W.cell? ⟨g, 0 + j, none⟩ = some (.int .i64 (dirL.getD j 0)) := by
      intro j hj
      rw [Nat.zero_add, World.var?_cell hg0 hv0 j, ← Array.getElem?_toList, hcs]
      have : j < dirL.length := hj
      simp [this]
    refine .pro g 0 12 dirs (fun j => .int .i64 (dirL.getD j 0)) ?_ hcell (fun j _ => .int _ _)
    exact World.block_lt_of_cell? W _ (hcell 0 (by omega))
  · rw [lk_cons, if_neg e] at hk; cases hk

/-- the variable reads behind the call as it did -/
theorem vars_stay {H : Type} {enc : TypeId × Value → H} {P : Program} {n : String} {g tA : Nat} (hg : P.globalNamed n = some g) (ht : (P.globals[g]?).map (·.type) = some tA) (hl : laidOutB P = true) (hr : P.readableRec tA = true) (hrow : tA < P.types.size)
    {W W' : World} {gs : List (DataW H)} {q : List MemPlace} (h : DataW.TrodVars enc P W (fun _ => true) [n] gs q) (hb : Below W.heap.size W W') :
    ∃ d, gs = [d] ∧ ∃ q', DataW.TrodVars enc P W' (fun b => decide (b < W.heap.size)) [n] [d] q' := by
  have hlt := DataW.TrodVars.lt h
  obtain ⟨g', t, cs, fuel, d, p, rfl, h1, h2, h3, h4, rfl⟩ := trodVars_one h
  obtain rfl := Option.some.inj (hg.symm.trans h1)
  obtain rfl := Option.some.inj (ht.symm.trans h2)
  have hst : DataW.Trod enc P W' 0 (fun b => decide (b < W.heap.size)) true tA (.agg cs) d p :=
    Below.trod hl hr hrow (v := .agg cs) ⟨fuel, h4⟩ hb (fun x hx => hlt x (List.mem_append_right _ hx))
  obtain ⟨fuel', h5⟩ := hst
  have hgl : g < W.heap.size := by
    simp only [World.var?, h1, Option.bind_some] at h3
    split at h3
    · rename_i hh
      exact (Array.getElem?_eq_some_iff.1 hh).1
    · cases h3
  have hv' : W'.var? P n = some cs := by
    simp only [World.var?, h1, Option.bind_some] at h3 ⊢
    rw [hb.block g hgl]; exact h3
  exact ⟨d, rfl, _, trodVars_mk1 h1 h2 hv' h5⟩
end Go.Proofs.YtjnpnpkjmlihdaaDoor.Ab
namespace Go.Proofs.YtjnpnpkjmlihdaaDoor.Ab
open Go Go.RowKit

structure Unt where
  side : Int
  kind : Int
  at' : Int
  ste : Int
structure Stt where
  turn : Int
  wea : Int
  un : List Unt
abbrev Unt.cs (u : Unt) : List Cell := [cI u.side, cI u.kind, cI u.at', cI u.ste]
def Unt.d : Unt := ⟨0, 0, 0, 0⟩
abbrev roU (l : List Unt) : Cell := .ro 4 l.length fun i j => nth (l.getD i Unt.d).cs j
abbrev Stt.cs (s : Stt) : List Cell := [cI s.turn, cI s.wea, roU s.un]
structure Unt.Ok (u : Unt) : Prop where
  side : i64 u.side
  kind : i64 u.kind
  at' : i64 u.at'
  ste : i64 u.ste
structure Stt.Ok (s : Stt) : Prop where
  turn : i64 s.turn
  wea : i64 s.wea
  lun : s.un.length ≤ maxLen
  un : ∀ u ∈ s.un, u.Ok

structure TysS where
  int : Nat
  unt : Nat
  unts : Nat
  stt : Nat
structure TySOk (P : Program) (y : TysS) : Prop where
  int : P.underlying y.int = some (.int .i64)
  unts : P.underlying y.unts = some (.slice y.unt)
  unt : fieldsT P y.unt = some [(y.int, 0), (y.int, 1), (y.int, 2), (y.int, 3)]
  stt : fieldsT P y.stt = some [(y.int, 0), (y.int, 1), (y.unts, 2)]
  c : P.cellsOf y.int = 1 ∧ P.cellsOf y.unts = 1 ∧ P.cellsOf y.unt = 4 ∧ P.cellsOf y.stt = 3

section
variable {H : Type} {enc : TypeId × Value → H} {P : Program} {w : World} {base : Nat} {sp : Nat → Bool} {held : Bool}

theorem reads_unt {y : TysS} (Y : TySOk P y) {fuel : Nat} {cs : List Value} {x : DataW H × List MemPlace} (h : DataW.trod enc P w base sp held fuel y.unt cs = some x) : ∃ t : Unt, Reads w cs t.cs ∧ t.Ok := by
  obtain ⟨hl, hf⟩ := reads_fields Y.unt h
  obtain ⟨c1, c2, c3, c4⟩ := Y.c
  obtain ⟨_, _, h0⟩ := hf 0 _ rfl
  obtain ⟨_, _, h1⟩ := hf 1 _ rfl
  obtain ⟨_, _, h2⟩ := hf 2 _ rfl
  obtain ⟨_, _, h3⟩ := hf 3 _ rfl
  obtain ⟨n0, r0, k0⟩ := reads_int Y.int h0
  obtain ⟨n1, r1, k1⟩ := reads_int Y.int h1
  obtain ⟨n2, r2, k2⟩ := reads_int Y.int h2
  obtain ⟨n3, r3, k3⟩ := reads_int Y.int h3
  simp only [c1] at r0 r1 r2 r3
  exact ⟨⟨n0, n1, n2, n3⟩, .field r0 rfl rfl (.field r1 rfl rfl (.field r2 rfl rfl (.field r3 rfl rfl (.last (by omega))))), ⟨i64_of k0, i64_of k1, i64_of k2, i64_of k3⟩⟩
theorem reads_stt {y : TysS} (Y : TySOk P y) {fuel : Nat} {cs : List Value} {x : DataW H × List MemPlace} (h : DataW.trod enc P w base sp held fuel y.stt cs = some x) : ∃ t : Stt, Reads w cs t.cs ∧ t.Ok := by
  obtain ⟨hl, hf⟩ := reads_fields Y.stt h
  obtain ⟨c1, c2, c3, c4⟩ := Y.c
  obtain ⟨_, _, h0⟩ := hf 0 _ rfl
  obtain ⟨_, _, h1⟩ := hf 1 _ rfl
  obtain ⟨_, _, h2⟩ := hf 2 _ rfl
  obtain ⟨n0, r0, k0⟩ := reads_int Y.int h0
  obtain ⟨n1, r1, k1⟩ := reads_int Y.int h1
  obtain ⟨l2, r2, k2, q2⟩ := reads_row Unt.cs Unt.d Unt.Ok Y.unts c3 (by omega) (fun _ => rfl) (fun fuel cs x hx => reads_unt Y hx) h2
  simp only [c1, c2] at r0 r1 r2
  exact ⟨⟨n0, n1, l2⟩, .field r0 rfl rfl (.field r1 rfl rfl (.field r2 rfl rfl (.last (by omega)))), ⟨i64_of k0, i64_of k1, k2, q2⟩⟩

/-- how an argument reads -/
abbrev AR (w : World) (v : Value) (x : V) : Prop := VRep w (fun b => b < w.heap.size) G00 [] [] v x

theorem arg_agg {t : TypeId} {cs : List Cell} {r : Reach} {b0 : Nat} {v : Value} (hu : ∃ fs, P.underlying t = some (.struct fs)) (hval : Value.okWide P w r b0 t v) (h : ∀ arr, v = .agg arr → Reads w v.cells.toList cs) : AR w v (.agg cs) := by
  obtain ⟨fs, hu⟩ := hu
  obtain ⟨arr, rfl, _⟩ := WideShapes.okWide_struct hu hval
  obtain ⟨h1, h2⟩ := h arr rfl
  exact ⟨arr, rfl, by simpa [Value.cells] using h1, fun j u hj => SRep.of_plain (h2 j u (by simpa [Value.cells] using hj)).1⟩
theorem arg_stt {y : TysS} (Y : TySOk P y) {r : Reach} {b0 : Nat} {v : Value} {d : DataW H} {ps : List MemPlace} (hu : ∃ fs, P.underlying y.stt = some (.struct fs)) (hval : Value.okWide P w r b0 y.stt v) (hd : DataW.Trod enc P w base sp held y.stt v d ps) :
    ∃ s : Stt, AR w v (.agg s.cs) ∧ s.Ok := by
  obtain ⟨fs, hu⟩ := hu
  obtain ⟨arr, rfl, _⟩ := WideShapes.okWide_struct hu hval
  obtain ⟨fuel, hf⟩ := hd
  obtain ⟨s, h1, h2⟩ := reads_stt Y hf
  exact ⟨s, ⟨arr, rfl, by simpa [Value.cells] using h1.1, fun j u hj => SRep.of_plain (h1.2 j u (by simpa [Value.cells] using hj)).1⟩, h2⟩
theorem arg_i64 {t : TypeId} (ht : P.underlying t = some (.int .i64)) {r : Reach} {b0 : Nat} {v : Value} {d : DataW H} {ps : List MemPlace} (hval : Value.okWide P w r b0 t v) (hd : DataW.Trod enc P w base sp held t v d ps) :
    ∃ n : Int, AR w v (vI n) ∧ i64 n := by
  obtain ⟨n, rfl⟩ := WideShapes.okWide_int ht hval
  obtain ⟨fuel, hf⟩ := hd
  obtain ⟨n', h, _, hw⟩ := DataW.trod_int ht hf
  simp [Value.cells] at h
  subst h
  exact ⟨n, CRep.int _ _, i64_of hw⟩
theorem arg_bool {t : TypeId} (ht : P.underlying t = some .bool) {r : Reach} {b0 : Nat} {v : Value} {d : DataW H} {ps : List MemPlace} (hval : Value.okWide P w r b0 t v) (hd : DataW.Trod enc P w base sp held t v d ps) :
    ∃ b : Bool, AR w v (vB b) ∧ True := by
  obtain ⟨b, rfl⟩ := WideShapes.okWide_bool ht hval
  exact ⟨b, CRep.bool _, trivial⟩
theorem arg_str {t : TypeId} (ht : P.underlying t = some .string) {r : Reach} {b0 : Nat} {v : Value} {d : DataW H} {ps : List MemPlace} (hval : Value.okWide P w r b0 t v) (hd : DataW.Trod enc P w base sp held t v d ps) :
    ∃ s : ByteArray, AR w v (vS s) ∧ s.size ≤ maxLen := by
  obtain ⟨s, rfl⟩ := WideShapes.okWide_string ht hval
  obtain ⟨fuel, hf⟩ := hd
  obtain ⟨s', h, _, hw⟩ := DataW.trod_string ht hf
  simp [Value.cells] at h
  subst h
  exact ⟨s, CRep.str _, hw⟩
theorem arg_ints {t tI : TypeId} (ht : P.underlying t = some (.slice tI)) (hI : P.underlying tI = some (.int .i64)) (c1 : P.cellsOf tI = 1) {r : Reach} {b0 : Nat} {v : Value} {d : DataW H} {ps : List MemPlace} (hval : Value.okWide P w r b0 t v) (hd : DataW.Trod enc P w base sp held t v d ps) :
    ∃ l : List Int, AR w v (.one (roI l)) ∧ okL l := by
  obtain ⟨a, len, cap, rfl⟩ := WideShapes.okWide_slice ht hval
  obtain ⟨fuel, hf⟩ := hd
  obtain ⟨l, h1, h2⟩ := reads_ints ht hI c1 hf
  have h3 : CRep w (fun b => b < w.heap.size) (.slice a len cap) (roI l) := (h1.2 0 _ (by simp [Value.cells])).1
  exact ⟨l, h3, h2⟩
end
end Go.Proofs.YtjnpnpkjmlihdaaDoor.Ab
namespace Go.Proofs.YtjnpnpkjmlihdaaDoor.Ab
open Go

/-- the labels of the ways from a place: a step makes label c into f c w -/
inductive Pth (f : Int → Int → Int) (e : Int → Int → Int → Prop) (s0 i : Int) : Int → Int → Prop
  | nil : Pth f e s0 i i s0
  | step {j k c w : Int} : Pth f e s0 i j c → e j k w → Pth f e s0 i k (f c w)

/-- a list of the least labels, -1 where no way leads -/
structure Dst (N : Nat) (f : Int → Int → Int) (e : Int → Int → Int → Prop) (s0 i : Int) (L : List Int) : Prop where
  len : L.length = N
  low : ∀ j : Nat, j < N → -1 ≤ L.getD j 0
  snd : ∀ j : Nat, j < N → 0 ≤ L.getD j 0 → Pth f e s0 i j (L.getD j 0)
  lst : ∀ (j : Nat) (c : Int), j < N → Pth f e s0 i j c → 0 ≤ L.getD j 0 ∧ L.getD j 0 ≤ c

theorem list_ext_getD {L L' : List Int} (hl : L.length = L'.length) (h : ∀ j, j < L.length → L.getD j 0 = L'.getD j 0) : L = L' := by
  apply List.ext_getElem hl
  intro j h1 h2
  have := h j h1
  simpa [List.getD_eq_getElem?_getD, h1, h2] using this

section
variable {N : Nat} {f : Int → Int → Int} {e : Int → Int → Int → Prop} {s0 i : Int} {L L' : List Int}

theorem Dst.uniq (h : Dst N f e s0 i L) (h' : Dst N f e s0 i L') : L = L' := by
  refine list_ext_getD (by rw [h.len, h'.len]) fun j hj => ?_
  have hj : j < N := by have := h.len; omega
  have a1 := h.low j hj
  have a2 := h'.low j hj
  by_cases e1 : 0 ≤ L.getD j 0
  · have b1 := h'.lst j _ hj (h.snd j hj e1)
    have b2 := h.lst j _ hj (h'.snd j hj b1.1)
    omega
  · by_cases e2 : 0 ≤ L'.getD j 0
    · have b1 := h.lst j _ hj (h'.snd j hj e2)
      omega
    · omega
open Classical in
/-- the list of the least labels -/
noncomputable def dstL (N : Nat) (f : Int → Int → Int) (e : Int → Int → Int → Prop) (s0 i : Int) : List Int := if h : ∃ L, Dst N f e s0 i L then h.choose else []
theorem Dst.eq (h : Dst N f e s0 i L) : L = dstL N f e s0 i := by
  have h2 : ∃ L, Dst N f e s0 i L := ⟨L, h⟩
  rw [dstL, dif_pos h2]
  exact h.uniq h2.choose_spec
theorem Dst.self (h : Dst N f e s0 i L) : Dst N f e s0 i (dstL N f e s0 i) := h.eq ▸ h

/-- the steps' costs are small; labels grow, not too much -/
structure EOk (N : Nat) (f : Int → Int → Int) (e : Int → Int → Int → Prop) (B : Int) : Prop where
  b0 : 0 ≤ B
  ed : ∀ j k w, e j k w → (0 ≤ j ∧ j < N) ∧ (0 ≤ k ∧ k < N)
  mono : ∀ j k w c c', e j k w → 0 ≤ c → c ≤ c' → f c w ≤ f c' w
  infl : ∀ j k w c, e j k w → 0 ≤ c → c < f c w ∧ f c w ≤ c + B

def reached (x : Int) : Bool := decide (0 ≤ x)
def cntR (L : List Int) : Nat := L.countP reached
/-- how much can be lowered -/
def mu (M : Nat) : List Int → Nat
  | [] => 0
  | x :: l => (if x < 0 then M else x.toNat) + mu M l
theorem mu_set (M : Nat) (L : List Int) (k : Nat) (x : Int) (hk : k < L.length) : mu M (L.set k x) + (if L.getD k 0 < 0 then M else (L.getD k 0).toNat) = mu M L + (if x < 0 then M else x.toNat) := by
  induction L generalizing k with
  | nil => simp at hk
  | cons y l ih =>
    cases k with
    | zero => simp [mu]; omega
    | succ k =>
      have := ih k (by simpa using hk)
      simp only [List.set_cons_succ, mu, List.getD_cons_succ]
      omega
theorem getD_set (L : List Int) (k : Nat) (x : Int) (j : Nat) (hk : k < L.length) : (L.set k x).getD j 0 = if j = k then x else L.getD j 0 := by
  rw [List.getD_eq_getElem?_getD, List.getD_eq_getElem?_getD, List.getElem?_set]
  by_cases h : k = j
  · subst h; simp [hk]
  · rw [if_neg h, if_neg (fun h' => h h'.symm)]
theorem cntR_set (L : List Int) (k : Nat) (x : Int) (hk : k < L.length) (hx : 0 ≤ x) : cntR (L.set k x) = cntR L + (if L.getD k 0 < 0 then 1 else 0) := by
  have hg : L[k] = L.getD k 0 := by simp [List.getD_eq_getElem?_getD, hk]
  unfold cntR
  induction L generalizing k with
  | nil => simp at hk
  | cons y l ih =>
    cases k with
    | zero =>
      simp only [List.set_cons_zero, List.countP_cons, List.getD_cons_zero]
      have h1 : reached x = true := by simp [reached, hx]
      rw [h1]
      by_cases hy : y < 0
      · have : reached y = false := by simp [reached]; omega
        rw [this]; simp [hy]
      · have : reached y = true := by simp [reached]; omega
        rw [this]; simp [hy]
    | succ k =>
      have := ih k (by simpa using hk) (by simpa using hg)
      simp only [List.set_cons_succ, List.countP_cons, List.getD_cons_succ]
      omega
theorem cntR_le (L : List Int) : cntR L ≤ L.length := List.countP_le_length

/-- labels that are found so far -/
structure Rlx (N : Nat) (f : Int → Int → Int) (e : Int → Int → Int → Prop) (s0 B i : Int) (L : List Int) : Prop where
  len : L.length = N
  low : ∀ j : Nat, j < N → -1 ≤ L.getD j 0
  snd : ∀ j : Nat, j < N → 0 ≤ L.getD j 0 → Pth f e s0 i j (L.getD j 0)
  at0 : L.getD i.toNat 0 = s0
  cap : ∀ j : Nat, j < N → L.getD j 0 ≤ s0 + B * (cntR L : Int)

def okE (f : Int → Int → Int) (L : List Int) (j k w : Int) : Prop := 0 ≤ L.getD j.toNat 0 → 0 ≤ L.getD k.toNat 0 ∧ L.getD k.toNat 0 ≤ f (L.getD j.toNat 0) w

theorem Rlx.bound {B : Int} (h : Rlx N f e s0 B i L) (hB : 0 ≤ B) (j : Nat) (hj : j < N) : L.getD j 0 ≤ s0 + B * N := by
  have h1 := h.cap j hj
  have h2 := cntR_le L
  rw [h.len] at h2
  have : B * (cntR L : Int) ≤ B * N := Int.mul_le_mul_of_nonneg_left (by omega) hB
  omega
theorem Pth.pos {B : Int} (he : EOk N f e B) (hs : 0 ≤ s0) {j c : Int} (h : Pth f e s0 i j c) : s0 ≤ c := by
  induction h with
  | nil => exact Int.le_refl _
  | step h1 h2 ih => have := (he.infl _ _ _ _ h2 (Int.le_trans hs ih)).1; omega
theorem Pth.at' {B : Int} (he : EOk N f e B) (hi : 0 ≤ i ∧ i < N) {j c : Int} (h : Pth f e s0 i j c) : 0 ≤ j ∧ j < N := by
  cases h with
  | nil => exact hi
  | step h1 h2 => exact (he.ed _ _ _ h2).2
theorem Rlx.done {B : Int} (h : Rlx N f e s0 B i L) (he : EOk N f e B) (hs : 0 ≤ s0) (hi : 0 ≤ i ∧ i < N) (hc : ∀ j k w, e j k w → okE f L j k w) : Dst N f e s0 i L := by
  refine ⟨h.len, h.low, h.snd, fun j c hj hp => ?_⟩
  have key : ∀ j' c, Pth f e s0 i j' c → 0 ≤ L.getD j'.toNat 0 ∧ L.getD j'.toNat 0 ≤ c := by
    intro j' c hp
    induction hp with
    | nil => rw [h.at0]; exact ⟨hs, Int.le_refl _⟩
    | step h1 h2 ih =>
      obtain ⟨b1, b2⟩ := hc _ _ _ h2 ih.1
      exact ⟨b1, Int.le_trans b2 (he.mono _ _ _ _ _ h2 ih.1 ih.2)⟩
  exact key j c hp
theorem Rlx.upd {B : Int} (h : Rlx N f e s0 B i L) (he : EOk N f e B) (hs : 0 ≤ s0) (hi : 0 ≤ i ∧ i < N) (M : Nat) (hM : s0 + B * (N : Int) + B < M) {j k w : Int} (hjk : e j k w) (hj : 0 ≤ L.getD j.toNat 0) (hk : L.getD k.toNat 0 < 0 ∨ f (L.getD j.toNat 0) w < L.getD k.toNat 0) :
    Rlx N f e s0 B i (L.set k.toNat (f (L.getD j.toNat 0) w)) ∧ mu M (L.set k.toNat (f (L.getD j.toNat 0) w)) < mu M L := by
  obtain ⟨⟨j0, j1⟩, k0, k1⟩ := he.ed _ _ _ hjk
  obtain ⟨f1, f2⟩ := he.infl _ _ _ _ hjk hj
  have hkl : k.toNat < L.length := by rw [h.len]; omega
  have hpj := h.snd j.toNat (by omega) hj
  rw [show ((j.toNat : Nat) : Int) = j by omega] at hpj
  have hs0 := Pth.pos he hs hpj
  have hcnt := cntR_set L k.toNat (f (L.getD j.toNat 0) w) hkl (by omega)
  have hcap := h.cap j.toNat (by omega)
  have hbd := h.bound he.b0 j.toNat (by omega)
  have hm := mu_set M L k.toNat (f (L.getD j.toNat 0) w) hkl
  constructor
  · refine ⟨by rw [List.length_set]; exact h.len, fun x hx => ?_, fun x hx hx0 => ?_, ?_, fun x hx => ?_⟩
    · rw [getD_set _ _ _ _ hkl]
      split
      · omega
      · exact h.low x hx
    · rw [getD_set _ _ _ _ hkl] at hx0 ⊢
      split
      · rename_i e1
        rw [show (x : Int) = k by omega]
        exact .step hpj hjk
      · rename_i e1
        rw [if_neg e1] at hx0
        exact h.snd x hx hx0
    · rw [getD_set _ _ _ _ hkl]
      split
      · rename_i e1
        have h0 := h.at0
        rw [e1] at h0
        omega
      · exact h.at0
    · rw [hcnt]
      have hc1 : B * (cntR L : Int) ≤ B * ((cntR L + (if L.getD k.toNat 0 < 0 then 1 else 0) : Nat) : Int) := Int.mul_le_mul_of_nonneg_left (by omega) he.b0
      rw [getD_set _ _ _ _ hkl]
      split
      · by_cases e2 : L.getD k.toNat 0 < 0
        · rw [if_pos e2]
          rw [Int.natCast_add, Int.mul_add]
          have : B * ((1 : Nat) : Int) = B := by simp
          omega
        · have := h.cap k.toNat (by omega)
          omega
      · have := h.cap x hx
        omega
  · by_cases e2 : L.getD k.toNat 0 < 0
    · rw [if_pos e2, if_neg (by omega)] at hm
      omega
    · rw [if_neg e2, if_neg (by omega)] at hm
      omega

/-- the list at the begin -/
theorem Rlx.init {B : Int} (hB : 0 ≤ B) (hs : 0 ≤ s0) (hi : 0 ≤ i ∧ i < N) : Rlx N f e s0 B i ((List.replicate N (-1)).set i.toNat s0) := by
  have hl : i.toNat < (List.replicate N (-1 : Int)).length := by rw [List.length_replicate]; omega
  have hg : ∀ j : Nat, j < N → ((List.replicate N (-1 : Int)).set i.toNat s0).getD j 0 = if j = i.toNat then s0 else -1 := by
    intro j hj
    rw [getD_set _ _ _ _ hl]
    split
    · rfl
    · simp [List.getD_eq_getElem?_getD, hj]
  refine ⟨by simp, fun j hj => ?_, fun j hj h => ?_, ?_, fun j hj => ?_⟩
  · rw [hg j hj]; split <;> omega
  · rw [hg j hj] at h ⊢
    split
    · rename_i e1; rw [show (j : Int) = i by omega]; exact .nil
    · rename_i e1; rw [if_neg e1] at h; omega
  · rw [hg _ (by omega), if_pos rfl]
  · rw [hg j hj]
    have : 0 ≤ B * (cntR ((List.replicate N (-1 : Int)).set i.toNat s0) : Int) := Int.mul_nonneg hB (by omega)
    split <;> omega
theorem Rlx.exists {B : Int} (he : EOk N f e B) (hs : 0 ≤ s0) (hi : 0 ≤ i ∧ i < N) (M : Nat) (hM : s0 + B * (N : Int) + B < M) : ∀ (m : Nat) (L : List Int), mu M L ≤ m → Rlx N f e s0 B i L → ∃ L', Dst N f e s0 i L' ∧ Rlx N f e s0 B i L'
  | m, L, hm, h => by
    by_cases hc : ∀ j k w, e j k w → okE f L j k w
    · exact ⟨L, h.done he hs hi hc, h⟩
    · simp only [Classical.not_forall] at hc
      obtain ⟨j, k, w, hg, hn⟩ := hc
      have hn' : 0 ≤ L.getD j.toNat 0 ∧ (L.getD k.toNat 0 < 0 ∨ f (L.getD j.toNat 0) w < L.getD k.toNat 0) := by
        unfold okE at hn
        omega
      obtain ⟨a, b⟩ := h.upd he hs hi M hM hg hn'.1 hn'.2
      cases m with
      | zero => omega
      | succ m => exact Rlx.exists he hs hi M hM m _ (by omega) a
theorem dst_both {B : Int} (he : EOk N f e B) (hs : 0 ≤ s0) (hi : 0 ≤ i ∧ i < N) : ∃ L', Dst N f e s0 i L' ∧ Rlx N f e s0 B i L' := by
  have h0 : 0 ≤ B * (N : Int) := Int.mul_nonneg he.b0 (by omega)
  have hb := he.b0
  exact Rlx.exists he hs hi (s0 + B * (N : Int) + B + 1).toNat (by omega) _ _ (Nat.le_refl _) (Rlx.init he.b0 hs hi)
theorem dstL_ok {B : Int} (he : EOk N f e B) (hs : 0 ≤ s0) (hi : 0 ≤ i ∧ i < N) : Dst N f e s0 i (dstL N f e s0 i) := by
  obtain ⟨L, h, _⟩ := dst_both he hs hi
  exact h.self
theorem dstL_le {B : Int} (he : EOk N f e B) (hs : 0 ≤ s0) (hi : 0 ≤ i ∧ i < N) (j : Nat) (hj : j < N) : (dstL N f e s0 i).getD j 0 ≤ s0 + B * N := by
  obtain ⟨L, h, h2⟩ := dst_both he hs hi
  rw [← h.eq]
  exact h2.bound he.b0 j hj

/-! ### sweeps -/
/-- the step out of place x, direction d, as an edge -/
def Gn (cost next : Int → Int → Int) (P : Int → Int → Bool) (back : Bool) (x d j k w : Int) : Prop :=
  (cost x d ≠ 0 ∧ P (next x d) (cost x d) = true) ∧ w = cost x d ∧ j = (if back = true then next x d else x) ∧ k = (if back = true then x else next x d)
def Eg (N : Nat) (cost next : Int → Int → Int) (P : Int → Int → Bool) (back : Bool) (j k w : Int) : Prop :=
  ∃ x d : Int, (0 ≤ x ∧ x < (N : Int)) ∧ (0 ≤ d ∧ d ≤ 5) ∧ Gn cost next P back x d j k w
end
section
variable {N : Nat} {f : Int → Int → Int} {cost next : Int → Int → Int} {P : Int → Int → Bool} {back : Bool} {s0 B i : Int} {M : Nat}

/-- a sweep over all steps, before place x, direction d -/
structure Swp (N : Nat) (f : Int → Int → Int) (cost next : Int → Int → Int) (P : Int → Int → Bool) (back : Bool) (s0 B i : Int) (M : Nat) (L0 : List Int) (x d : Int) (L : List Int) (ch : Bool) : Prop where
  r : Rlx N f (Eg N cost next P back) s0 B i L
  le : mu M L ≤ mu M L0
  lt : ch = true → mu M L < mu M L0
  eq : ch = false → L = L0 ∧ ∀ x' d', 0 ≤ x' → 0 ≤ d' → d' ≤ 5 → (x' < x ∨ x' = x ∧ d' < d) → ∀ j k w, Gn cost next P back x' d' j k w → okE f L j k w
variable {L0 L : List Int} {x d : Int} {ch : Bool}
theorem Swp.init (h : Rlx N f (Eg N cost next P back) s0 B i L) : Swp N f cost next P back s0 B i M L 0 0 L false :=
  ⟨h, Nat.le_refl _, fun h => (by cases h), fun _ => ⟨rfl, fun x' d' h1 h2 h3 h4 => by omega⟩⟩
theorem Swp.skip (h : Swp N f cost next P back s0 B i M L0 x d L ch) (hn : cost x d = 0 ∨ P (next x d) (cost x d) = false) : Swp N f cost next P back s0 B i M L0 x (d + 1) L ch := by
  refine ⟨h.r, h.le, h.lt, fun hc => ⟨(h.eq hc).1, fun x' d' h1 h2 h3 h4 j k w hg => ?_⟩⟩
  by_cases e : x' = x ∧ d' = d
  · obtain ⟨rfl, rfl⟩ := e
    rcases hn with hn | hn
    · exact absurd hn hg.1.1
    · have := hg.1.2; rw [hn] at this; cases this
  · exact (h.eq hc).2 x' d' h1 h2 h3 (by omega) j k w hg
theorem Swp.no (h : Swp N f cost next P back s0 B i M L0 x d L ch) (hn : okE f L (if back = true then next x d else x) (if back = true then x else next x d) (cost x d)) : Swp N f cost next P back s0 B i M L0 x (d + 1) L ch := by
  refine ⟨h.r, h.le, h.lt, fun hc => ⟨(h.eq hc).1, fun x' d' h1 h2 h3 h4 j k w hg => ?_⟩⟩
  by_cases e : x' = x ∧ d' = d
  · obtain ⟨rfl, rfl⟩ := e
    obtain ⟨_, rfl, rfl, rfl⟩ := hg
    exact hn
  · exact (h.eq hc).2 x' d' h1 h2 h3 (by omega) j k w hg
theorem Swp.yes (h : Swp N f cost next P back s0 B i M L0 x d L ch) (he : EOk N f (Eg N cost next P back) B) (hs : 0 ≤ s0) (hi : 0 ≤ i ∧ i < N) (hM : s0 + B * (N : Int) + B < M) (hx : 0 ≤ x ∧ x < N) (hd : 0 ≤ d ∧ d ≤ 5) (hc : cost x d ≠ 0) (hP : P (next x d) (cost x d) = true) {j k : Int}
    (hj : j = (if back = true then next x d else x)) (hk : k = (if back = true then x else next x d))
    (h1 : 0 ≤ L.getD j.toNat 0) (h2 : L.getD k.toNat 0 < 0 ∨ f (L.getD j.toNat 0) (cost x d) < L.getD k.toNat 0) : Swp N f cost next P back s0 B i M L0 x (d + 1) (L.set k.toNat (f (L.getD j.toNat 0) (cost x d))) true := by
  have hg : Eg N cost next P back j k (cost x d) := ⟨x, d, hx, hd, ⟨hc, hP⟩, rfl, hj, hk⟩
  obtain ⟨a, b⟩ := h.r.upd he hs hi M hM hg h1 h2
  have := h.le
  exact ⟨a, by omega, fun _ => by omega, fun h => (by cases h)⟩
theorem Swp.nxt (h : Swp N f cost next P back s0 B i M L0 x 6 L ch) : Swp N f cost next P back s0 B i M L0 (x + 1) 0 L ch :=
  ⟨h.r, h.le, h.lt, fun hc => ⟨(h.eq hc).1, fun x' d' h1 h2 h3 h4 => (h.eq hc).2 x' d' h1 h2 h3 (by omega)⟩⟩
theorem Swp.fin {x : Int} (h : Swp N f cost next P back s0 B i M L0 x 0 L false) (hx : x = N) (he : EOk N f (Eg N cost next P back) B) (hs : 0 ≤ s0) (hi : 0 ≤ i ∧ i < N) : Dst N f (Eg N cost next P back) s0 i L := by
  refine h.r.done he hs hi fun j k w hg => ?_
  obtain ⟨x', d', h1, h2, h3⟩ := hg
  exact (h.eq rfl).2 x' d' h1.1 h2.1 h2.2 (by omega) j k w h3

/-! ### the nearest place first -/
structure Djk (N : Nat) (f : Int → Int → Int) (cost next : Int → Int → Int) (P : Int → Int → Bool) (s0 B i : Int) (L : List Int) (D : List Bool) : Prop where
  r : Rlx N f (Eg N cost next P false) s0 B i L
  len : D.length = N
  dn : ∀ j : Nat, j < N → D.getD j false = true → 0 ≤ L.getD j 0
  ord : ∀ j k : Nat, j < N → k < N → D.getD j false = true → D.getD k false = false → 0 ≤ L.getD k 0 → L.getD j 0 ≤ L.getD k 0
  cl : ∀ j k w, Eg N cost next P false j k w → D.getD j.toNat false = true → okE f L j k w
/-- while the steps out of b are looked at -/
structure Djb (N : Nat) (f : Int → Int → Int) (cost next : Int → Int → Int) (P : Int → Int → Bool) (s0 B i : Int) (b d : Int) (L : List Int) (D : List Bool) : Prop where
  r : Rlx N f (Eg N cost next P false) s0 B i L
  len : D.length = N
  hb : 0 ≤ b ∧ b < N
  db : D.getD b.toNat false = true
  dn : ∀ j : Nat, j < N → D.getD j false = true → 0 ≤ L.getD j 0 ∧ L.getD j 0 ≤ L.getD b.toNat 0
  un : ∀ k : Nat, k < N → D.getD k false = false → 0 ≤ L.getD k 0 → L.getD b.toNat 0 ≤ L.getD k 0
  cl : ∀ j k w, Eg N cost next P false j k w → D.getD j.toNat false = true → j ≠ b → okE f L j k w
  cb : ∀ d', 0 ≤ d' → d' < d → ∀ j k w, Gn cost next P false b d' j k w → okE f L j k w
def cntF (D : List Bool) : Nat := D.countP fun x => !x
theorem cntF_set (D : List Bool) (k : Nat) (hk : k < D.length) (h : D.getD k false = false) : cntF (D.set k true) + 1 = cntF D := by
  unfold cntF
  induction D generalizing k with
  | nil => simp at hk
  | cons y l ih =>
    cases k with
    | zero => simp at h; subst h; simp
    | succ k =>
      have := ih k (by simpa using hk) (by simpa using h)
      simp only [List.set_cons_succ, List.countP_cons]
      omega
theorem getD_setB (L : List Bool) (k : Nat) (x : Bool) (j : Nat) (hk : k < L.length) : (L.set k x).getD j false = if j = k then x else L.getD j false := by
  rw [List.getD_eq_getElem?_getD, List.getD_eq_getElem?_getD, List.getElem?_set]
  by_cases h : k = j
  · subst h; simp [hk]
  · rw [if_neg h, if_neg (fun h' => h h'.symm)]
variable {D : List Bool} {b : Int}
theorem Djk.init (h : Rlx N f (Eg N cost next P false) s0 B i L) : Djk N f cost next P s0 B i L (List.replicate N false) := by
  have hg : ∀ j : Nat, (List.replicate N false).getD j false = false := by
    intro j
    rw [List.getD_eq_getElem?_getD, List.getElem?_replicate]
    split <;> rfl
  exact ⟨h, by simp, fun j hj hh => by rw [hg] at hh; (cases hh), fun j k hj hk hh => by rw [hg] at hh; (cases hh), fun j k w _ hh => by rw [hg] at hh; (cases hh)⟩
theorem Djk.pick (h : Djk N f cost next P s0 B i L D) (hb : 0 ≤ b ∧ b < N) (h1 : D.getD b.toNat false = false) (h2 : 0 ≤ L.getD b.toNat 0)
    (h3 : ∀ k : Nat, k < N → D.getD k false = false → 0 ≤ L.getD k 0 → L.getD b.toNat 0 ≤ L.getD k 0) : Djb N f cost next P s0 B i b 0 L (D.set b.toNat true) := by
  have hl : b.toNat < D.length := by rw [h.len]; omega
  refine ⟨h.r, by rw [List.length_set]; exact h.len, hb, ?_, fun j hj hd => ?_, fun k hk hd hp => ?_, fun j k w he hd hne => ?_, fun d' _ _ => by omega⟩
  · rw [getD_setB _ _ _ _ hl, if_pos rfl]
  · rw [getD_setB _ _ _ _ hl] at hd
    by_cases e : j = b.toNat
    · subst e; exact ⟨h2, Int.le_refl _⟩
    · rw [if_neg e] at hd
      exact ⟨h.dn j hj hd, h.ord j b.toNat hj (by omega) hd h1 h2⟩
  · rw [getD_setB _ _ _ _ hl] at hd
    by_cases e : k = b.toNat
    · rw [if_pos e] at hd; cases hd
    · rw [if_neg e] at hd; exact h3 k hk hd hp
  · rw [getD_setB _ _ _ _ hl] at hd
    obtain ⟨x, d, hx, hd', hg⟩ := he
    have hjx : j = x := hg.2.2.1
    have : j.toNat ≠ b.toNat := by omega
    rw [if_neg this] at hd
    exact h.cl j k w ⟨x, d, hx, hd', hg⟩ hd
theorem Djb.skip (h : Djb N f cost next P s0 B i b d L D) (hn : cost b d = 0 ∨ P (next b d) (cost b d) = false) : Djb N f cost next P s0 B i b (d + 1) L D := by
  refine ⟨h.r, h.len, h.hb, h.db, h.dn, h.un, h.cl, fun d' h1 h2 j k w hg => ?_⟩
  by_cases e : d' = d
  · subst e
    rcases hn with hn | hn
    · exact absurd hn hg.1.1
    · have := hg.1.2; rw [hn] at this; cases this
  · exact h.cb d' h1 (by omega) j k w hg
theorem Djb.no (h : Djb N f cost next P s0 B i b d L D) (hn : okE f L b (next b d) (cost b d)) : Djb N f cost next P s0 B i b (d + 1) L D := by
  refine ⟨h.r, h.len, h.hb, h.db, h.dn, h.un, h.cl, fun d' h1 h2 j k w hg => ?_⟩
  by_cases e : d' = d
  · subst e
    obtain ⟨_, rfl, rfl, rfl⟩ := hg
    exact hn
  · exact h.cb d' h1 (by omega) j k w hg
theorem Djb.yes (h : Djb N f cost next P s0 B i b d L D) (he : EOk N f (Eg N cost next P false) B) (hs : 0 ≤ s0) (hi : 0 ≤ i ∧ i < N) (hd : 0 ≤ d ∧ d ≤ 5) (hc : cost b d ≠ 0) (hP : P (next b d) (cost b d) = true)
    (h2 : L.getD (next b d).toNat 0 < 0 ∨ f (L.getD b.toNat 0) (cost b d) < L.getD (next b d).toNat 0) : Djb N f cost next P s0 B i b (d + 1) (L.set (next b d).toNat (f (L.getD b.toNat 0) (cost b d))) D := by
  have hb := h.hb
  have hg : Eg N cost next P false b (next b d) (cost b d) := ⟨b, d, hb, hd, ⟨hc, hP⟩, rfl, rfl, rfl⟩
  obtain ⟨_, k0, k1⟩ := he.ed _ _ _ hg
  have hb0 := (h.dn b.toNat (by omega) h.db).1
  have hin := (he.infl _ _ _ _ hg hb0).1
  have hM : s0 + B * (N : Int) + B < ((s0 + B * (N : Int) + B + 1).toNat : Nat) := by
    have := Int.mul_nonneg he.b0 (show (0 : Int) ≤ N by omega)
    have := he.b0
    omega
  obtain ⟨a, _⟩ := h.r.upd he hs hi _ hM hg hb0 h2
  have hkl : (next b d).toNat < L.length := by rw [h.r.len]; omega
  have hkd : D.getD (next b d).toNat false = false := by
    cases hh : D.getD (next b d).toNat false with
    | false => rfl
    | true => have := h.dn _ (by omega) hh; omega
  have hne : ∀ j : Nat, D.getD j false = true → (L.set (next b d).toNat (f (L.getD b.toNat 0) (cost b d))).getD j 0 = L.getD j 0 := by
    intro j hj
    rw [getD_set _ _ _ _ hkl, if_neg (fun e => by rw [e, hkd] at hj; cases hj)]
  have hok : ∀ j k w, D.getD j.toNat false = true → okE f L j k w → 0 ≤ k → okE f (L.set (next b d).toNat (f (L.getD b.toNat 0) (cost b d))) j k w := by
    intro j k w hj ho k0' h0
    rw [hne _ hj] at h0 ⊢
    obtain ⟨o1, o2⟩ := ho h0
    rw [getD_set _ _ _ _ hkl]
    split
    · rename_i e1
      rw [e1] at o1 o2
      omega
    · exact ⟨o1, o2⟩
  refine ⟨a, h.len, hb, h.db, fun j hj hjd => ?_, fun k hk hkd' hp => ?_, fun j k w hg' hj hne' => ?_, fun d' h1 h2' j k w hg' => ?_⟩
  · rw [hne _ hjd, hne _ h.db]; exact h.dn j hj hjd
  · rw [hne _ h.db]
    rw [getD_set _ _ _ _ hkl] at hp ⊢
    split
    · omega
    · rename_i e1
      rw [if_neg e1] at hp
      exact h.un k hk hkd' hp
  · exact hok j k w hj (h.cl j k w hg' hj hne') (he.ed _ _ _ hg').2.1
  · by_cases e : d' = d
    · subst e
      obtain ⟨_, e4, e5, e6⟩ := hg'
      rw [if_neg (by simp)] at e5 e6
      rw [e4, e5, e6]
      intro h0
      show 0 ≤ (L.set (next b d').toNat (f (L.getD b.toNat 0) (cost b d'))).getD (next b d').toNat 0 ∧ _ ≤ f ((L.set (next b d').toNat (f (L.getD b.toNat 0) (cost b d'))).getD b.toNat 0) (cost b d')
      rw [hne _ h.db, getD_set _ _ _ _ hkl, if_pos rfl]
      omega
    · have e1 : Eg N cost next P false j k w := ⟨b, d', hb, ⟨h1, by omega⟩, hg'⟩
      have e2 : j = b := hg'.2.2.1
      exact hok j k w (by rw [e2]; exact h.db) (h.cb d' h1 (by omega) j k w hg') (he.ed _ _ _ e1).2.1
theorem Djb.fin (h : Djb N f cost next P s0 B i b 6 L D) : Djk N f cost next P s0 B i L D := by
  refine ⟨h.r, h.len, fun j hj hd => (h.dn j hj hd).1, fun j k hj hk h1 h2 h3 => ?_, fun j k w hg hj => ?_⟩
  · have := (h.dn j hj h1).2
    have := h.un k hk h2 h3
    omega
  · by_cases e : j = b
    · obtain ⟨x, d, hx, hd, hg⟩ := hg
      have e2 : j = x := hg.2.2.1
      have e3 : x = b := by omega
      subst e3
      exact h.cb d hd.1 (by omega) j k w hg
    · exact h.cl j k w hg hj e
theorem Djk.fin (h : Djk N f cost next P s0 B i L D) (he : EOk N f (Eg N cost next P false) B) (hs : 0 ≤ s0) (hi : 0 ≤ i ∧ i < N) (hn : ∀ k : Nat, k < N → D.getD k false = false → L.getD k 0 < 0) : Dst N f (Eg N cost next P false) s0 i L := by
  refine h.r.done he hs hi fun j k w hg => ?_
  intro h0
  obtain ⟨⟨j0, j1⟩, _⟩ := he.ed _ _ _ hg
  have : D.getD j.toNat false = true := by
    cases hh : D.getD j.toNat false with
    | true => rfl
    | false => have := hn j.toNat (by omega) hh; omega
  exact h.cl j k w hg this h0
end

/-! ### sums of costs: the way back -/
abbrev sumF : Int → Int → Int := fun c w => c + w
theorem Pth.cons {e : Int → Int → Int → Prop} {i j k w c : Int} (h1 : e i j w) (h : Pth sumF e 0 j k c) : Pth sumF e 0 i k (c + w) := by
  induction h with
  | nil => exact .step .nil h1
  | step _ h3 ih => rename_i j' k' c' w' _; rw [show sumF c' w' + w = sumF (c' + w) w' by show c' + w' + w = c' + w + w'; omega]; exact .step ih h3
theorem Pth.rev {e e' : Int → Int → Int → Prop} (he : ∀ j k w, e j k w → e' k j w) {i k c : Int} (h : Pth sumF e 0 i k c) : Pth sumF e' 0 k i c := by
  induction h with
  | nil => exact .nil
  | step _ h3 ih => exact .cons (he _ _ _ h3) ih
theorem Pth.app {e : Int → Int → Int → Prop} {i j k c c' : Int} (h1 : Pth sumF e 0 i j c) (h : Pth sumF e 0 j k c') : Pth sumF e 0 i k (c + c') := by
  induction h with
  | nil => rw [Int.add_zero]; exact h1
  | step _ h3 ih => rename_i j' k' c' w' _; rw [show c + sumF c' w' = sumF (c + c') w' by show c + (c' + w') = c + c' + w'; omega]; exact .step ih h3
theorem Eg.rev {N : Nat} {cost next : Int → Int → Int} {P : Int → Int → Bool} {j k w : Int} (h : Eg N cost next P false j k w) : Eg N cost next P true k j w := by
  obtain ⟨x, d, h1, h2, h3, h4, h5, h6⟩ := h
  exact ⟨x, d, h1, h2, h3, h4, h6, h5⟩
theorem Eg.rev' {N : Nat} {cost next : Int → Int → Int} {P : Int → Int → Bool} {j k w : Int} (h : Eg N cost next P true j k w) : Eg N cost next P false k j w := by
  obtain ⟨x, d, h1, h2, h3, h4, h5, h6⟩ := h
  exact ⟨x, d, h1, h2, h3, h4, h6, h5⟩
/-- there and back it is as far -/
theorem Dst.back {N : Nat} {cost next : Int → Int → Int} {P : Int → Int → Bool} {i k : Int} {L L' : List Int} (h : Dst N sumF (Eg N cost next P false) 0 i L) (h' : Dst N sumF (Eg N cost next P true) 0 k L') (hi : 0 ≤ i ∧ i < N) (hk : 0 ≤ k ∧ k < N) :
    L.getD k.toNat 0 = L'.getD i.toNat 0 := by
  have ek : ((k.toNat : Nat) : Int) = k := by omega
  have ei : ((i.toNat : Nat) : Int) = i := by omega
  have a1 := h.low k.toNat (by omega)
  have a2 := h'.low i.toNat (by omega)
  by_cases e1 : 0 ≤ L.getD k.toNat 0
  · have p1 := h.snd _ (by omega) e1
    rw [ek] at p1
    have b1 := h'.lst i.toNat _ (by omega) (by rw [ei]; exact p1.rev (fun _ _ _ => Eg.rev))
    have p2 := h'.snd _ (by omega) b1.1
    rw [ei] at p2
    have b2 := h.lst k.toNat _ (by omega) (by rw [ek]; exact p2.rev (fun _ _ _ => Eg.rev'))
    omega
  · by_cases e2 : 0 ≤ L'.getD i.toNat 0
    · have p2 := h'.snd _ (by omega) e2
      rw [ei] at p2
      have b2 := h.lst k.toNat _ (by omega) (by rw [ek]; exact p2.rev (fun _ _ _ => Eg.rev'))
      omega
    · omega
/-- where a way leads on, a first step of a least one -/
theorem Dst.first {N : Nat} {cost next : Int → Int → Int} {P : Int → Int → Bool} {k x : Int} {L : List Int} {B : Int} (h : Dst N sumF (Eg N cost next P true) 0 k L) (he : EOk N sumF (Eg N cost next P true) B) (hk : 0 ≤ k ∧ k < N) (hx : 0 ≤ x ∧ x < N) (h0 : 0 ≤ L.getD x.toNat 0) (hne : x ≠ k) :
    ∃ d, (0 ≤ d ∧ d ≤ 5) ∧ cost x d ≠ 0 ∧ (0 ≤ next x d ∧ next x d < N) ∧ 0 ≤ L.getD (next x d).toNat 0 ∧ L.getD (next x d).toNat 0 + cost x d = L.getD x.toNat 0 := by
  have p := h.snd _ (by omega) h0
  rw [show ((x.toNat : Nat) : Int) = x by omega] at p
  generalize hc : L.getD x.toNat 0 = c at p
  cases p with
  | nil => exact absurd rfl hne
  | @step j _ c w p1 p2 =>
    obtain ⟨x', d, g1, g2, g3, g4, g5, g6⟩ := p2
    rw [if_pos rfl] at g5 g6
    subst g6
    subst g4
    subst g5
    have p2 : Eg N cost next P true (next x d) x (cost x d) := ⟨x, d, g1, g2, g3, rfl, rfl, rfl⟩
    obtain ⟨⟨j0, j1⟩, _⟩ := he.ed _ _ _ p2
    have b1 := h.lst (next x d).toNat c (by omega) (by rw [show (((next x d).toNat : Nat) : Int) = next x d by omega]; exact p1)
    have p3 := h.snd _ (by omega) b1.1
    rw [show (((next x d).toNat : Nat) : Int) = next x d by omega] at p3
    have b2 := h.lst x.toNat _ (by omega) (by rw [show ((x.toNat : Nat) : Int) = x by omega]; exact Pth.step p3 p2)
    have hc : L.getD x.toNat 0 = c + cost x d := hc
    have b3 : L.getD x.toNat 0 ≤ L.getD (next x d).toNat 0 + cost x d := b2.2
    exact ⟨d, g2, g3.1, ⟨j0, j1⟩, b1.1, by show _ = c + cost x d; omega⟩
end Go.Proofs.YtjnpnpkjmlihdaaDoor.Ab
namespace Go.Proofs.YtjnpnpkjmlihdaaDoor.Ab
open Go

def farO (n fq fr a b : Int) : Int := (n * a - fq) * (n * a - fq) + (n * a - fq) * (n * b - fr) + (n * b - fr) * (n * b - fr)
def ngStep (n fq fr : Int) (s : List (Int × Int) × Int) (a b : Int) : List (Int × Int) × Int :=
  if s.2 < 0 ∨ farO n fq fr a b < s.2 then ([(a, b)], farO n fq fr a b) else if farO n fq fr a b = s.2 then (s.1 ++ [(a, b)], s.2) else s
/-- the nearest of the first t of sixteen places about a point -/
def ngN (n fq fr : Int) : Nat → List (Int × Int) × Int
  | 0 => ([], -1)
  | t + 1 => ngStep n fq fr (ngN n fq fr t) ((t / 4 : Nat) - 1) ((t % 4 : Nat) - 1)
def hnOff (n f : Int) : List Int := if 2 * f < n then [0] else if 2 * f > n then [1] else [0, 1]
def spOff (n fq fr : Int) : List (Int × Int) := if fq = 0 then (hnOff n fr).map (fun y => (0, y)) else (hnOff n fq).map fun x => if fr = 0 then (x, 0) else (x, 1 - x)
def chk1 (n fq fr : Int) : Bool := (ngN n fq fr 16).1 == spOff n fq fr
def chkAll : Bool := (List.range 18).all fun m => (List.range (m + 1)).all fun f => chk1 (m + 1 : Nat) 0 f && (chk1 (m + 1 : Nat) f 0 && (f == 0 || chk1 (m + 1 : Nat) f ((m + 1 : Nat) - f)))
theorem chkAll_ok : chkAll = true := by decide +kernel
theorem near_ok (n fq fr : Int) (hn : 1 ≤ n ∧ n ≤ 18) (hq : 0 ≤ fq ∧ fq < n) (hr : 0 ≤ fr ∧ fr < n) (h : fq = 0 ∨ fr = 0 ∨ fq + fr = n) : (ngN n fq fr 16).1 = spOff n fq fr := by
  have h0 := chkAll_ok
  unfold chkAll at h0
  rw [List.all_eq_true] at h0
  have h1 := h0 (n - 1).toNat (by rw [List.mem_range]; omega)
  rw [List.all_eq_true] at h1
  have en : (((n - 1).toNat + 1 : Nat) : Int) = n := by omega
  have key : ∀ f : Int, 0 ≤ f → f < n → chk1 n 0 f = true ∧ chk1 n f 0 = true ∧ (f = 0 ∨ chk1 n f (n - f) = true) := by
    intro f f0 f1
    have h2 := h1 f.toNat (by rw [List.mem_range]; omega)
    rw [en, show ((f.toNat : Nat) : Int) = f by omega] at h2
    simp only [Bool.and_eq_true, Bool.or_eq_true, beq_iff_eq] at h2
    refine ⟨h2.1, h2.2.1, ?_⟩
    rcases h2.2.2 with h3 | h3
    · left; omega
    · exact .inr h3
  have fin : chk1 n fq fr = true := by
    rcases h with h | h | h
    · rw [h]; exact (key fr hr.1 hr.2).1
    · rw [h]; exact (key fq hq.1 hq.2).2.1
    · rcases (key fq hq.1 hq.2).2.2 with h2 | h2
      · rw [h2]; exact (key fr hr.1 hr.2).1
      · rwa [show fr = n - fq by omega]
  exact eq_of_beq fin
theorem ngN_le (n fq fr : Int) (t : Nat) : (ngN n fq fr t).1.length ≤ t := by
  induction t with
  | zero => simp [ngN]
  | succ t ih =>
    unfold ngN ngStep
    split
    · simp
    · split
      · simp; omega
      · omega
/-- the distance of two places -/
def dsH (aq ar bq br : Int) : Int := ((if bq - aq < 0 then -(bq - aq) else bq - aq) + (if br - ar < 0 then -(br - ar) else br - ar) + (if bq - aq + (br - ar) < 0 then -(bq - aq + (br - ar)) else bq - aq + (br - ar))).tdiv 2
theorem dsH_max (aq ar bq br : Int) : (∃ s : Int, (s = 1 ∨ s = -1) ∧ (bq - aq = s * dsH aq ar bq br ∨ br - ar = s * dsH aq ar bq br ∨ bq - aq + (br - ar) = s * dsH aq ar bq br)) ∧ 0 ≤ dsH aq ar bq br := by
  unfold dsH
  generalize bq - aq = x
  generalize br - ar = y
  constructor
  · by_cases hx : x < 0 <;> by_cases hy : y < 0 <;> by_cases hz : x + y < 0 <;> simp only [hx, hy, hz, if_true, if_false]
    · exact ⟨-1, by simp, .inr (.inr (by rw [Int.tdiv_eq_ediv_of_nonneg (by omega)]; omega))⟩
    · omega
    · exact ⟨-1, by simp, .inl (by rw [Int.tdiv_eq_ediv_of_nonneg (by omega)]; omega)⟩
    · exact ⟨1, by simp, .inr (.inl (by rw [Int.tdiv_eq_ediv_of_nonneg (by omega)]; omega))⟩
    · exact ⟨-1, by simp, .inr (.inl (by rw [Int.tdiv_eq_ediv_of_nonneg (by omega)]; omega))⟩
    · exact ⟨1, by simp, .inl (by rw [Int.tdiv_eq_ediv_of_nonneg (by omega)]; omega)⟩
    · omega
    · exact ⟨1, by simp, .inr (.inr (by rw [Int.tdiv_eq_ediv_of_nonneg (by omega)]; omega))⟩
  · rw [Int.tdiv_eq_ediv_of_nonneg (by split <;> split <;> split <;> omega)]
    split <;> split <;> split <;> omega
end Go.Proofs.YtjnpnpkjmlihdaaDoor.Ab
namespace Go.Proofs.YtjnpnpkjmlihdaaDoor.Ab
open Go Go.RowKit

/-- a cell told more weakly: an empty row of the frame's own is an empty row -/
def Wk (c c' : Cell) : Prop := (c.plain = true ∧ c' = c) ∨ ∃ k sz g, c = .own k 0 ∧ c' = .ro sz 0 g
def WkL : List Cell → List Cell → Prop
  | [], [] => True
  | c :: l, c' :: l' => Wk c c' ∧ WkL l l'
  | _, _ => False
def WkV : V → V → Prop
  | .one c, .one c' => Wk c c'
  | .agg l, .agg l' => WkL l l'
  | _, _ => False
def WkVs : List V → List V → Prop
  | [], [] => True
  | c :: l, c' :: l' => WkV c c' ∧ WkVs l l'
  | _, _ => False
def WkT : T → T → Prop
  | .v x, .v x' => WkV x x'
  | .tup l, .tup l' => WkVs l l'
  | _, _ => False
section
variable {w : World} {I : Nat → Prop} {G : Gh} {bx bx' : Bx} {ob ob' : Ob}
theorem Wk.rep {c c' : Cell} (h : Wk c c') {v : Value} (hv : SRep w I G bx ob v c) : SRep w I G bx' ob' v c' := by
  rcases h with ⟨hp, rfl⟩ | ⟨k, sz, g, rfl, rfl⟩
  · cases c' <;> first | exact hv | cases hp
  · obtain ⟨r, h1, h2, h3⟩ := hv
    rw [h3]
    show CRep w I ((G.top k).val 0) (.ro sz 0 g)
    unfold Hd.val
    split <;> exact .ro0 _ _ _ _
theorem WkL.len : ∀ {l l' : List Cell}, WkL l l' → l.length = l'.length
  | [], [], _ => rfl
  | _ :: _, _ :: _, h => by simp [WkL.len h.2]
  | [], _ :: _, h => h.elim
  | _ :: _, [], h => h.elim
theorem WkL.nth : ∀ {l l' : List Cell}, WkL l l' → ∀ j, j < l.length → Wk (nth l j) (nth l' j)
  | [], _, _, j, hj => by simp at hj
  | _ :: _, _ :: _, h, 0, _ => h.1
  | _ :: _, _ :: _, h, j + 1, hj => WkL.nth h.2 j (by simpa using hj)
  | _ :: _, [], h, _, _ => h.elim
theorem WkV.rep {x x' : V} (h : WkV x x') {v : Value} (hv : VRep w I G bx ob v x) : VRep w I G bx' ob' v x' := by
  cases x with
  | one c =>
    cases x' with
    | one c' => exact Wk.rep (h : Wk c c') hv
    | agg l => exact (h : False).elim
  | agg l =>
    cases x' with
    | one c' => exact (h : False).elim
    | agg l' =>
      have h : WkL l l' := h
      obtain ⟨arr, h1, h2, h3⟩ := hv
      refine ⟨arr, h1, by rw [h2, h.len], fun j u hj => ?_⟩
      have := (Array.getElem?_eq_some_iff.1 hj).1
      exact (h.nth j (by omega)).rep (h3 j u hj)
theorem WkVs.len : ∀ {l l' : List V}, WkVs l l' → l.length = l'.length
  | [], [], _ => rfl
  | _ :: _, _ :: _, h => by simp [WkVs.len h.2]
  | [], _ :: _, h => h.elim
  | _ :: _, [], h => h.elim
theorem WkVs.nth : ∀ {l l' : List V}, WkVs l l' → ∀ j, j < l.length → WkV (nthV l j) (nthV l' j)
  | [], _, _, j, hj => by simp at hj
  | _ :: _, _ :: _, h, 0, _ => h.1
  | _ :: _, _ :: _, h, j + 1, hj => WkVs.nth h.2 j (by simpa using hj)
  | _ :: _, [], h, _, _ => h.elim
theorem WkT.rep {x x' : T} (h : WkT x x') {v : Value} (hv : TRep w I G bx ob v x) : TRep w I G bx' ob' v x' := by
  cases x with
  | v c =>
    cases x' with
    | v c' => exact WkV.rep (h : WkV c c') hv
    | tup l => exact (h : False).elim
  | tup l =>
    cases x' with
    | v c' => exact (h : False).elim
    | tup l' =>
      have h : WkVs l l' := h
      obtain ⟨arr, h1, h2, h3⟩ := hv
      refine ⟨arr, h1, by rw [h2, h.len], fun j u hj => ?_⟩
      have := (Array.getElem?_eq_some_iff.1 hj).1
      exact (h.nth j (by omega)).rep (h3 j u hj)
end
/-- a contract that tells results some of whose rows are empty, without these rows -/
theorem FunE.weak {E : Env} {f : Nat} {args : List V} {r : T} {Φ : T → Ob → Ob → Prop} (h : FunE E f args [] Φ) (hw : ∀ r' o' oo', Φ r' o' oo' → WkT r' r) : Fun E f args [] r [] [] := by
  refine ⟨h.1, fun k q hq => (by cases hq), fun w I G vs h1 h2 h3 h4 h5 => (h.2 w I G vs h1 h2 h3 h4 h5).mono ?_⟩
  rintro e w' ⟨r', o', oo', hΦ, v, G', he, hr, ho, _, hk⟩
  exact ⟨v, G', he, (hw _ _ _ hΦ).rep hr, Objs.nil _ _ _ _ _, fun k q hq => (by cases hq), hk⟩
theorem FunE.fail {E : Env} {f : Nat} {args : List V} {ob : Ob} {r : T} {obr obo : Ob} (h : Fun E f args ob r obr obo) : FunE E f args ob (fun r' o' oo' => r' = r ∧ o' = obr ∧ oo' = obo) := h.toE

/-- a contract for another reading of the arguments -/
theorem FunConv {E : Env} {f : Nat} {args args' : List V} {r : T} {obr obo : Ob} (h : Fun E f args [] r obr obo) (hl : args'.length = args.length)
    (hv : ∀ (j : Nat) (w : World) (I : Nat → Prop) (G : Gh) (v : Value), j < args.length → VRep w I G [] [] v (nthV args' j) → VRep w I G [] [] v (nthV args j)) : Fun E f args' [] r obr obo :=
  ⟨h.1, h.2.1, fun w I G vs h1 h2 h3 h4 h5 => h.2.2 w I G vs h1 h2 (by rw [h3, hl]) (fun j v hj => hv j w I G v (by have := (Array.getElem?_eq_some_iff.1 hj).1; omega) (h4 j v hj)) h5⟩
/-- two cells that read alike: empty rows -/
def Lk (c c' : Cell) : Prop := (c.plain = true ∧ c' = c) ∨ ∃ sz g g', c = .ro sz 0 g ∧ c' = .ro sz 0 g'
def LkL : List Cell → List Cell → Prop
  | [], [] => True
  | c :: l, c' :: l' => Lk c c' ∧ LkL l l'
  | _, _ => False
def LkV : V → V → Prop
  | .one c, .one c' => Lk c c'
  | .agg l, .agg l' => LkL l l'
  | _, _ => False
def LkVs : List V → List V → Prop
  | [], [] => True
  | c :: l, c' :: l' => LkV c c' ∧ LkVs l l'
  | _, _ => False
section
variable {w : World} {I : Nat → Prop} {G : Gh} {bx : Bx} {ob : Ob}
theorem Lk.rep {c c' : Cell} (h : Lk c c') {v : Value} (hv : SRep w I G bx ob v c) : SRep w I G bx ob v c' := by
  rcases h with ⟨hp, rfl⟩ | ⟨sz, g, g', rfl, rfl⟩
  · exact hv
  · exact ro_get (hv : CRep w I v (.ro sz 0 g)) (fun i j hi _ => absurd hi (Nat.not_lt_zero _))
theorem LkL.len : ∀ {l l' : List Cell}, LkL l l' → l.length = l'.length
  | [], [], _ => rfl
  | _ :: _, _ :: _, h => by simp [LkL.len h.2]
  | [], _ :: _, h => h.elim
  | _ :: _, [], h => h.elim
theorem LkL.nth : ∀ {l l' : List Cell}, LkL l l' → ∀ j, j < l.length → Lk (nth l j) (nth l' j)
  | [], _, _, j, hj => by simp at hj
  | _ :: _, _ :: _, h, 0, _ => h.1
  | _ :: _, _ :: _, h, j + 1, hj => LkL.nth h.2 j (by simpa using hj)
  | _ :: _, [], h, _, _ => h.elim
theorem LkV.rep {x x' : V} (h : LkV x x') {v : Value} (hv : VRep w I G bx ob v x) : VRep w I G bx ob v x' := by
  cases x with
  | one c =>
    cases x' with
    | one c' => exact Lk.rep (h : Lk c c') hv
    | agg l => exact (h : False).elim
  | agg l =>
    cases x' with
    | one c' => exact (h : False).elim
    | agg l' =>
      have h : LkL l l' := h
      obtain ⟨arr, h1, h2, h3⟩ := hv
      refine ⟨arr, h1, by rw [h2, h.len], fun j u hj => ?_⟩
      have := (Array.getElem?_eq_some_iff.1 hj).1
      exact (h.nth j (by omega)).rep (h3 j u hj)
theorem LkVs.len : ∀ {l l' : List V}, LkVs l l' → l.length = l'.length
  | [], [], _ => rfl
  | _ :: _, _ :: _, h => by simp [LkVs.len h.2]
  | [], _ :: _, h => h.elim
  | _ :: _, [], h => h.elim
theorem LkVs.nth : ∀ {l l' : List V}, LkVs l l' → ∀ j, j < l.length → LkV (nthV l j) (nthV l' j)
  | [], _, _, j, hj => by simp at hj
  | _ :: _, _ :: _, h, 0, _ => h.1
  | _ :: _, _ :: _, h, j + 1, hj => LkVs.nth h.2 j (by simpa using hj)
  | _ :: _, [], h, _, _ => h.elim
end
/-- a contract for empty rows that read otherwise -/
theorem FunLk {E : Env} {f : Nat} {args args' : List V} {r : T} {obr obo : Ob} (h : Fun E f args [] r obr obo) (hl : LkVs args' args) : Fun E f args' [] r obr obo :=
  FunConv h hl.len (fun j w I G v hj hv => (hl.nth j (by rw [hl.len]; exact hj)).rep hv)
end Go.Proofs.YtjnpnpkjmlihdaaDoor.Ab
namespace Go.Proofs.YtjnpnpkjmlihdaaDoor.Ab
open Go

def fT (m : Int) : Int → Int → Int := fun c w => if c.tmod 1000 + w > m then c - c.tmod 1000 + 1000 + w else c + w
def fH (m : Int) : Int → Int → Int := fun c w => if c.tmod 100 + w > m then (c.tdiv 100 + 1) * 100 + w else c + w
theorem fT_nn {m c w : Int} (h : 0 ≤ c) : fT m c w = if c % 1000 + w > m then c - c % 1000 + 1000 + w else c + w := by
  unfold fT; rw [Int.tmod_eq_emod_of_nonneg h]
theorem fH_nn {m c w : Int} (h : 0 ≤ c) : fH m c w = if c % 100 + w > m then (c / 100 + 1) * 100 + w else c + w := by
  unfold fH; rw [Int.tmod_eq_emod_of_nonneg h, Int.tdiv_eq_ediv_of_nonneg h]
theorem fT_ok {m w : Int} (hm : 0 ≤ m ∧ m ≤ 9) (hw : 1 ≤ w ∧ w ≤ m) : (∀ c c', 0 ≤ c → c ≤ c' → fT m c w ≤ fT m c' w) ∧ ∀ c, 0 ≤ c → c < fT m c w ∧ fT m c w ≤ c + 1100 := by
  refine ⟨fun c c' h0 hc => ?_, fun c h0 => ?_⟩
  · rw [fT_nn h0, fT_nn (by omega)]
    split <;> split <;> omega
  · rw [fT_nn h0]
    split <;> omega
theorem fH_ok {m w : Int} (hm : 0 ≤ m ∧ m ≤ 9) (hw : 1 ≤ w ∧ w ≤ m) : (∀ c c', 0 ≤ c → c ≤ c' → fH m c w ≤ fH m c' w) ∧ ∀ c, 0 ≤ c → c < fH m c w ∧ fH m c w ≤ c + 1100 := by
  refine ⟨fun c c' h0 hc => ?_, fun c h0 => ?_⟩
  · rw [fH_nn h0, fH_nn (by omega)]
    split <;> split <;> omega
  · rw [fH_nn h0]
    split <;> omega
/-- turns before the last one and moves, as turns and moves -/
def phT (c : Int) : Int := 100 * (c / 1000 + 1) + c % 1000
section
variable {e : Int → Int → Int → Prop} {m i : Int} {N : Nat} {S T : List Int}
theorem turn_a (hm : 0 ≤ m ∧ m ≤ 9) (he : ∀ j k w, e j k w → 1 ≤ w ∧ w ≤ m) {k c : Int} (h : Pth (fT m) e 0 i k c) : 0 ≤ c ∧ ((k = i ∧ c = 0) ∨ (Pth (fH m) e m i k (phT c) ∧ c % 1000 ≤ m)) := by
  induction h with
  | nil => exact ⟨Int.le_refl _, .inl ⟨rfl, rfl⟩⟩
  | @step j k c w h1 h2 ih =>
    have hw := he _ _ _ h2
    obtain ⟨h0, ih⟩ := ih
    have hi := ((fT_ok hm hw).2 c h0).1
    refine ⟨by omega, .inr ?_⟩
    rcases ih with ⟨rfl, rfl⟩ | ⟨p, hu⟩
    · have e1 : fT m 0 w = w := by rw [fT_nn (Int.le_refl _)]; split <;> omega
      rw [e1]
      have e2 : phT w = fH m m w := by unfold phT; rw [fH_nn hm.1]; split <;> omega
      rw [e2]
      exact ⟨.step .nil h2, by omega⟩
    · have e2 : phT (fT m c w) = fH m (phT c) w := by
        unfold phT
        rw [fT_nn h0, fH_nn (by omega)]
        split <;> split <;> omega
      rw [e2]
      refine ⟨.step p h2, ?_⟩
      rw [fT_nn h0]
      split <;> omega
theorem turn_b (hm : 0 ≤ m ∧ m ≤ 9) (he : ∀ j k w, e j k w → 1 ≤ w ∧ w ≤ m) {k c : Int} (h : Pth (fH m) e m i k c) : (k = i ∧ c = m) ∨ ∃ c', 0 ≤ c' ∧ Pth (fT m) e 0 i k c' ∧ c = phT c' ∧ c' % 1000 ≤ m := by
  induction h with
  | nil => exact .inl ⟨rfl, rfl⟩
  | @step j k c w h1 h2 ih =>
    have hw := he _ _ _ h2
    right
    rcases ih with ⟨rfl, rfl⟩ | ⟨c', h0, p, rfl, hu⟩
    · have e1 : fT c 0 w = w := by rw [fT_nn (Int.le_refl _)]; split <;> omega
      have e2 : fH c c w = phT w := by unfold phT; rw [fH_nn hm.1]; split <;> omega
      have p : Pth (fT c) e 0 j k (fT c 0 w) := .step .nil h2
      rw [e1] at p
      exact ⟨w, by omega, p, e2, by omega⟩
    · have e2 : phT (fT m c' w) = fH m (phT c') w := by
        unfold phT
        rw [fT_nn h0, fH_nn (by omega)]
        split <;> split <;> omega
      have hi := ((fT_ok hm hw).2 c' h0).1
      refine ⟨fT m c' w, by omega, .step p h2, e2.symm, ?_⟩
      rw [fT_nn h0]
      split <;> omega
/-- what the two lists say of a place -/
theorem turns_eq (hm : 0 ≤ m ∧ m ≤ 9) (he : ∀ j k w, e j k w → 1 ≤ w ∧ w ≤ m) (hS : Dst N (fT m) e 0 i S) (hT : Dst N (fH m) e m i T) (x : Nat) (hx : x < N) :
    (T.getD x 0 < 0 ↔ S.getD x 0 < 0) ∧ (0 ≤ S.getD x 0 → (T.getD x 0).tdiv 100 = if (x : Int) = i then 0 else (S.getD x 0).tdiv 1000 + 1) := by
  by_cases hxi : (x : Int) = i
  · subst hxi
    have a := hS.lst x 0 hx .nil
    have b := hT.lst x m hx .nil
    refine ⟨by omega, fun _ => ?_⟩
    rw [if_pos rfl, Int.tdiv_eq_ediv_of_nonneg b.1]; omega
  · have key : 0 ≤ S.getD x 0 → 0 ≤ T.getD x 0 ∧ T.getD x 0 = phT (S.getD x 0) ∧ (S.getD x 0) % 1000 ≤ m := by
      intro h0
      obtain ⟨_, h1⟩ := turn_a hm he (hS.snd x hx h0)
      rcases h1 with ⟨h1, _⟩ | ⟨h1, hu⟩
      · exact absurd h1 hxi
      · have h2 := hT.lst x _ hx h1
        rcases turn_b hm he (hT.snd x hx h2.1) with ⟨h3, _⟩ | ⟨c', h3, h4, h5, h6⟩
        · exact absurd h3 hxi
        · have h7 := hS.lst x _ hx h4
          refine ⟨h2.1, ?_, hu⟩
          rw [h5] at h2 ⊢
          unfold phT at h2 ⊢
          omega
    refine ⟨⟨fun h => ?_, fun h => ?_⟩, fun h0 => ?_⟩
    · by_cases h0 : 0 ≤ S.getD x 0
      · have := key h0; omega
      · omega
    · by_cases h0 : 0 ≤ T.getD x 0
      · rcases turn_b hm he (hT.snd x hx h0) with ⟨h3, _⟩ | ⟨c', h3, h4, h5, h6⟩
        · exact absurd h3 hxi
        · have := hS.lst x _ hx h4; omega
      · omega
    · obtain ⟨h1, h2, h3⟩ := key h0
      rw [if_neg hxi, Int.tdiv_eq_ediv_of_nonneg h1, Int.tdiv_eq_ediv_of_nonneg h0, h2]
      unfold phT
      omega
end
/-- a place that no way has reached: its steps are of no use -/
theorem Swp.dead {N : Nat} {f : Int → Int → Int} {cost next : Int → Int → Int} {P : Int → Int → Bool} {s0 B i : Int} {M : Nat} {L0 L : List Int} {x d : Int} {ch : Bool} (h : Swp N f cost next P false s0 B i M L0 x d L ch) (h0 : L.getD x.toNat 0 < 0) : Swp N f cost next P false s0 B i M L0 (x + 1) 0 L ch := by
  refine ⟨h.r, h.le, h.lt, fun hc => ⟨(h.eq hc).1, fun x' d' h1 h2 h3 h4 j k w hg => ?_⟩⟩
  by_cases e : x' = x ∧ d ≤ d'
  · obtain ⟨rfl, e⟩ := e
    obtain ⟨_, _, e5, _⟩ := hg
    rw [if_neg (by simp)] at e5
    subst e5
    intro h5
    omega
  · exact (h.eq hc).2 x' d' h1 h2 h3 (by omega) j k w hg
end Go.Proofs.YtjnpnpkjmlihdaaDoor.Ab
namespace Go.Proofs.YtjnpnpkjmlihdaaDoor.Ab
open Go

/-- a way of so many steps from one of some places; each step leads into an open place -/
inductive Wy (g : Int → Int → Prop) (op : Int → Bool) (S : Int → Prop) : Int → Int → Prop
  | src {k : Int} : S k → Wy g op S k 0
  | step {j k c : Int} : Wy g op S j c → g j k → op k = true → Wy g op S k (c + 1)
structure DstS (N : Nat) (g : Int → Int → Prop) (op : Int → Bool) (S : Int → Prop) (L : List Int) : Prop where
  len : L.length = N
  low : ∀ j : Nat, j < N → -1 ≤ L.getD j 0
  snd : ∀ j : Nat, j < N → 0 ≤ L.getD j 0 → Wy g op S j (L.getD j 0)
  lst : ∀ (j : Nat) (c : Int), j < N → Wy g op S j c → 0 ≤ L.getD j 0 ∧ L.getD j 0 ≤ c
section
variable {N : Nat} {g : Int → Int → Prop} {op : Int → Bool} {S : Int → Prop} {L L' Q : List Int} {a : Nat}
theorem DstS.uniq (h : DstS N g op S L) (h' : DstS N g op S L') : L = L' := by
  refine list_ext_getD (by rw [h.len, h'.len]) fun j hj => ?_
  have hj : j < N := by have := h.len; omega
  have a1 := h.low j hj
  have a2 := h'.low j hj
  by_cases e1 : 0 ≤ L.getD j 0
  · have b1 := h'.lst j _ hj (h.snd j hj e1)
    have b2 := h.lst j _ hj (h'.snd j hj b1.1)
    omega
  · by_cases e2 : 0 ≤ L'.getD j 0
    · have b1 := h.lst j _ hj (h'.snd j hj e2)
      omega
    · omega
open Classical in
noncomputable def dsS (N : Nat) (g : Int → Int → Prop) (op : Int → Bool) (S : Int → Prop) : List Int := if h : ∃ L, DstS N g op S L then h.choose else []
theorem DstS.eq (h : DstS N g op S L) : L = dsS N g op S := by
  have h2 : ∃ L, DstS N g op S L := ⟨L, h⟩
  rw [dsS, dif_pos h2]
  exact h.uniq h2.choose_spec
theorem DstS.self (h : DstS N g op S L) : DstS N g op S (dsS N g op S) := h.eq ▸ h

/-- the search, a places of the queue looked at -/
structure Bfs (N : Nat) (g : Int → Int → Prop) (op : Int → Bool) (S : Int → Prop) (L Q : List Int) (a : Nat) : Prop where
  len : L.length = N
  low : ∀ j : Nat, j < N → -1 ≤ L.getD j 0
  q : ∀ b : Nat, b < Q.length → (0 ≤ Q.getD b 0 ∧ Q.getD b 0 < N) ∧ 0 ≤ L.getD (Q.getD b 0).toNat 0 ∧ L.getD (Q.getD b 0).toNat 0 ≤ b
  inq : ∀ j : Nat, j < N → 0 ≤ L.getD j 0 → ∃ b, b < Q.length ∧ Q.getD b 0 = j
  snd : ∀ j : Nat, j < N → 0 ≤ L.getD j 0 → Wy g op S j (L.getD j 0)
  src : ∀ k, S k → (0 ≤ k ∧ k < N) ∧ L.getD k.toNat 0 = 0
  mono : ∀ b c : Nat, b ≤ c → c < Q.length → L.getD (Q.getD b 0).toNat 0 ≤ L.getD (Q.getD c 0).toNat 0
  span : a < Q.length → ∀ b : Nat, b < Q.length → L.getD (Q.getD b 0).toNat 0 ≤ L.getD (Q.getD a 0).toNat 0 + 1
  cl : ∀ b : Nat, b < a → b < Q.length → ∀ k, g (Q.getD b 0) k → op k = true → 0 ≤ L.getD k.toNat 0 ∧ L.getD k.toNat 0 ≤ L.getD (Q.getD b 0).toNat 0 + 1
  ql : Q.length ≤ 6 + cntR L
structure Bfi (N : Nat) (g : Int → Int → Prop) (op : Int → Bool) (S : Int → Prop) (L Q : List Int) (a : Nat) (dn : Int → Prop) : Prop where
  b : Bfs N g op S L Q a
  lt : a < Q.length
  cb : ∀ k, dn k → op k = true → 0 ≤ L.getD k.toNat 0 ∧ L.getD k.toNat 0 ≤ L.getD (Q.getD a 0).toNat 0 + 1
theorem getD_snoc (Q : List Int) (k : Int) (b : Nat) : (Q ++ [k]).getD b 0 = if b < Q.length then Q.getD b 0 else if b = Q.length then k else 0 := by
  rw [List.getD_eq_getElem?_getD, List.getD_eq_getElem?_getD]
  split
  · rename_i h; rw [List.getElem?_append_left h]
  · rename_i h
    split
    · rename_i h2; subst h2; simp
    · rename_i h2; rw [List.getElem?_eq_none (by simp; omega)]; rfl
variable {dn : Int → Prop}
theorem Bfi.init (h : Bfs N g op S L Q a) (hl : a < Q.length) : Bfi N g op S L Q a (fun _ => False) := ⟨h, hl, fun k hk => hk.elim⟩
theorem Bfi.push (h : Bfi N g op S L Q a dn) {k : Int} (hk : 0 ≤ k ∧ k < N) (hg : g (Q.getD a 0) k) (ho : op k = true) (hn : L.getD k.toNat 0 < 0) :
    Bfi N g op S (L.set k.toNat (L.getD (Q.getD a 0).toNat 0 + 1)) (Q ++ [k]) a (fun x => dn x ∨ x = k) := by
  obtain ⟨b, hl, cb⟩ := h
  have hkl : k.toNat < L.length := by rw [b.len]; omega
  obtain ⟨⟨c0, c1⟩, c2, c3⟩ := b.q a hl
  have hne : ∀ j : Nat, 0 ≤ L.getD j 0 → (L.set k.toNat (L.getD (Q.getD a 0).toNat 0 + 1)).getD j 0 = L.getD j 0 := by
    intro j hj
    rw [getD_set _ _ _ _ hkl, if_neg (fun e => by rw [e] at hj; omega)]
  have hat : (L.set k.toNat (L.getD (Q.getD a 0).toNat 0 + 1)).getD k.toNat 0 = L.getD (Q.getD a 0).toNat 0 + 1 := by rw [getD_set _ _ _ _ hkl, if_pos rfl]
  have hqa : (Q ++ [k]).getD a 0 = Q.getD a 0 := by rw [getD_snoc, if_pos hl]
  have hql : (Q ++ [k]).length = Q.length + 1 := by simp
  refine ⟨⟨by rw [List.length_set]; exact b.len, fun j hj => ?_, fun i hi => ?_, fun j hj hp => ?_, fun j hj hp => ?_, fun x hx => ?_, fun i c hic hc => ?_, fun _ i hi => ?_, fun i hia hi x hx hox => ?_, ?_⟩, by omega, fun x hx hox => ?_⟩
  · rw [getD_set _ _ _ _ hkl]; split
    · omega
    · exact b.low j hj
  · rw [hql] at hi
    rw [getD_snoc]
    by_cases e : i < Q.length
    · rw [if_pos e]
      obtain ⟨d1, d2, d3⟩ := b.q i e
      rw [hne _ d2]; exact ⟨d1, d2, d3⟩
    · rw [if_neg e, if_pos (by omega), hat]
      exact ⟨hk, by omega, by omega⟩
  · rw [getD_set _ _ _ _ hkl] at hp
    by_cases e : j = k.toNat
    · exact ⟨Q.length, by omega, by rw [getD_snoc, if_neg (by omega), if_pos rfl]; omega⟩
    · rw [if_neg e] at hp
      obtain ⟨i, i1, i2⟩ := b.inq j hj hp
      exact ⟨i, by omega, by rw [getD_snoc, if_pos i1]; exact i2⟩
  · by_cases e : j = k.toNat
    · subst e
      rw [hat, show ((k.toNat : Nat) : Int) = k by omega]
      have p := b.snd (Q.getD a 0).toNat (by omega) c2
      rw [show (((Q.getD a 0).toNat : Nat) : Int) = Q.getD a 0 by omega] at p
      exact .step p hg ho
    · rw [getD_set _ _ _ _ hkl, if_neg e] at hp ⊢
      exact b.snd j hj hp
  · obtain ⟨d1, d2⟩ := b.src x hx
    exact ⟨d1, by rw [hne _ (by omega)]; exact d2⟩
  · rw [hql] at hc
    rw [getD_snoc, getD_snoc]
    by_cases e : c < Q.length
    · rw [if_pos e, if_pos (by omega)]
      rw [hne _ (b.q c e).2.1, hne _ (b.q i (by omega)).2.1]
      exact b.mono i c hic e
    · rw [if_neg e, if_pos (show c = Q.length by omega), hat]
      by_cases e2 : i < Q.length
      · rw [if_pos e2, hne _ (b.q i e2).2.1]
        exact b.span hl i e2
      · rw [if_neg e2, if_pos (by omega), hat]; exact Int.le_refl _
  · rw [hql] at hi
    rw [hqa, hne _ c2, getD_snoc]
    by_cases e : i < Q.length
    · rw [if_pos e, hne _ (b.q i e).2.1]; exact b.span hl i e
    · rw [if_neg e, if_pos (by omega), hat]; exact Int.le_refl _
  · rw [getD_snoc, if_pos (by omega)] at hx ⊢
    obtain ⟨d1, d2⟩ := b.cl i hia (by omega) x hx hox
    rw [hne _ (b.q i (by omega)).2.1, hne _ d1]
    exact ⟨d1, d2⟩
  · rw [cntR_set _ _ _ hkl (by omega), if_pos hn, hql]
    have := b.ql
    omega
  · rw [hqa, hne _ c2]
    rcases hx with hx | rfl
    · obtain ⟨d1, d2⟩ := cb x hx hox
      rw [hne _ d1]; exact ⟨d1, d2⟩
    · rw [hat]; exact ⟨by omega, Int.le_refl _⟩
theorem Bfi.skip (h : Bfi N g op S L Q a dn) {k : Int} (hk : 0 ≤ k ∧ k < N) (hs : op k = true → 0 ≤ L.getD k.toNat 0) : Bfi N g op S L Q a (fun x => dn x ∨ x = k) := by
  refine ⟨h.b, h.lt, fun x hx hox => ?_⟩
  rcases hx with hx | rfl
  · exact h.cb x hx hox
  · have h0 := hs hox
    obtain ⟨i, i1, i2⟩ := h.b.inq x.toNat (by omega) h0
    have := h.b.span h.lt i i1
    rw [i2, show ((x.toNat : Nat) : Int).toNat = x.toNat by omega] at this
    exact ⟨h0, this⟩
theorem Bfi.cong (h : Bfi N g op S L Q a dn) {dn' : Int → Prop} (hd : ∀ x, dn' x → dn x) : Bfi N g op S L Q a dn' := ⟨h.b, h.lt, fun k hk => h.cb k (hd k hk)⟩
theorem Bfi.fin (h : Bfi N g op S L Q a dn) (hd : ∀ k, g (Q.getD a 0) k → dn k) : Bfs N g op S L Q (a + 1) := by
  obtain ⟨b, hl, cb⟩ := h
  refine ⟨b.len, b.low, b.q, b.inq, b.snd, b.src, b.mono, fun hl2 i hi => ?_, fun i hia hi x hx hox => ?_, b.ql⟩
  · have := b.span hl i hi
    have := b.mono a (a + 1) (by omega) hl2
    omega
  · by_cases e : i = a
    · subst e; exact cb x (hd x hx) hox
    · exact b.cl i (by omega) hi x hx hox
theorem Bfs.fin (h : Bfs N g op S L Q a) (hl : ¬ a < Q.length) (hg : ∀ j k, g j k → 0 ≤ k ∧ k < N) : DstS N g op S L := by
  refine ⟨h.len, h.low, h.snd, fun j c hj hp => ?_⟩
  have key : ∀ j c, Wy g op S j c → (0 ≤ j ∧ j < N) ∧ 0 ≤ L.getD j.toNat 0 ∧ L.getD j.toNat 0 ≤ c := by
    intro j c hp
    induction hp with
    | src hs =>
      obtain ⟨d1, d2⟩ := h.src _ hs
      exact ⟨d1, by omega, by omega⟩
    | @step j k c h1 h2 h3 ih =>
      obtain ⟨i1, i2, i3⟩ := ih
      obtain ⟨b, b1, b2⟩ := h.inq j.toNat (by omega) i2
      have b2 : Q.getD b 0 = j := by omega
      obtain ⟨d1, d2⟩ := h.cl b (by omega) b1 k (by rw [b2]; exact h2) h3
      rw [b2] at d2
      exact ⟨hg _ _ h2, d1, by omega⟩
  exact (key j c hp).2
theorem Bfs.bound (h : Bfs N g op S L Q a) : Q.length ≤ 6 + N ∧ ∀ j : Nat, j < N → L.getD j 0 ≤ 6 + N := by
  have h1 := h.ql
  have h2 := cntR_le L
  rw [h.len] at h2
  refine ⟨by omega, fun j hj => ?_⟩
  by_cases e : 0 ≤ L.getD j 0
  · obtain ⟨b, b1, b2⟩ := h.inq j hj e
    have := (h.q b b1).2.2
    rw [b2, show ((j : Int)).toNat = j by omega] at this
    omega
  · omega

/-- the sources put into the queue, t of them looked at -/
structure Bsr (N : Nat) (op : Int → Bool) (F : List Int) (L Q : List Int) (t : Nat) : Prop where
  len : L.length = N
  val : ∀ j : Nat, j < N → L.getD j 0 = 0 ∨ L.getD j 0 = -1
  q : ∀ b : Nat, b < Q.length → (0 ≤ Q.getD b 0 ∧ Q.getD b 0 < N) ∧ L.getD (Q.getD b 0).toNat 0 = 0
  inq : ∀ j : Nat, j < N → 0 ≤ L.getD j 0 → ∃ b, b < Q.length ∧ Q.getD b 0 = j
  src : ∀ i : Nat, i < t → op (F.getD i 0) = true → L.getD (F.getD i 0).toNat 0 = 0
  snd : ∀ j : Nat, j < N → 0 ≤ L.getD j 0 → (j : Int) ∈ F ∧ op j = true
  ql : Q.length ≤ t
def srcS (F : List Int) (op : Int → Bool) : Int → Prop := fun k => k ∈ F ∧ op k = true
variable {F : List Int} {t : Nat}
theorem Bsr.init (N : Nat) (op : Int → Bool) (F : List Int) : Bsr N op F (List.replicate N (-1)) [] 0 := by
  have hg : ∀ j : Nat, j < N → (List.replicate N (-1 : Int)).getD j 0 = -1 := by
    intro j hj; simp [List.getD_eq_getElem?_getD, hj]
  exact ⟨by simp, fun j hj => .inr (hg j hj), fun b hb => by simp at hb, fun j hj h => by rw [hg j hj] at h; omega, fun i hi => by omega, fun j hj h => by rw [hg j hj] at h; omega, by simp⟩
theorem Bsr.push (h : Bsr N op F L Q t) (ht : t < F.length) (hk : 0 ≤ F.getD t 0 ∧ F.getD t 0 < N) (ho : op (F.getD t 0) = true) : Bsr N op F (L.set (F.getD t 0).toNat 0) (Q ++ [F.getD t 0]) (t + 1) := by
  have hkl : (F.getD t 0).toNat < L.length := by rw [h.len]; omega
  have hql : (Q ++ [F.getD t 0]).length = Q.length + 1 := by simp
  have hz : ∀ j : Nat, L.getD j 0 = 0 → (L.set (F.getD t 0).toNat 0).getD j 0 = 0 := by
    intro j hj; rw [getD_set _ _ _ _ hkl]; split <;> omega
  refine ⟨by rw [List.length_set]; exact h.len, fun j hj => ?_, fun b hb => ?_, fun j hj hp => ?_, fun i hi hoi => ?_, fun j hj hp => ?_, by rw [hql]; have := h.ql; omega⟩
  · rw [getD_set _ _ _ _ hkl]; split
    · exact .inl rfl
    · exact h.val j hj
  · rw [hql] at hb
    rw [getD_snoc]
    by_cases e : b < Q.length
    · rw [if_pos e]; exact ⟨(h.q b e).1, hz _ (h.q b e).2⟩
    · rw [if_neg e, if_pos (by omega)]; exact ⟨hk, by rw [getD_set _ _ _ _ hkl, if_pos rfl]⟩
  · by_cases e : j = (F.getD t 0).toNat
    · exact ⟨Q.length, by omega, by rw [getD_snoc, if_neg (by omega), if_pos rfl]; omega⟩
    · rw [getD_set _ _ _ _ hkl, if_neg e] at hp
      obtain ⟨b, b1, b2⟩ := h.inq j hj hp
      exact ⟨b, by omega, by rw [getD_snoc, if_pos b1]; exact b2⟩
  · by_cases e : i = t
    · subst e; rw [getD_set _ _ _ _ hkl, if_pos rfl]
    · exact hz _ (h.src i (by omega) hoi)
  · by_cases e : j = (F.getD t 0).toNat
    · have e2 : (j : Int) = F.getD t 0 := by omega
      rw [e2]
      refine ⟨?_, ho⟩
      rw [List.getD_eq_getElem?_getD, List.getElem?_eq_getElem ht]; exact List.getElem_mem ht
    · rw [getD_set _ _ _ _ hkl, if_neg e] at hp
      exact h.snd j hj hp
theorem Bsr.skip (h : Bsr N op F L Q t) (ho : op (F.getD t 0) = false) : Bsr N op F L Q (t + 1) := by
  refine ⟨h.len, h.val, h.q, h.inq, fun i hi hoi => ?_, h.snd, by have := h.ql; omega⟩
  by_cases e : i = t
  · subst e; rw [ho] at hoi; cases hoi
  · exact h.src i (by omega) hoi
theorem Bsr.fin (h : Bsr N op F L Q F.length) (h6 : F.length ≤ 6) (hF : ∀ x ∈ F, 0 ≤ x ∧ x < N) : Bfs N g op (srcS F op) L Q 0 := by
  have hq0 : ∀ b : Nat, b < Q.length → L.getD (Q.getD b 0).toNat 0 = 0 := fun b hb => (h.q b hb).2
  refine ⟨h.len, fun j hj => ?_, fun b hb => ⟨(h.q b hb).1, by rw [hq0 b hb]; omega⟩, h.inq, fun j hj hp => ?_, fun k hk => ?_, fun b c hbc hc => ?_, fun h0 b hb => ?_, fun b hb => by omega, by have := h.ql; omega⟩
  · rcases h.val j hj with e | e <;> omega
  · have e : L.getD j 0 = 0 := by rcases h.val j hj with e | e <;> omega
    rw [e]
    exact .src (h.snd j hj hp)
  · obtain ⟨h1, h2⟩ := hk
    refine ⟨hF k h1, ?_⟩
    obtain ⟨i, hi, rfl⟩ := List.mem_iff_getElem.1 h1
    have e : F.getD i 0 = F[i] := by simp [List.getD_eq_getElem?_getD, hi]
    rw [← e] at h2 ⊢
    exact h.src i hi h2
  · rw [hq0 b (by omega), hq0 c hc]; exact Int.le_refl _
  · rw [hq0 b hb, hq0 0 h0]; omega

/-! ### ways there and back -/
theorem Wy.mono {S' : Int → Prop} (hS : ∀ k, S k → S' k) {k c : Int} (h : Wy g op S k c) : Wy g op S' k c := by
  induction h with
  | src hs => exact .src (hS _ hs)
  | step _ h2 h3 ih => exact .step ih h2 h3
theorem Wy.pos {k c : Int} (h : Wy g op S k c) : 0 ≤ c := by
  induction h with
  | src hs => exact Int.le_refl _
  | step _ _ _ ih => omega
theorem Wy.opn {k c : Int} (hS : ∀ k, S k → op k = true) (h : Wy g op S k c) : op k = true := by
  cases h with
  | src hs => exact hS _ hs
  | step _ _ h3 => exact h3
/-- on from a place of a way -/
theorem Wy.app {k c x c' : Int} (h : Wy g op S k c) (h' : Wy g op (fun y => y = k) x c') : Wy g op S x (c + c') := by
  induction h' with
  | src hs => subst hs; rw [Int.add_zero]; exact h
  | @step j k' c2 _ h2 h3 ih => rw [show c + (c2 + 1) = c + c2 + 1 by omega]; exact .step ih h2 h3
theorem Wy.cons {x y k c : Int} (hg : g x y) (ho : op y = true) (h : Wy g op (fun z => z = y) k c) : Wy g op (fun z => z = x) k (c + 1) := by
  induction h with
  | src hs => subst hs; exact (show Wy g op (fun z => z = x) _ (0 + 1) from .step (.src rfl) hg ho)
  | step _ h2 h3 ih => exact .step ih h2 h3
/-- a way back -/
theorem Wy.rev {x k c : Int} (hsym : ∀ j k, g j k → g k j) (hx : op x = true) (h : Wy g op (fun y => y = x) k c) : Wy g op (fun y => y = k) x c := by
  induction h with
  | src hs => subst hs; exact .src rfl
  | step h1 h2 h3 ih => exact .cons (hsym _ _ h2) (h1.opn (fun k hk => by rw [hk]; exact hx)) ih
/-- the last place before a place -/
theorem DstS.last {k : Int} (h : DstS N g op S L) (hk : 0 ≤ k ∧ k < N) (hg : ∀ j k, g j k → (0 ≤ j ∧ j < N)) (h1 : 1 ≤ L.getD k.toNat 0) : ∃ j : Int, (0 ≤ j ∧ j < N) ∧ g j k ∧ L.getD j.toNat 0 = L.getD k.toNat 0 - 1 := by
  have p := h.snd k.toNat (by omega) (by omega)
  rw [show ((k.toNat : Nat) : Int) = k by omega] at p
  generalize hc : L.getD k.toNat 0 = c at p h1
  cases p with
  | src hs => omega
  | @step j _ c' h2 h3 h4 =>
    have hj := hg _ _ h3
    have b1 := h.lst j.toNat c' (by omega) (by rw [show ((j.toNat : Nat) : Int) = j by omega]; exact h2)
    have p2 := h.snd j.toNat (by omega) b1.1
    rw [show ((j.toNat : Nat) : Int) = j by omega] at p2
    have b2 := h.lst k.toNat _ (by omega) (by rw [show ((k.toNat : Nat) : Int) = k by omega]; exact .step p2 h3 h4)
    exact ⟨j, hj, h3, by omega⟩
theorem least_ex {P : Nat → Prop} : ∀ n, P n → ∃ m, P m ∧ ∀ k, P k → m ≤ k
  | n, h => by
    by_cases h2 : ∃ k, k < n ∧ P k
    · obtain ⟨k, hk, hp⟩ := h2
      exact least_ex k hp
    · exact ⟨n, h, fun k hp => by
        by_cases e : k < n
        · exact absurd ⟨k, e, hp⟩ h2
        · omega⟩
theorem leastW_ex (g : Int → Int → Prop) (op : Int → Bool) (S : Int → Prop) (k : Int) : ∃ z : Int, (z = -1 ∧ ∀ c, ¬ Wy g op S k c) ∨ (0 ≤ z ∧ Wy g op S k z ∧ ∀ c, Wy g op S k c → z ≤ c) := by
  by_cases h : ∃ c, Wy g op S k c
  · obtain ⟨c, hc⟩ := h
    have hp := hc.pos
    obtain ⟨m, h1, h2⟩ := least_ex (P := fun n : Nat => Wy g op S k n) c.toNat (by rw [show ((c.toNat : Nat) : Int) = c by omega]; exact hc)
    refine ⟨m, .inr ⟨by omega, h1, fun c' hc' => ?_⟩⟩
    have hp' := hc'.pos
    have := h2 c'.toNat (by rw [show ((c'.toNat : Nat) : Int) = c' by omega]; exact hc')
    omega
  · exact ⟨-1, .inl ⟨rfl, fun c hc => h ⟨c, hc⟩⟩⟩
noncomputable def leastW (g : Int → Int → Prop) (op : Int → Bool) (S : Int → Prop) (k : Int) : Int := (leastW_ex g op S k).choose
theorem leastW_spec {k c : Int} (h : Wy g op S k c) : 0 ≤ leastW g op S k ∧ leastW g op S k ≤ c := by
  rcases (leastW_ex g op S k).choose_spec with ⟨_, h2⟩ | ⟨h1, h2, h3⟩
  · exact absurd h (h2 c)
  · exact ⟨h1, h3 c h⟩
theorem leastW_low (k : Int) : -1 ≤ leastW g op S k := by
  rcases (leastW_ex g op S k).choose_spec with ⟨h1, _⟩ | ⟨h1, _⟩
  · show -1 ≤ (leastW_ex g op S k).choose; omega
  · show -1 ≤ (leastW_ex g op S k).choose; omega
theorem leastW_snd {k : Int} (h : 0 ≤ leastW g op S k) : Wy g op S k (leastW g op S k) := by
  rcases (leastW_ex g op S k).choose_spec with ⟨h1, _⟩ | ⟨h1, h2, _⟩
  · have : leastW g op S k = -1 := h1
    omega
  · exact h2
theorem dsS_ok (N : Nat) (g : Int → Int → Prop) (op : Int → Bool) (S : Int → Prop) : DstS N g op S (dsS N g op S) := by
  have hg : ∀ j : Nat, j < N → ((List.range N).map fun j : Nat => leastW g op S j).getD j 0 = leastW g op S j := by
    intro j hj; simp [List.getD_eq_getElem?_getD, hj]
  have : DstS N g op S ((List.range N).map fun j : Nat => leastW g op S j) := by
    refine ⟨by simp, fun j hj => ?_, fun j hj h => ?_, fun j c hj h => ?_⟩
    · rw [hg j hj]; exact leastW_low _
    · rw [hg j hj] at h ⊢; exact leastW_snd h
    · rw [hg j hj]
      have := leastW_spec h
      exact this
  exact this.self
end
end Go.Proofs.YtjnpnpkjmlihdaaDoor.Ab
namespace Go.Proofs.YtjnpnpkjmlihdaaDoor.Ab
open Go Go.RowKit

def isErr (cs : Array Value) : Prop := ∃ ev, cs[0]? = some ev ∧ (ev = Value.nilIface ∨ ∃ te pe, ev = Value.iface te pe)
def libB (P : Program) : List (Nat × (Array Value → Prop)) :=
  [((P.globalNamed "internal/bytealg.MaxLen").getD 0, fun cs => ∃ m, cs[0]? = some (Value.int .i64 m)), ((P.globalNamed "strconv.ErrSyntax").getD 0, isErr), ((P.globalNamed "strconv.ErrRange").getD 0, isErr),
    ((P.globalNamed "internal/strconv.uint64pow10").getD 0, fun cs => cs = (Lib.pow10Tab.map fun z => Value.int .u64 z).toArray)]
theorem gok_more {P : Program} {gl : List (Nat × (Nat × (Nat → Cell)))} {bl : List (Nat × (Array Value → Prop))} {W : World} (h : (⟨P, gl, []⟩ : Env).gok W (fun b => b < W.heap.size))
    (hb : ∀ p ∈ bl, ∃ cs t f, W.heap[p.1]? = some (Obj.cells cs t f) ∧ p.2 cs) : (⟨P, gl, bl⟩ : Env).gok W (fun b => b < W.heap.size) :=
  ⟨h.1, fun p hp => by
    obtain ⟨cs, t, f, h1, h2⟩ := hb p hp
    exact ⟨(Array.getElem?_eq_some_iff.1 h1).1, cs, t, f, h1, h2⟩⟩
theorem blk_of_cell {w : World} {g : Nat} {v : Value} (h : w.cell? ⟨g, 0, none⟩ = some v) : ∃ cs t f, w.heap[g]? = some (Obj.cells cs t f) ∧ cs[0]? = some v := by
  unfold World.cell? at h
  cases hh : w.heap[g]? with
  | none => simp [hh] at h
  | some o => cases o <;> simp [hh] at h ⊢; exact h
theorem blk_of_var {w : World} {P : Program} {n : String} {g : Nat} {cs : Array Value} (hg : P.globalNamed n = some g) (h : w.var? P n = some cs) : ∃ t f, w.heap[g]? = some (Obj.cells cs t f) := by
  simp only [World.var?, hg, Option.bind_some] at h
  split at h
  · rename_i c t f e
    cases h
    exact ⟨_, _, e⟩
  · cases h
end Go.Proofs.YtjnpnpkjmlihdaaDoor.Ab
