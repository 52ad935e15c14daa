/- An evaluator of the model's operations over a heap of its own: definitions. -/
import Derived.Calls
import Derived.LoopN
set_option linter.unusedVariables false
namespace Tk
open Go

/- lists, by their recursor -/
section lists
variable {α β : Type}
noncomputable def appL (l m : List α) : List α := List.rec m (fun a _ ih => a :: ih) l
noncomputable def dropL (l : List α) : Nat → List α := List.rec (fun _ => []) (fun a t ih n => Nat.rec (a :: t) (fun k _ => ih k) n) l
noncomputable def takeL (l : List α) : Nat → List α := List.rec (fun _ => []) (fun a _ ih n => Nat.rec [] (fun k _ => a :: ih k) n) l
noncomputable def lenL (l : List α) : Nat := List.rec 0 (fun _ _ ih => ih + 1) l
noncomputable def nthL (l : List α) : Nat → Option α := List.rec (fun _ => none) (fun a _ ih n => Nat.rec (some a) (fun k _ => ih k) n) l
noncomputable def allL (p : α → Bool) (l : List α) : Bool := List.rec true (fun a _ ih => match p a with | true => ih | false => false) l
end lists

/-- Whole numbers, some of them unknown (var). -/
inductive E where
  | lit (n : Int)
  | var (i : Nat)
  | add (a b : E)
  | sub (a b : E)
  | wrap (k : IntKind) (a : E)
  | bop (op : BinOp) (k : IntKind) (a b : E)
  /-- q: x = y; else x < y: a, else b -/
  | ite (q : Bool) (x y a b : E)

/-- What an operation on two numbers of a kind comes to (the ones that are no comparisons, sums, differences). -/
noncomputable def bopV (op : BinOp) (k : IntKind) (x y : Int) : Int :=
  match op with
  | .mul => k.wrap (x * y)
  | .quo => k.wrap (x.tdiv y)
  | .rem => x.tmod y
  | .and => k.wrap (BitVec.ofInt k.bits x &&& BitVec.ofInt k.bits y).toNat
  | .or => k.wrap (BitVec.ofInt k.bits x ||| BitVec.ofInt k.bits y).toNat
  | .xor => k.wrap (BitVec.ofInt k.bits x ^^^ BitVec.ofInt k.bits y).toNat
  | .andNot => k.wrap (BitVec.ofInt k.bits x &&& ~~~BitVec.ofInt k.bits y).toNat
  | .shl => k.wrap (x * 2 ^ (min y.toNat k.bits))
  | .shr => x.fdiv (2 ^ (min y.toNat k.bits))
  | _ => 0

noncomputable def E.den (σ : Nat → Int) : E → Int
  | .lit n => n
  | .var i => σ i
  | .add a b => a.den σ + b.den σ
  | .sub a b => a.den σ - b.den σ
  | .wrap k a => k.wrap (a.den σ)
  | .bop op k a b => bopV op k (a.den σ) (b.den σ)
  | .ite q x y a b => match (match q with | true => decide (x.den σ = y.den σ) | false => decide (x.den σ < y.den σ)) with
    | true => a.den σ
    | false => b.den σ

/- quick tests -/
noncomputable def ltI : Int → Int → Bool
  | .ofNat a, .ofNat b => Nat.ble (a + 1) b
  | .ofNat _, .negSucc _ => false
  | .negSucc _, .ofNat _ => true
  | .negSucc a, .negSucc b => Nat.ble (b + 1) a
noncomputable def eqI : Int → Int → Bool
  | .ofNat a, .ofNat b => Nat.beq a b
  | .negSucc a, .negSucc b => Nat.beq a b
  | _, _ => false
noncomputable def kNo : IntKind → Nat
  | .i8 => 0 | .i16 => 1 | .i32 => 2 | .i64 => 3 | .u8 => 4 | .u16 => 5 | .u32 => 6 | .u64 => 7
noncomputable def eqK (a b : IntKind) : Bool := Nat.beq (kNo a) (kNo b)
noncomputable def opNo : BinOp → Nat
  | .add => 0 | .sub => 1 | .mul => 2 | .quo => 3 | .rem => 4 | .and => 5 | .or => 6 | .xor => 7 | .shl => 8 | .shr => 9 | .andNot => 10
  | .eql => 11 | .neq => 12 | .lss => 13 | .leq => 14 | .gtr => 15 | .geq => 16
noncomputable def topK : IntKind → Nat
  | .i8 => 127 | .i16 => 32767 | .i32 => 2147483647 | .i64 => 9223372036854775807 | .u8 => 255 | .u16 => 65535 | .u32 => 4294967295 | .u64 => 18446744073709551615
/-- k.wrap, with a quick way for what is not below 0 and in range -/
noncomputable def wrapI (k : IntKind) : Int → Int
  | .ofNat m => match Nat.ble m (topK k) with
    | true => .ofNat m
    | false => k.wrap (.ofNat m)
  | .negSucc m => k.wrap (.negSucc m)
noncomputable def addI : Int → Int → Int
  | .ofNat a, .ofNat b => .ofNat (a + b)
  | a, b => a + b
noncomputable def eqE : E → E → Bool
  | .lit a, .lit b => eqI a b
  | .var a, .var b => Nat.beq a b
  | .add a b, .add c d => eqE a c && eqE b d
  | .sub a b, .sub c d => eqE a c && eqE b d
  | .wrap k a, .wrap l b => eqK k l && eqE a b
  | .bop o k a b, .bop p l c d => Nat.beq (opNo o) (opNo p) && eqK k l && eqE a c && eqE b d
  | .ite p x y a b, .ite q u v c d => (match p, q with | true, true => true | false, false => true | _, _ => false) && eqE x u && eqE y v && eqE a c && eqE b d
  | _, _ => false

/-- a piece of a text: a byte; the i-th of the k digits of a number -/
inductive Pc where
  | b (n : Nat)
  | d (e : E) (k i : Nat)
noncomputable def samePc : Pc → Pc → Bool
  | .b m, .b n => Nat.beq m n
  | .d e k i, .d e' k' i' => eqE e e' && Nat.beq k k' && Nat.beq i i'
  | _, _ => false
noncomputable def samePs : List Pc → List Pc → Bool
  | [], [] => true
  | a :: l, b :: m => samePc a b && samePs l m
  | _, _ => false
noncomputable def pcs : List Nat → List Pc
  | [] => []
  | n :: l => .b n :: pcs l
noncomputable def flatP : List Pc → Option (List Nat)
  | [] => some []
  | .b n :: l => match flatP l with
    | some r => some (n :: r)
    | none => none
  | .d _ _ _ :: _ => none

inductive V where
  | bool (b : Bool)
  | int (k : IntKind) (e : E)
  | str (s : List Nat)
  | ptr (r o : Nat)
  | pnil
  | slice (r o len cap esz : Nat) (ex : Bool)
  | eslice (ex : Bool)
  | snil
  | map (r : Nat)
  | mnil
  | func (fn : FuncId) (first captured : List V)
  | fnil
  | iface (t : TypeId) (v : V)
  | inil
  | agg (cs : List V)
  | tuple (vs : List V)
  /-- a text of which some pieces are digits of numbers that are not known -/
  | strd (ps : List Pc)
  /-- the place of an element of a number that is not known: e of n, each of sz cells -/
  | ptx (r o sz : Nat) (e : E) (n : Nat)
  /-- a slice of which the length alone is known -/
  | vsl (e : E)
  /-- what is not known any more -/
  | junk

noncomputable def eqNats : List Nat → List Nat → Bool
  | [], [] => true
  | a :: l, b :: m => Nat.beq a b && eqNats l m
  | _, _ => false
noncomputable def eqB : Bool → Bool → Bool
  | true, true => true
  | false, false => true
  | _, _ => false
mutual
noncomputable def sameV : V → V → Bool
  | .bool a, .bool b => eqB a b
  | .int k a, .int l b => eqK k l && eqE a b
  | .str a, .str b => eqNats a b
  | .ptr r o, .ptr r' o' => Nat.beq r r' && Nat.beq o o'
  | .pnil, .pnil => true
  | .slice r o a b c x, .slice r' o' a' b' c' x' => Nat.beq r r' && Nat.beq o o' && Nat.beq a a' && Nat.beq b b' && Nat.beq c c' && eqB x x'
  | .eslice x, .eslice y => eqB x y
  | .snil, .snil => true
  | .map r, .map r' => Nat.beq r r'
  | .mnil, .mnil => true
  | .func f a b, .func g c d => Nat.beq f g && sameVs a c && sameVs b d
  | .fnil, .fnil => true
  | .iface t v, .iface t' v' => Nat.beq t t' && sameV v v'
  | .inil, .inil => true
  | .agg a, .agg b => sameVs a b
  | .tuple a, .tuple b => sameVs a b
  | .strd a, .strd b => samePs a b
  | .vsl a, .vsl b => eqE a b
  | .ptx r o s e n, .ptx r' o' s' e' n' => Nat.beq r r' && Nat.beq o o' && Nat.beq s s' && eqE e e' && Nat.beq n n'
  | _, _ => false
noncomputable def sameVs : List V → List V → Bool
  | [], [] => true
  | a :: l, b :: m => sameV a b && sameVs l m
  | _, _ => false
end

inductive Tr (α : Type) where
  | lf
  | nd (l : Tr α) (x : Option α) (r : Tr α)

namespace Tr
variable {α : Type}
noncomputable def single : Nat → Nat → α → Tr α
  | 0, _, _ => .lf
  | f + 1, i, v => match i with
    | 0 => .nd .lf (some v) .lf
    | i + 1 => match i % 2 with
      | 0 => .nd (single f (i / 2) v) none .lf
      | _ + 1 => .nd .lf none (single f (i / 2) v)
noncomputable def get (t : Tr α) : Nat → Option α :=
  Tr.rec (fun _ => none) (fun _ x _ il ir i => Nat.rec x (fun j _ => Nat.rec (il (j / 2)) (fun _ _ => ir (j / 2)) (j % 2)) i) t
noncomputable def set (t : Tr α) : Nat → α → Tr α :=
  Tr.rec (fun i v => single (i + 1) i v) (fun l x r il ir i v => Nat.rec (.nd l (some v) r) (fun j _ => Nat.rec (.nd (il (j / 2) v) x r) (fun _ _ => .nd l x (ir (j / 2) v)) (j % 2)) i) t
noncomputable def del (t : Tr α) : Nat → Tr α :=
  Tr.rec (fun _ => .lf) (fun l x r il ir i => Nat.rec (.nd l none r) (fun j _ => Nat.rec (.nd (il (j / 2)) x r) (fun _ _ => .nd l x (ir (j / 2))) (j % 2)) i) t
end Tr

inductive Ob where
  | cells (sz : Nat) (cs : List (List V)) (ro : Bool)
  | map (es : List (V × V × Nat)) (clock : Nat)
  | mapIter (m : Option Nat) (since : Nat) (seen : List Nat) (stepped : Nat)
  | strIter (s : List Nat) (pos : Nat)

structure H where
  tr : Tr Ob
  next : Nat

abbrev Tm := Tr V
noncomputable def undefV : V := .tuple []
noncomputable def Tm.get (T : Tm) (i : Nat) : V := match Tr.get T i with
  | some v => v
  | none => undefV
/-- n: how many slots there are -/
noncomputable def put (n : Nat) (dst : Option Tmp) : V → Tm → Option Tm :=
  match dst with
  | none => fun _ T => some T
  | some d => match Nat.ble (d + 1) n with
    | true => fun v T => some (Tr.set T d v)
    | false => fun _ _ => none

abbrev CallF := FuncId → List V → H → Option (V × H)
structure Cx where
  P : Program
  rng : List (Int × Int)
  facts : List (Bool × E × E × Bool)
  ext : FuncId → Option (List V → H → Option (V × H))
  blk : FuncId → Nat → Option (Tm → H → Option (Tm × H))

/- numbers -/
noncomputable def E.rg (R : List (Int × Int)) : E → Option (Int × Int)
  | .lit n => some (n, n)
  | .var i => nthL R i
  | .add a b => match a.rg R, b.rg R with
    | some (la, ha), some (lb, hb) => some (la + lb, ha + hb)
    | _, _ => none
  | .sub a b => match a.rg R, b.rg R with
    | some (la, ha), some (lb, hb) => some (la - hb, ha - lb)
    | _, _ => none
  | .wrap k _ => some (k.min, k.max)
  | .bop op k a b => match op with
    | .rem => match a.rg R, b with
      | some (la, _), .lit c => match ltI la 0, ltI 0 c with
        | false, true => some (0, c - 1)
        | _, _ => none
      | _, _ => none
    | .and => match b with
      | .lit c => match (match a.rg R with
          | some (la, ha) => match eqI la ha with
            | true => some la
            | false => none
          | none => none) with
        | some n => some (bopV .and k n c, bopV .and k n c)
        | none => match ltI c 0, ltI k.max c with
          | false, false => some (0, c)
          | _, _ => some (k.min, k.max)
      | _ => some (k.min, k.max)
    | .mul | .quo | .or | .xor | .andNot | .shl => some (k.min, k.max)
    | .shr => match a.rg R with
      | some (la, ha) => match ltI la 0 with
        | false => match la with
          | .ofNat l => match ha with
            | .ofNat u => match b with
              | .lit (.ofNat s) => match Nat.ble s k.bits with
                | true => some (.ofNat (l / 2 ^ s), .ofNat (u / 2 ^ s))
                | false => some (0, .ofNat u)
              | _ => some (0, .ofNat u)
            | .negSucc u => some (0, .negSucc u)
          | .negSucc _ => none
        | true => none
      | none => none
    | _ => none
  | .ite _ _ _ a b => match a.rg R, b.rg R with
    | some (la, ha), some (lb, hb) => some (match ltI la lb with | true => la | false => lb, match ltI ha hb with | true => hb | false => ha)
    | _, _ => none

noncomputable def lookFact (fs : List (Bool × E × E × Bool)) (q : Bool) (a b : E) : Option Bool :=
  match fs with
  | [] => none
  | (q', a', b', t) :: fs => match eqB q' q && eqE a' a && eqE b' b with
    | true => some t
    | false => lookFact fs q a b
noncomputable def maxO (a : Nat) : Option Nat → Option Nat
  | none => some a
  | some b => match Nat.ble a b with
    | true => some b
    | false => some a
noncomputable def minO (a : Nat) : Option Nat → Option Nat
  | none => some a
  | some b => match Nat.ble a b with
    | true => some a
    | false => some b
/-- what facts tell of a number's bounds -/
noncomputable def lowF (a : E) : List (Bool × E × E × Bool) → Option Nat → Option Nat
  | [], r => r
  | (q, x, y, t) :: fs, r => match q with
    | true => lowF a fs r
    | false => match t with
      | true => match x with
        | .lit (.ofNat c) => match eqE y a with
          | true => lowF a fs (maxO (c + 1) r)
          | false => lowF a fs r
        | _ => lowF a fs r
      | false => match y with
        | .lit (.ofNat c) => match eqE x a with
          | true => lowF a fs (maxO c r)
          | false => lowF a fs r
        | _ => lowF a fs r
noncomputable def highF (a : E) : List (Bool × E × E × Bool) → Option Nat → Option Nat
  | [], r => r
  | (q, x, y, t) :: fs, r => match q with
    | true => highF a fs r
    | false => match t with
      | true => match y with
        | .lit (.ofNat (c + 1)) => match eqE x a with
          | true => highF a fs (minO c r)
          | false => highF a fs r
        | _ => highF a fs r
      | false => match x with
        | .lit (.ofNat c) => match eqE y a with
          | true => highF a fs (minO c r)
          | false => highF a fs r
        | _ => highF a fs r
/-- bounds of a number that is not below 0 -/
noncomputable def bndE (Γ : Cx) (a : E) : Option (Nat × Nat) := match (match a.rg Γ.rng with
    | some (.ofNat l, .ofNat u) => (some l, some u)
    | some (.negSucc _, .ofNat u) => (none, some u)
    | _ => (none, none)) with
  | (l, u) => match lowF a Γ.facts l, highF a Γ.facts u with
    | some l, some u => some (l, u)
    | _, _ => none
/-- what facts tell of two numbers, by their bounds -/
noncomputable def ltB (Γ : Cx) (a b : E) : Option Bool := match bndE Γ a, bndE Γ b with
  | some (la, ua), some (lb, ub) => match Nat.ble (ua + 1) lb with
    | true => some true
    | false => match Nat.ble ub la with
      | true => some false
      | false => none
  | _, _ => none
noncomputable def eqB2 (Γ : Cx) (a b : E) : Option Bool := match bndE Γ a, bndE Γ b with
  | some (la, ua), some (lb, ub) => match Nat.ble (ua + 1) lb with
    | true => some false
    | false => match Nat.ble (ub + 1) la with
      | true => some false
      | false => match Nat.beq la ua && Nat.beq lb ub && Nat.beq la lb with
        | true => some true
        | false => none
  | _, _ => none
noncomputable def ltS (Γ : Cx) (a b : E) : Option Bool :=
  match lookFact Γ.facts false a b with
  | some t => some t
  | none => match a.rg Γ.rng, b.rg Γ.rng with
    | some (la, ha), some (lb, hb) => match ltI ha lb with
      | true => some true
      | false => match ltI la hb with
        | false => some false
        | true => ltB Γ a b
    | _, _ => ltB Γ a b
noncomputable def ltE (Γ : Cx) (a b : E) : Option Bool :=
  match a, b with
  | .lit x, .lit y => some (ltI x y)
  | a, b => ltS Γ a b
noncomputable def eqS (Γ : Cx) (a b : E) : Option Bool :=
  match eqE a b with
  | true => some true
  | false => match (match lookFact Γ.facts true a b with | some t => some t | none => lookFact Γ.facts true b a) with
    | some t => some t
    | none => match a.rg Γ.rng, b.rg Γ.rng with
      | some (la, ha), some (lb, hb) => match ltI ha lb with
        | true => some false
        | false => match ltI hb la with
          | true => some false
          | false => match eqI la ha && eqI lb hb && eqI la lb with
            | true => some true
            | false => eqB2 Γ a b
      | _, _ => eqB2 Γ a b
noncomputable def isE (Γ : Cx) (a b : E) : Option Bool :=
  match a, b with
  | .lit x, .lit y => some (eqI x y)
  | .lit x, b => eqS Γ b (.lit x)
  | a, b => eqS Γ a b
noncomputable def wrapS (Γ : Cx) (k : IntKind) (e : E) : E :=
  match e.rg Γ.rng with
  | some (l, h) => match ltI l k.min, ltI k.max h with
    | false, false => e
    | _, _ => .wrap k e
  | none => .wrap k e
noncomputable def wrapE (Γ : Cx) (k : IntKind) (e : E) : E :=
  match e with
  | .lit n => .lit (wrapI k n)
  | e => wrapS Γ k e
noncomputable def addS (a b : E) : E := match a, b with
  | .sub x (.lit p), .lit q => .sub x (.lit (p - q))
  | .add x (.lit p), .lit q => .add x (.lit (p + q))
  | a, b => .add a b
noncomputable def addE (a b : E) : E := match a, b with
  | .lit x, .lit y => .lit (addI x y)
  | a, b => addS a b
noncomputable def subS (a b : E) : E := match a, b with
  | .sub x (.lit p), .lit q => .sub x (.lit (p + q))
  | .add x (.lit p), .lit q => .add x (.lit (p - q))
  | a, b => .sub a b
noncomputable def subE (a b : E) : E := match a, b with
  | .lit x, .lit y => .lit (x - y)
  | a, b => subS a b
/-- a number that its bounds tell -/
noncomputable def pinS (Γ : Cx) (e : E) : E := match e.rg Γ.rng with
  | some (l, h) => match eqI l h with
    | true => .lit l
    | false => e
  | none => e
noncomputable def pinE (Γ : Cx) (e : E) : E := match e with
  | .lit n => .lit n
  | e => pinS Γ e
/-- 'or' with two known numbers, one behind the other -/
noncomputable def bopS (op : BinOp) (k : IntKind) (a b : E) : E := match op with
  | .or => match a, b with
    | .bop .or k' x (.lit p), .lit q => match eqK k' k with
      | true => .bop .or k x (.lit (bopV .or k p q))
      | false => .bop .or k a b
    | a, b => .bop .or k a b
  | op => .bop op k a b
noncomputable def bopE (op : BinOp) (k : IntKind) (a b : E) : E := match a, b with
  | .lit x, .lit y => .lit (bopV op k x y)
  | a, b => bopS op k a b

noncomputable def vbool (b : Option Bool) : Option V := match b with
  | some b => some (.bool b)
  | none => none
noncomputable def vnot (b : Option Bool) : Option V := match b with
  | some true => some (.bool false)
  | some false => some (.bool true)
  | none => none
/-- a number that a fact tells -/
noncomputable def litOf (e : E) : List (Bool × E × E × Bool) → Option Int
  | [] => none
  | (q, a, b, t) :: fs => match b with
    | .lit n => match q && t && eqE a e with
      | true => some n
      | false => litOf e fs
    | _ => litOf e fs
noncomputable def fixE (Γ : Cx) (e : E) : E := match e with
  | .lit n => .lit n
  | e => match litOf e Γ.facts with
    | some n => .lit n
    | none => pinS Γ e
noncomputable def divInt (Γ : Cx) (op : BinOp) (k : IntKind) (a b : E) : Option V := match isE Γ b (.lit 0) with
  | some false => some (.int k (fixE Γ (bopE op k a b)))
  | _ => none
noncomputable def shiftInt (Γ : Cx) (op : BinOp) (k : IntKind) (a b : E) : Option V := match ltE Γ b (.lit 0) with
  | some false => some (.int k (fixE Γ (bopE op k a b)))
  | _ => none
/-- 'or' of two numbers of which the second one stands below the first one's last place -/
noncomputable def orE (Γ : Cx) (k : IntKind) (a b : E) : E := match a with
  | .lit (.ofNat l) => match b with
    | .lit n => bopE .or k (.lit (.ofNat l)) (.lit n)
    | b => match bndE Γ b with
      | some (_, u) => match Nat.beq (l % 2 ^ (Nat.log2 u + 1)) 0 && Nat.ble (l + u) (topK k) with
        | true => .add (.lit (.ofNat l)) b
        | false => bopE .or k (.lit (.ofNat l)) b
      | none => bopE .or k (.lit (.ofNat l)) b
  | a => bopE .or k a b
/-- is x below 2 ^ j? -/
noncomputable def belowP (Γ : Cx) (x : E) (c : Nat) : Bool := match bndE Γ x with
  | some (_, u) => Nat.ble u c
  | none => false
/-- 'and' with a number of ones -/
noncomputable def andE (Γ : Cx) (k : IntKind) (a b : E) : E := match b with
  | .lit (.ofNat c) => match Nat.beq (2 ^ (Nat.log2 c + 1)) (c + 1) && Nat.ble c (topK k) with
    | false => bopE .and k a (.lit (.ofNat c))
    | true => match a with
      | .lit n => bopE .and k (.lit n) (.lit (.ofNat c))
      | .add (.lit (.ofNat l)) x => match belowP Γ x c && Nat.beq (l % (c + 1)) 0 && Nat.ble (l + c) (topK k) with
        | true => x
        | false => bopE .and k (.add (.lit (.ofNat l)) x) (.lit (.ofNat c))
      | a => match belowP Γ a c with
        | true => a
        | false => bopE .and k a (.lit (.ofNat c))
  | b => bopE .and k a b
noncomputable def bopG (Γ : Cx) (op : BinOp) (k : IntKind) (a b : E) : E := match op with
  | .and => andE Γ k a b
  | .or => orE Γ k a b
  | op => bopE op k a b
/-- two numbers of a kind -/
noncomputable def binInt (op : BinOp) : Cx → IntKind → E → E → Option V :=
  match op with
  | .add => fun Γ k a b => some (.int k (wrapE Γ k (addE (pinE Γ a) (pinE Γ b))))
  | .sub => fun Γ k a b => some (.int k (wrapE Γ k (subE (pinE Γ a) (pinE Γ b))))
  | .mul => fun Γ k a b => some (.int k (bopE .mul k a b))
  | .quo => fun Γ k a b => divInt Γ .quo k a b
  | .rem => fun Γ k a b => divInt Γ .rem k a b
  | .and => fun Γ k a b => some (.int k (fixE Γ (andE Γ k a b)))
  | .or => fun Γ k a b => some (.int k (orE Γ k a b))
  | .xor => fun Γ k a b => some (.int k (bopE .xor k a b))
  | .andNot => fun Γ k a b => some (.int k (bopE .andNot k a b))
  | .eql => fun Γ k a b => vbool (isE Γ a b)
  | .neq => fun Γ k a b => vnot (isE Γ a b)
  | .lss => fun Γ k a b => vbool (ltE Γ a b)
  | .geq => fun Γ k a b => vnot (ltE Γ a b)
  | .gtr => fun Γ k a b => vbool (ltE Γ b a)
  | .leq => fun Γ k a b => vnot (ltE Γ b a)
  | _ => fun _ _ _ _ => none

/- constants -/
mutual
noncomputable def ofValue : Value → Option V
  | .bool b => some (.bool b)
  | .int k n => some (.int k (.lit n))
  | .string s => some (.str (s.data.toList.map (·.toNat)))
  | .pointer none => some .pnil
  | .slice none 0 0 => some .snil
  | .map none => some .mnil
  | .nilFunc => some .fnil
  | .nilIface => some .inil
  | .agg cs => (ofValues cs.toList).map .agg
  | .tuple cs => (ofValues cs.toList).map .tuple
  | _ => none
noncomputable def ofValues : List Value → Option (List V)
  | [] => some []
  | v :: vs => match ofValue v, ofValues vs with
    | some v, some vs => some (v :: vs)
    | _, _ => none
end

noncomputable def opd : Operand → Tm → Option V
  | .tmp t => fun T => some (Tm.get T t)
  | .const v => match ofValue v with
    | some v => fun _ => some v
    | none => fun _ => none
  | .global g => fun _ => some (.ptr g 0)
  | .func f => fun _ => some (.func f [] [])
noncomputable def opds : List Operand → Tm → Option (List V)
  | [] => fun _ => some []
  | o :: os => fun T => match opd o T, opds os T with
    | some v, some vs => some (v :: vs)
    | _, _ => none

noncomputable def V.cells : V → List V
  | .agg cs => cs
  | v => [v]
noncomputable def V.scalar : V → Bool
  | .agg _ | .tuple _ | .junk => false
  | _ => true

/- types -/
noncomputable def aggT (P : Program) (t : TypeId) : Option Bool :=
  match P.underlying t with
  | some (.struct _) | some (.array _ _) => some true
  | some _ => some false
  | none => none
noncomputable def szT (P : Program) (t : TypeId) : Option Nat := match P.info? t with
  | some i => some i.size
  | none => none
noncomputable def zeroT (P : Program) (t : TypeId) : Option V :=
  match P.info? t with
  | some i => match i.zero with
    | some z => ofValue z
    | none => none
  | none => none
noncomputable def elemT (P : Program) (t : TypeId) : Option TypeId :=
  match P.underlying t with
  | some (.slice e) => some e
  | _ => none

/-- exactly n -/
noncomputable def takeX {α : Type} (n : Nat) (l : List α) : Option (List α) :=
  let r := takeL l n
  match Nat.beq (lenL r) n with
  | true => some r
  | false => none

noncomputable def partV (P : Program) (t : TypeId) (off : Nat) : List V → Option V :=
  match aggT P t, szT P t with
  | some true, some n => fun cs => match takeX n (dropL cs off) with
    | some l => some (.agg l)
    | none => none
  | some false, _ => fun cs => nthL cs off
  | _, _ => fun _ => none

/- cells of a block: pieces of sz -/
noncomputable def gather (cs : List (List V)) : Nat → Nat → Option (List V) :=
  List.rec (fun _ n => Nat.rec (some []) (fun _ _ => none) n)
    (fun c _ ih off n => match Nat.ble n (lenL (dropL c off)) with
      | true => some (takeL (dropL c off) n)
      | false => match ih 0 (n - lenL (dropL c off)) with
        | some r => some (appL (dropL c off) r)
        | none => none) cs
noncomputable def scatter (cs : List (List V)) : Nat → List V → Option (List (List V)) :=
  List.rec (fun _ vs => match vs with | [] => some [] | _ :: _ => none)
    (fun c rest ih off vs => match Nat.ble (lenL vs) (lenL c - off) with
      | true => some (appL (takeL c off) (appL vs (dropL c (off + lenL vs))) :: rest)
      | false => match ih 0 (dropL vs (lenL c - off)) with
        | some r => some (appL (takeL c off) (takeL vs (lenL c - off)) :: r)
        | none => none) cs
noncomputable def scatterAt (cs : List (List V)) : Nat → Nat → List V → Option (List (List V)) :=
  List.rec (fun q off vs => Nat.rec (scatter [] off vs) (fun _ _ => none) q)
    (fun c rest ih q off vs => Nat.rec (scatter (c :: rest) off vs) (fun k _ => match ih k off vs with
      | some r => some (c :: r)
      | none => none) q) cs
noncomputable def chunk (fuel sz : Nat) (l : List V) : List (List V) :=
  match fuel with
  | 0 => []
  | f + 1 => match l with
    | [] => []
    | a :: l => takeL (a :: l) sz :: chunk f sz (dropL (a :: l) sz)

noncomputable def H.read (h : H) (r o n : Nat) : Option (List V) :=
  match Tr.get h.tr r with
  | some (.cells sz cs _) => match sz with
    | 0 => none
    | s + 1 => gather (dropL cs (o / (s + 1))) (o % (s + 1)) n
  | _ => none
noncomputable def H.write (h : H) (r o : Nat) (vs : List V) : Option H :=
  match allL V.scalar vs with
  | true => match Tr.get h.tr r with
    | some (.cells sz cs false) => match sz with
      | 0 => none
      | s + 1 => match scatterAt cs (o / (s + 1)) (o % (s + 1)) vs with
        | some cs' => some { tr := Tr.set h.tr r (.cells (s + 1) cs' false), next := h.next }
        | none => none
    | _ => none
  | false => none
noncomputable def H.new (h : H) (ob : Ob) : H := { tr := Tr.set h.tr h.next ob, next := h.next + 1 }
/-- new cells, in pieces of sz (not 0) -/
noncomputable def H.newCells (h : H) (sz : Nat) (cs : List V) : Option H :=
  match sz with
  | 0 => none
  | s + 1 => some (h.new (.cells (s + 1) (chunk (lenL cs) (s + 1) cs) false))

/-- a bound that a fact tells: not c < a -/
noncomputable def capF (a : E) : List (Bool × E × E × Bool) → Option Nat
  | [] => none
  | (q, x, y, t) :: fs => match q, t with
    | false, false => match x with
      | .lit (.ofNat c) => match eqE y a with
        | true => some c
        | false => capF a fs
      | _ => capF a fs
    | _, _ => capF a fs
/-- a number that is not below 0: up to this one -/
noncomputable def boundN (Γ : Cx) (a : E) : Option Nat := match a.rg Γ.rng with
  | some (.ofNat _, .ofNat m) => some m
  | _ => match capF a Γ.facts, ltE Γ a (.lit 1) with
    | some c, some false => some c
    | _, _ => none
/-- what stands at n places, one behind the other, each sz further -/
noncomputable def readN (h : H) (r sz w : Nat) : Nat → Nat → Option (List (List V))
  | 0, _ => some []
  | n + 1, o => match h.read r o w with
    | some l => match readN h r sz w n (o + sz) with
      | some ls => some (l :: ls)
      | none => none
    | none => none
/-- all are the same -/
noncomputable def sameAll (v : V) : List V → Bool
  | [] => true
  | u :: l => sameV v u && sameAll v l
/-- each is its own number, from i on -/
noncomputable def countAll (k : IntKind) (i : Nat) : List V → Bool
  | [] => true
  | u :: l => sameV (.int k (.lit (.ofNat i))) u && countAll k (i + 1) l
/-- the one of the number e (from i on) -/
noncomputable def pickE (k : IntKind) (e : E) (i : Nat) : List V → Option E
  | [] => none
  | v :: l => match v with
    | .int k' a => match eqK k k' with
      | true => match l with
        | [] => some a
        | u :: l => match pickE k e (i + 1) (u :: l) with
          | some b => some (.ite true e (.lit (.ofNat i)) a b)
          | none => none
      | false => none
    | _ => none
noncomputable def pickV (e : E) : List V → Option V
  | [] => none
  | v :: l => match sameAll v l with
    | true => some v
    | false => match v with
      | .int k a => match countAll k 0 (.int k a :: l) with
        | true => some (.int k e)
        | false => match pickE k e 0 (.int k a :: l) with
          | some b => some (.int k b)
          | none => none
      | _ => none
/-- the heads of lists, and what is behind them -/
noncomputable def headsV : List (List V) → Option (List V × List (List V))
  | [] => some ([], [])
  | l :: ls => match l with
    | [] => none
    | v :: t => match headsV ls with
      | some (vs, ts) => some (v :: vs, t :: ts)
      | none => none
/-- the list of the number e -/
noncomputable def pickL (e : E) : Nat → List (List V) → Option (List V)
  | 0, _ => some []
  | w + 1, ls => match headsV ls with
    | some (vs, ts) => match pickV e vs, pickL e w ts with
      | some v, some l => some (v :: l)
      | _, _ => none
    | none => none
noncomputable def readX (h : H) (r o sz : Nat) (e : E) (n w : Nat) : Option (List V) := match readN h r sz w n o with
  | some ls => pickL e w ls
  | none => none
noncomputable def loadP (P : Program) (t : TypeId) : H → V → Option V :=
  match aggT P t, szT P t with
  | some true, some n => fun h a => match a with
    | .ptr r o => match h.read r o n with
      | some l => some (.agg l)
      | none => none
    | .ptx r o sz e m => match readX h r o sz e m n with
      | some l => some (.agg l)
      | none => none
    | _ => none
  | some false, _ => fun h a => match a with
    | .ptr r o => match h.read r o 1 with
      | some [v] => some v
      | _ => none
    | .ptx r o sz e m => match readX h r o sz e m 1 with
      | some [v] => some v
      | _ => none
    | _ => none
  | _, _ => fun _ _ => none
noncomputable def storeP (P : Program) (t : TypeId) : H → V → V → Option H :=
  match szT P t with
  | some n => fun h a v => match a with
    | .ptr r o => match Nat.beq (lenL v.cells) n with
      | true => h.write r o v.cells
      | false => none
    | _ => none
  | none => fun _ _ _ => none

/- aggregates -/
noncomputable def putAt (l : List V) (off : Nat) (vs : List V) : List V := appL (takeL l off) (appL vs (dropL l (off + lenL vs)))
noncomputable def isJunk : V → Bool
  | .junk => true
  | _ => false
noncomputable def fillV (place : Nat → Option (Nat × Nat)) (cells : List V) : List (Nat × V) → Option (List V)
  | [] => some cells
  | (i, v) :: rest =>
    match (match isJunk v with | true => none | false => place i) with
    | none => none
    | some (off, size) => match Nat.beq (lenL v.cells) size && Nat.ble (off + size) (lenL cells) with
      | true => fillV place (putAt cells off v.cells) rest
      | false => none
noncomputable def fieldPlaces (P : Program) : List Field → Option (List (Nat × Nat))
  | [] => some []
  | f :: fs => match szT P f.type, fieldPlaces P fs with
    | some n, some l => some ((f.offset, n) :: l)
    | _, _ => none
noncomputable def partsV : List (Nat × Operand) → Tm → Option (List (Nat × V))
  | [] => fun _ => some []
  | (i, x) :: l => fun T => match opd x T, partsV l T with
    | some v, some l => some ((i, v) :: l)
    | _, _ => none
noncomputable def aggO (o : Option (List V)) : Option V := match o with
  | some l => some (.agg l)
  | none => none
noncomputable def buildP (P : Program) (t : TypeId) : List (Nat × V) → Option V :=
  match zeroT P t, P.underlying t with
  | some z, some (.struct fields) => match fieldPlaces P fields.toList with
    | some pl => fun parts => aggO (fillV (nthL pl) z.cells parts)
    | none => fun _ => none
  | some z, some (.array _ e) => match szT P e with
    | some n => fun parts => aggO (fillV (fun i => some (i * n, n)) z.cells parts)
    | none => fun _ => none
  | _, _ => fun _ => none
noncomputable def repl (n : Nat) (z : List V) : List V := match n with
  | 0 => []
  | n + 1 => appL z (repl n z)
noncomputable def withNew (h : Option H) (v : V) : Option (V × H) := match h with
  | some h => some (v, h)
  | none => none
noncomputable def buildSliceP (P : Program) (t : TypeId) (len : Nat) : List (Nat × V) → H → Option (V × H) :=
  match elemT P t with
  | some e => match szT P e, zeroT P e with
    | some n, some z => match Nat.beq (lenL z.cells) n && Nat.ble (len * n) (2 ^ 24) with
      | true => fun parts h => match fillV (fun i => some (i * n, n)) (repl len z.cells) parts with
        | some cs => match allL V.scalar cs with
          | true => withNew (h.newCells n cs) (.slice h.next 0 len len n true)
          | false => none
        | none => none
      | false => fun _ _ => none
    | _, _ => fun _ _ => none
  | none => fun _ _ => none
noncomputable def newVar (v : V) (h : H) : Option (V × H) :=
  match allL V.scalar v.cells with
  | true => withNew (h.newCells (lenL v.cells) v.cells) (.ptr h.next 0)
  | false => none

noncomputable def natOf : V → Option Nat
  | .int _ (.lit (.ofNat n)) => some n
  | _ => none

/-- a length that is a number with bounds -/
noncomputable def symLen (Γ : Cx) (bytes : Nat) : V → V → Option E
  | .int k a, .int k' b => match eqK k .i64 && eqK k' .i64 && eqE a b with
    | true => match boundN Γ a with
      | some m => match Nat.ble m (2 ^ 31) && Nat.ble (bytes * m) (2 ^ 47) with
        | true => some a
        | false => none
      | none => none
    | false => none
  | _, _ => none
noncomputable def makeSym (Γ : Cx) (bytes size : Nat) (l c : V) (h : H) : Option (V × H) := match size with
  | 0 => none
  | s + 1 => match symLen Γ bytes l c with
    | some e => some (.vsl e, h.new (.cells (s + 1) [] false))
    | none => none
noncomputable def makeSliceP (Γ : Cx) (P : Program) (t : TypeId) : V → V → H → Option (V × H) :=
  match elemT P t with
  | some e => match P.info? e, zeroT P e with
    | some i, some z => match Nat.beq (lenL z.cells) i.size && allL V.scalar z.cells with
      | true => fun l c h => match natOf l, natOf c with
        | some l, some c => match Nat.ble l c && Nat.ble c (2 ^ 31) && Nat.ble (i.bytes * c) (2 ^ 47) with
          | true => withNew (h.newCells i.size (repl c z.cells)) (.slice h.next 0 l c i.size true)
          | false => none
        | _, _ => makeSym Γ i.bytes i.size l c h
      | false => fun _ _ _ => none
    | _, _ => fun _ _ _ => none
  | none => fun _ _ _ => none

noncomputable def fieldAtP (P : Program) (s : TypeId) (f : Nat) : V → Option V :=
  match P.underlying s with
  | some (.struct fields) => match fields[f]? with
    | some fd => match szT P fd.type with
      | some (_ + 1) => fun a => match a with
        | .ptr r o => some (.ptr r (o + fd.offset))
        | .ptx r o sz e n => some (.ptx r (o + fd.offset) sz e n)
        | _ => none
      | _ => fun _ => none
    | none => fun _ => none
  | _ => fun _ => none
noncomputable def fieldP (P : Program) (s : TypeId) (f : Nat) : V → Option V :=
  match P.underlying s with
  | some (.struct fields) => match fields[f]? with
    | some fd => fun a => match a with
      | .agg cs => partV P fd.type fd.offset cs
      | _ => none
    | none => fun _ => none
  | _ => fun _ => none
noncomputable def elemAt (r o i n len : Nat) : Option V := match Nat.ble (i + 1) len with
  | true => some (.ptr r (o + i * n))
  | false => none
/-- an element of a number that is not known, within the bounds -/
noncomputable def elemX (Γ : Cx) (r o n len : Nat) : V → Option V
  | .int _ a => match boundN Γ a with
    | some m => match Nat.ble (m + 1) len with
      | true => some (.ptx r o n a (m + 1))
      | false => none
    | none => none
  | _ => none
noncomputable def indexAtP (Γ : Cx) (P : Program) (t : TypeId) : V → V → Option V :=
  match P.underlying t with
  | some (.array len e) => match szT P e with
    | some n => fun x i => match x, natOf i with
      | .ptr r o, some i => elemAt r o i n len
      | .ptr r o, none => elemX Γ r o n len i
      | .ptx r o sz a m, some i => match Nat.ble (i + 1) len with
        | true => some (.ptx r (o + i * n) sz a m)
        | false => none
      | _, _ => none
    | none => fun _ _ => none
  | some (.slice e) => match szT P e with
    | some n => fun x i => match x, natOf i with
      | .slice r o len _ _ _, some i => elemAt r o i n len
      | .slice r o len _ _ _, none => elemX Γ r o n len i
      | _, _ => none
    | none => fun _ _ => none
  | _ => fun _ _ => none
noncomputable def indexP (P : Program) (t : TypeId) : V → V → Option V :=
  match P.underlying t with
  | some (.array len e) => match szT P e with
    | some n => fun x i => match x, natOf i with
      | .agg cs, some i => match Nat.ble (i + 1) len with
        | true => partV P e (i * n) cs
        | false => none
      | _, _ => none
    | none => fun _ _ => none
  | some .string => fun x i => match x, natOf i with
    | .str s, some i => match nthL s i with
      | some b => some (.int .u8 (.lit (.ofNat (b % 256))))
      | none => none
    | _, _ => none
  | _ => fun _ _ => none

/-- a bound of a slicing: none, or a number up to y -/
noncomputable def upTo (n y : Nat) : Option Nat := match Nat.ble n y with
  | true => some n
  | false => none
noncomputable def boundV (x : Option V) (d y : Nat) : Option Nat := match x with
  | none => upTo d y
  | some v => match natOf v with
    | some n => upTo n y
    | none => none
/-- low and high -/
noncomputable def boundsV (lo hi : Option V) (d y : Nat) : Option (Nat × Nat) := match boundV hi d y with
  | some h => match boundV lo 0 h with
    | some l => some (l, h)
    | none => none
  | none => none
noncomputable def sliceAtV (r o l h cap esz : Nat) (ex : Bool) : Option V := match l with
  | 0 => some (.slice r o h cap esz ex)
  | k + 1 => match Nat.ble (k + 2) cap with
    | true => some (.slice r (o + (k + 1) * esz) (h - (k + 1)) (cap - (k + 1)) esz ex)
    | false => some (.eslice ex)
noncomputable def slice2 (n : Nat) (x : V) (lo hi : Option V) : Option V := match x with
  | .slice r o len cap esz ex => match Nat.beq n esz with
    | true => match boundsV lo hi len cap with
      | some (l, h) => sliceAtV r o l h cap esz ex
      | none => none
    | false => none
  | .eslice ex => match boundsV lo hi 0 0 with
    | some _ => some (.eslice ex)
    | none => none
  | .snil => match boundsV lo hi 0 0 with
    | some _ => some .snil
    | none => none
  | _ => none
noncomputable def slice3 (n : Nat) (x : V) (lo hi mx : Option V) : Option V := match mx, hi with
  | some mx, some hi => match x with
    | .slice r o len cap esz ex => match Nat.beq n esz, boundV (some mx) 0 cap with
      | true, some m => match boundsV lo (some hi) 0 m with
        | some (l, h) => sliceAtV r o l h m esz true
        | none => none
      | _, _ => none
    | .eslice _ => match boundV (some mx) 0 0, boundsV lo (some hi) 0 0 with
      | some _, some _ => some (.eslice true)
      | _, _ => none
    | .snil => match boundV (some mx) 0 0, boundsV lo (some hi) 0 0 with
      | some _, some _ => some .snil
      | _, _ => none
    | _ => none
  | _, _ => none
noncomputable def normD (ps : List Pc) : V := match flatP ps with
  | some s => .str s
  | none => .strd ps
noncomputable def sliceS (x : V) (lo hi : Option V) : Option V := match x with
  | .str s => match boundsV lo hi (lenL s) (lenL s) with
    | some (l, h) => some (.str (takeL (dropL s l) (h - l)))
    | none => none
  | .strd s => match boundsV lo hi (lenL s) (lenL s) with
    | some (l, h) => some (normD (takeL (dropL s l) (h - l)))
    | none => none
  | _ => none
noncomputable def sliceA (n sz : Nat) (x : V) (lo hi : Option V) : Option V := match x with
  | .ptr r o => match boundsV lo hi n n with
    | some (l, h) => match l, sz with
      | 0, s + 1 => some (.slice r o h n (s + 1) true)
      | k + 1, s + 1 => match Nat.ble (k + 2) n with
        | true => some (.slice r (o + (k + 1) * (s + 1)) (h - (k + 1)) (n - (k + 1)) (s + 1) true)
        | false => none
      | _, _ => none
    | none => none
  | _ => none
noncomputable def sliceP (P : Program) (t : TypeId) (three : Bool) : V → Option V → Option V → Option V → Option V :=
  match P.underlying t, three with
  | some .string, false => fun x lo hi _ => sliceS x lo hi
  | some (.slice e), false => match szT P e with
    | some n => fun x lo hi _ => slice2 n x lo hi
    | none => fun _ _ _ _ => none
  | some (.slice e), true => match szT P e with
    | some n => fun x lo hi mx => slice3 n x lo hi mx
    | none => fun _ _ _ _ => none
  | some (.array n e), false => match szT P e with
    | some sz => fun x lo hi _ => sliceA n sz x lo hi
    | none => fun _ _ _ _ => none
  | _, _ => fun _ _ _ _ => none

/- builtins -/
noncomputable def lenV (h : H) : V → Option Nat
  | .str s => some (lenL s)
  | .slice _ _ len _ _ _ => some len
  | .eslice _ => some 0
  | .snil => some 0
  | .mnil => some 0
  | .map r => match Tr.get h.tr r with
    | some (.map es _) => some (lenL es)
    | _ => none
  | _ => none
noncomputable def bytesV : List Nat → List V
  | [] => []
  | b :: l => .int .u8 (.lit (.ofNat (b % 256))) :: bytesV l
/-- the first n elements of a slice, of a text, as cells -/
noncomputable def firstV (h : H) (size n : Nat) : V → Option (List V)
  | .slice r o _ _ _ _ => match n with
    | 0 => some []
    | k + 1 => h.read r o ((k + 1) * size)
  | .snil => match n with
    | 0 => some []
    | _ + 1 => none
  | .eslice _ => match n with
    | 0 => some []
    | _ + 1 => none
  | .str s => some (bytesV (takeL s n))
  | _ => none
noncomputable def appKind (P : Program) (t : TypeId) : Option Bool := match P.underlying t with
  | some (.int _) => some true
  | some (.slice _) => some false
  | some .string => some false
  | _ => none
noncomputable def isIntT (P : Program) (t : TypeId) : Bool := match P.underlying t with
  | some (.int _) => true
  | _ => false
/-- what is appended: how many elements, as cells -/
noncomputable def appended (ints : Bool) (bytes size : Nat) (z : List V) (x : V) (h : H) : Option (Nat × List V) :=
  match ints with
  | true => match natOf x with
    | some n => match Nat.ble n (2 ^ 31) && Nat.ble (n * bytes) (2 ^ 47) with
      | true => some (n, repl n z)
      | false => none
    | none => none
  | false => match lenV h x with
    | some n => match firstV h size n x with
      | some l => some (n, l)
      | none => none
    | none => none
noncomputable def freshRow (size bytes : Nat) (old nw : List V) (total : Nat) (h : H) : Option (V × H) :=
  match Nat.ble (total * bytes) (2 ^ 36) && Nat.ble total (2 ^ 36) && Nat.beq (lenL old + lenL nw) (total * size) with
  | true => withNew (h.newCells size (appL old nw)) (.slice h.next 0 total total size false)
  | false => none
noncomputable def isFree : Option Ob → Bool
  | some (.cells _ _ false) => true
  | _ => false
noncomputable def H.kill (h : H) (r : Nat) : H := { tr := Tr.del h.tr r, next := h.next }
noncomputable def appendTo (size bytes : Nat) (s : V) (n : Nat) (nw : List V) (h : H) : Option (V × H) :=
  match s with
  | .slice r o len cap esz ex => match Nat.beq esz size with
    | false => none
    | true => match Nat.ble (len + n) cap with
      | true => match n with
        | 0 => some (.slice r o len cap esz ex, h)
        | _ + 1 => withNew (h.write r (o + len * size) nw) (.slice r o (len + n) cap esz ex)
      | false => match firstV h size len (.slice r o len cap esz ex) with
        | none => none
        | some old => match ex with
          | true => freshRow size bytes old nw (len + n) h
          | false => match isFree (Tr.get h.tr r) && allL V.scalar nw with
            | true => freshRow size bytes old nw (len + n) (h.kill r)
            | false => none
  | .snil => match n with
    | 0 => some (.snil, h)
    | _ + 1 => freshRow size bytes [] nw n h
  | .eslice ex => match n with
    | 0 => some (.eslice ex, h)
    | _ + 1 => match ex with
      | true => freshRow size bytes [] nw n h
      | false => none
  | _ => none
/-- the pieces of a slice that begins at a piece's head -/
noncomputable def piecesV (size : Nat) (h : H) : V → Option (List (List V))
  | .slice r o len _ _ _ => match Tr.get h.tr r with
    | some (.cells sz cs _) => match Nat.beq sz size && Nat.beq (o % size) 0 && Nat.beq (lenL (takeL (dropL cs (o / size)) len)) len && allL (fun c => Nat.beq (lenL c) size) (takeL (dropL cs (o / size)) len) with
      | true => some (takeL (dropL cs (o / size)) len)
      | false => none
    | _ => none
  | _ => none
noncomputable def freshQ (size bytes : Nat) (ps px : List (List V)) (total : Nat) (h : H) : Option (V × H) :=
  match Nat.ble (total * bytes) (2 ^ 36) && Nat.ble total (2 ^ 36) with
  | true => some (.slice h.next 0 total total size false, h.new (.cells size (appL ps px) false))
  | false => none
/-- a slice that is appended to another one, piece by piece: the quick way -/
noncomputable def appendQ (size bytes : Nat) (s x : V) (h : H) : Option (V × H) :=
  match x with
  | .slice r' o' n c' e' b' => match n, size with
    | m + 1, z + 1 => match piecesV (z + 1) h (.slice r' o' (m + 1) c' e' b') with
      | none => none
      | some px => match s with
        | .snil => freshQ (z + 1) bytes [] px (m + 1) h
        | .eslice ex => match ex with
          | true => freshQ (z + 1) bytes [] px (m + 1) h
          | false => none
        | .slice r o len cap esz ex => match Nat.beq esz (z + 1), Nat.ble (len + (m + 1)) cap, len with
          | true, false, k + 1 => match piecesV (z + 1) h (.slice r o (k + 1) cap esz ex) with
            | none => none
            | some ps => match ex with
              | true => freshQ (z + 1) bytes ps px (k + 1 + (m + 1)) h
              | false => match isFree (Tr.get h.tr r) && allL (fun c => allL V.scalar c) px with
                | true => freshQ (z + 1) bytes ps px (k + 1 + (m + 1)) (h.kill r)
                | false => none
          | _, _, _ => none
        | _ => none
    | _, _ => none
  | _ => none
noncomputable def appendA (size bytes : Nat) (z : List V) (ints : Bool) (s x : V) (h : H) : Option (V × H) := match appended ints bytes size z x h with
  | some (n, nw) => appendTo size bytes s n nw h
  | none => none
noncomputable def appendB (size bytes : Nat) (z : List V) (ints : Bool) (s x : V) (h : H) : Option (V × H) := match ints with
  | true => appendA size bytes z true s x h
  | false => match appendQ size bytes s x h with
    | some r => some r
    | none => appendA size bytes z false s x h
noncomputable def appendP (P : Program) (argTypes : List TypeId) : V → V → H → Option (V × H) :=
  match argTypes with
  | t0 :: t1 :: _ => match elemT P t0 with
    | none => fun _ _ _ => none
    | some e => match P.info? e, zeroT P e with
      | some i, some z => match appKind P t1, Nat.ble 1 i.size && Nat.beq (lenL z.cells) i.size with
        | some ints, true => fun s x h => appendB i.size i.bytes z.cells ints s x h
        | _, _ => fun _ _ _ => none
      | _, _ => fun _ _ _ => none
  | _ => fun _ _ _ => none
noncomputable def minN (a b : Nat) : Nat := match Nat.ble a b with
  | true => a
  | false => b
noncomputable def copyTo (size : Nat) (d s : V) (n : Nat) (h : H) : Option (V × H) :=
  match d with
  | .slice r o len _ _ _ => match firstV h size (minN n len) s with
    | some l => match l with
      | [] => some (.int .i64 (.lit (.ofNat (minN n len))), h)
      | _ :: _ => withNew (h.write r o l) (.int .i64 (.lit (.ofNat (minN n len))))
    | none => none
  | .snil => match firstV h size 0 s with
    | some _ => some (.int .i64 (.lit (.ofNat 0)), h)
    | none => none
  | .eslice _ => match firstV h size 0 s with
    | some _ => some (.int .i64 (.lit (.ofNat 0)), h)
    | none => none
  | _ => none
noncomputable def copyP (P : Program) (argTypes : List TypeId) : V → V → H → Option (V × H) :=
  match argTypes with
  | t0 :: _ => match elemT P t0 with
    | none => fun _ _ _ => none
    | some e => match szT P e with
      | some size => fun d s h => match lenV h s with
        | some n => copyTo size d s n h
        | none => none
      | none => fun _ _ _ => none
  | _ => fun _ _ _ => none
noncomputable def minV (Γ : Cx) (mx : Bool) : V → List V → Option V
  | x, [] => some x
  | x, y :: rest => match x, y with
    | .int k a, .int _ b => match (match mx with | true => ltE Γ a b | false => ltE Γ b a) with
      | some true => minV Γ mx (.int k b) rest
      | some false => minV Γ mx (.int k a) rest
      | none => none
    | _, _ => none
noncomputable def clearP (P : Program) (t : TypeId) : V → H → Option (V × H) :=
  match elemT P t with
  | some e => match szT P e, zeroT P e with
    | some sz, some z => fun x h => match x with
      | .mnil => some (.tuple [], h)
      | .snil => some (.tuple [], h)
      | .eslice _ => some (.tuple [], h)
      | .slice r o n _ esz _ => match n with
        | 0 => some (.tuple [], h)
        | k + 1 => match Nat.beq sz esz && Nat.beq (lenL z.cells) sz with
          | true => withNew (h.write r o (repl (k + 1) z.cells)) (.tuple [])
          | false => none
      | _ => none
    | _, _ => fun _ _ => none
  | none => fun _ _ => none

/- maps -/
noncomputable def flatInts (P : Program) : List Field → Nat → Bool
  | [], _ => true
  | f :: fs, i => isIntT P f.type && (match szT P f.type with | some n => Nat.beq n 1 | none => false) && Nat.beq f.offset i && f.name != "_" && flatInts P fs (i + 1)
/-- a type that a map's keys may be of here: a whole number's, a text's, a struct's of whole numbers -/
inductive KT where
  | int
  | str
  | flat (n : Nat)
noncomputable def keyT (P : Program) (t : TypeId) : Option KT :=
  match P.underlying t with
  | some (.int _) => some .int
  | some .string => some .str
  | some (.struct fs) => if flatInts P fs.toList 0 && !P.stoodInHeld t then some (.flat fs.size) else none
  | _ => none
noncomputable def eqInts (Γ : Cx) : List V → List V → Option Bool
  | [], [] => some true
  | x :: xs, y :: ys => match x, y with
    | .int k a, .int k' b => match eqK k k' with
      | true => match isE Γ a b with
        | some true => eqInts Γ xs ys
        | some false => some false
        | none => none
      | false => none
    | _, _ => none
  | _, _ => none
noncomputable def modBytes : List Nat → List Nat
  | [] => []
  | b :: l => (b % 256) :: modBytes l
noncomputable def eqText (a b : List Nat) : Bool := eqNats (modBytes a) (modBytes b)
noncomputable def eqKey (Γ : Cx) : KT → V → V → Option Bool
  | .int => fun x y => match x, y with
    | .int k a, .int k' b => match eqK k k' with
      | true => isE Γ a b
      | false => none
    | _, _ => none
  | .str => fun x y => match x, y with
    | .str a, .str b => some (eqText a b)
    | _, _ => none
  | .flat n => fun x y => match x, y with
    | .agg xs, .agg ys => match Nat.beq (lenL xs) n && Nat.beq (lenL ys) n with
      | true => eqInts Γ xs ys
      | false => none
    | _, _ => none
abbrev Ents := List (V × V × Nat)
noncomputable def findV (Γ : Cx) (kt : KT) (k : V) : Ents → Nat → Option (Option (Nat × V))
  | [], _ => some none
  | (k', v, _) :: es, i => match eqKey Γ kt k k' with
    | some true => some (some (i, v))
    | some false => findV Γ kt k es (i + 1)
    | none => none
noncomputable def mapT (P : Program) (t : TypeId) : Option (KT × TypeId) :=
  match P.underlying t with
  | some (.map k e) => match keyT P k with
    | some kt => some (kt, e)
    | none => none
  | _ => none
noncomputable def isInt : V → Bool
  | .int _ _ => true
  | _ => false
noncomputable def keyOk : KT → V → Bool
  | .int, x => isInt x
  | .str, x => match x with | .str _ => true | _ => false
  | .flat n, x => match x with | .agg xs => Nat.beq (lenL xs) n && allL isInt xs | _ => false
noncomputable def entsOf (m : V) (h : H) : Option Ents := match m with
  | .mnil => some []
  | .map r => match Tr.get h.tr r with
    | some (.map es _) => some es
    | _ => none
  | _ => none
noncomputable def okV (ok : Bool) (v : V) (b : Bool) : V := match ok with
  | true => .tuple [v, .bool b]
  | false => v
noncomputable def lookupP (Γ : Cx) (t : TypeId) (ok : Bool) : V → V → H → Option V :=
  match mapT Γ.P t with
  | none => fun _ _ _ => none
  | some (kt, e) => match zeroT Γ.P e with
    | none => fun _ _ _ => none
    | some z => fun m k h => match keyOk kt k, entsOf m h with
      | true, some es => match findV Γ kt k es 0 with
        | some (some (_, v)) => some (okV ok v true)
        | some none => some (okV ok z false)
        | none => none
      | _, _ => none
noncomputable def setVal : Ents → Nat → V → V → Ents
  | [], _, _, _ => []
  | (k', v', b) :: es, i, k, v => match i with
    | 0 => (k, v, b) :: es
    | j + 1 => (k', v', b) :: setVal es j k v
noncomputable def keyAt (es : Ents) (i : Nat) : Option V := match nthL es i with
  | some e => some e.1
  | none => none
noncomputable def H.setOb (h : H) (r : Nat) (ob : Ob) : H := { tr := Tr.set h.tr r ob, next := h.next }
noncomputable def updateP (Γ : Cx) (t : TypeId) : V → V → V → H → Option H :=
  match mapT Γ.P t with
  | none => fun _ _ _ _ => none
  | some (kt, _) => fun m k v h => match m, keyOk kt k with
    | .map r, true => match Tr.get h.tr r with
      | some (.map es clock) => match findV Γ kt k es 0 with
        | some (some (i, _)) => match keyAt es i with
          | some k' => match sameV k' k with
            | true => some (h.setOb r (.map (setVal es i k v) clock))
            | false => none
          | none => none
        | some none => some (h.setOb r (.map (appL es [(k, v, clock)]) (clock + 1)))
        | none => none
      | _ => none
    | _, _ => none
noncomputable def dropAt : Ents → Nat → Ents
  | [], _ => []
  | e :: es, i => match i with
    | 0 => es
    | j + 1 => e :: dropAt es j
noncomputable def deleteP (Γ : Cx) (t : TypeId) : V → V → H → Option H :=
  match mapT Γ.P t with
  | none => fun _ _ _ => none
  | some (kt, _) => fun m k h => match keyOk kt k with
    | false => none
    | true => match m with
      | .mnil => some h
      | .map r => match Tr.get h.tr r with
        | some (.map es clock) => match findV Γ kt k es 0 with
          | some (some (i, _)) => some (h.setOb r (.map (dropAt es i) clock))
          | some none => some h
          | none => none
        | _ => none
      | _ => none

/- == of two values of a type, as far as it is wanted -/
/-- an argument's row: its pieces' size tells it -/
noncomputable def argSz : Nat := 1099511627776
noncomputable def isArg (h : H) (r : Nat) : Bool := match Tr.get h.tr r with
  | some (.cells sz _ ro) => ro && Nat.beq sz argSz
  | _ => false
/-- is there a cell, none of an argument's? -/
noncomputable def alive (h : H) (r o : Nat) : Bool := match isArg h r with
  | true => false
  | false => match h.read r o 1 with
    | some _ => true
    | none => false
noncomputable def eqPtr (h : H) (r o r' o' : Nat) : Option Bool := match Nat.beq r r' with
  | true => match Nat.beq o o' with
    | true => some true
    | false => some false
  | false => match alive h r o && alive h r' o' with
    | true => some false
    | false => none
noncomputable def eqPtrT (P : Program) (e : TypeId) (h : H) (r o r' o' : Nat) : Option Bool := match szT P e with
  | some (_ + 1) => eqPtr h r o r' o'
  | _ => none
noncomputable def eqDyn (P : Program) (t : TypeId) (h : H) (a b : V) : Option Bool := match P.info? t, P.underlying t with
  | some i, some (.pointer e) => match i.comparable with
    | true => match a, b with
      | .ptr r o, .ptr r' o' => eqPtrT P e h r o r' o'
      | _, _ => none
    | false => none
  | _, _ => none
noncomputable def eqP (Γ : Cx) (t : TypeId) : H → V → V → Option Bool :=
  match Γ.P.underlying t with
  | some .bool => fun _ x y => match x, y with
    | .bool a, .bool b => some (eqB a b)
    | _, _ => none
  | some (.pointer e) => fun h x y => match x, y with
    | .pnil, .pnil => some true
    | .pnil, .ptr _ _ => some false
    | .ptr _ _, .pnil => some false
    | .ptr r o, .ptr r' o' => eqPtrT Γ.P e h r o r' o'
    | _, _ => none
  | some (.interface _) => fun h x y => match x, y with
    | .inil, .inil => some true
    | .inil, .iface _ _ => some false
    | .iface _ _, .inil => some false
    | .iface t a, .iface t' b => match Nat.beq t t' with
      | true => eqDyn Γ.P t h a b
      | false => some false
    | _, _ => none
  | some (.slice _) => fun _ x y => match x, y with
    | .snil, .snil => some true
    | .snil, .slice .. => some false
    | .slice .., .snil => some false
    | .snil, .eslice _ => some false
    | .eslice _, .snil => some false
    | _, _ => none
  | some (.map ..) => fun _ x y => match x, y with
    | .mnil, .mnil => some true
    | .mnil, .map _ => some false
    | .map _, .mnil => some false
    | _, _ => none
  | some (.func ..) => fun _ x y => match x, y with
    | .fnil, .fnil => some true
    | .fnil, .func .. => some false
    | .func .., .fnil => some false
    | _, _ => none
  | _ => fun _ _ _ => none
noncomputable def isConst : Operand → Bool
  | .const _ => true
  | _ => false
noncomputable def bytesLt : List Nat → List Nat → Bool
  | _, [] => false
  | [], _ :: _ => true
  | a :: x, b :: y => match Nat.ble (a % 256 + 1) (b % 256) with
    | true => true
    | false => match Nat.beq (a % 256) (b % 256) with
      | true => bytesLt x y
      | false => false
noncomputable def orB : Bool → Bool → Bool
  | true, _ => true
  | false, b => b
noncomputable def notB : Bool → Bool
  | true => false
  | false => true
noncomputable def strOp (op : BinOp) : List Nat → List Nat → Option V :=
  match op with
  | .add => fun a b => match Nat.ble (lenL a + lenL b) (2 ^ 40) with
    | true => some (.str (appL a b))
    | false => none
  | .eql => fun a b => some (.bool (eqText a b))
  | .neq => fun a b => some (.bool (notB (eqText a b)))
  | .lss => fun a b => some (.bool (bytesLt a b))
  | .leq => fun a b => some (.bool (orB (bytesLt a b) (eqText a b)))
  | .gtr => fun a b => some (.bool (notB (orB (bytesLt a b) (eqText a b))))
  | .geq => fun a b => some (.bool (notB (bytesLt a b)))
  | _ => fun _ _ => none
noncomputable def toD : V → Option (List Pc)
  | .str s => some (pcs s)
  | .strd ps => some ps
  | _ => none
noncomputable def isDig (x : Nat) : Bool := Nat.ble 48 (x % 256) && Nat.ble (x % 256) 57
/-- a number of just k digits -/
noncomputable def exD (Γ : Cx) (e : E) (k : Nat) : Bool := match k with
  | 0 => false
  | j + 1 => match bndE Γ e with
    | some (l, u) => Nat.ble (u + 1) (10 ^ (j + 1)) && (match j with | 0 => true | _ + 1 => Nat.ble (10 ^ j) l)
    | none => false
/-- the digits of a number, from the i-th on (n of them), and what is behind them -/
noncomputable def grpAt (e : E) (k : Nat) : Nat → Nat → List Pc → Option (List Pc)
  | 0, _, l => some l
  | n + 1, i, l => match l with
    | p :: l => match samePc p (.d e k i) with
      | true => grpAt e k n (i + 1) l
      | false => none
    | [] => none
noncomputable def notDig : List Pc → Bool
  | .b x :: _ => notB (isDig x)
  | _ => false
/-- two texts of the same length -/
noncomputable def eqD (Γ : Cx) : Nat → List Pc → List Pc → Option Bool
  | 0, _, _ => none
  | f + 1, a, b => match a with
    | [] => match b with
      | [] => some true
      | _ :: _ => none
    | p :: l => match b with
      | [] => none
      | q :: m => match samePc p q with
        | true => eqD Γ f l m
        | false => match p with
          | .b x => match q with
            | .b y => match Nat.beq (x % 256) (y % 256) with
              | true => eqD Γ f l m
              | false => some false
            | .d _ _ _ => match isDig x with
              | true => none
              | false => some false
          | .d e k _ => match q with
            | .b y => match isDig y with
              | true => none
              | false => some false
            | .d e' k' _ => match grpAt e k k 0 (p :: l), grpAt e' k' k' 0 (q :: m) with
              | some ra, some rb => match Nat.beq k k' with
                | true => match exD Γ e k && exD Γ e' k' with
                  | true => match isE Γ e e' with
                    | some true => eqD Γ f ra rb
                    | some false => some false
                    | none => none
                  | false => none
                | false => match Nat.ble k k' with
                  | true => match notDig ra with
                    | true => some false
                    | false => none
                  | false => match notDig rb with
                    | true => some false
                    | false => none
              | _, _ => none
noncomputable def eqTextD (Γ : Cx) (a b : List Pc) : Option Bool := match Nat.beq (lenL a) (lenL b) with
  | true => eqD Γ (lenL a + 1) a b
  | false => some false
/-- how many digits a number has -/
noncomputable def digK (Γ : Cx) (e : E) : Nat → Nat → Nat → Option Nat
  | 0, _, _ => none
  | f + 1, p, k => match ltE Γ e (.lit (.ofNat p)) with
    | some true => some k
    | some false => digK Γ e f (p * 10) (k + 1)
    | none => none
noncomputable def digP (e : E) (k : Nat) : Nat → Nat → List Pc
  | 0, _ => []
  | n + 1, i => .d e k i :: digP e k n (i + 1)
/-- a number's text -/
noncomputable def itoaS (Γ : Cx) (e : E) : Option V := match ltE Γ e (.lit (.ofNat 0)) with
  | some false => match digK Γ e 9 10 1 with
    | some k => some (.strd (digP e k k 0))
    | none => none
  | _ => none
/-- the number of a text of digits -/
noncomputable def atoiS (Γ : Cx) (ps : List Pc) : Option E := match ps with
  | .d e k _ :: _ => match grpAt e k k 0 ps with
    | some [] => match exD Γ e k && Nat.ble k 18 with
      | true => some e
      | false => none
    | _ => none
  | _ => none
noncomputable def lit0 : List Pc → List Nat
  | [] => []
  | .b n :: l => n :: lit0 l
  | .d _ _ _ :: l => 48 :: lit0 l
noncomputable def strD (Γ : Cx) (op : BinOp) (a b : List Pc) : Option V :=
  match op with
  | .add => match Nat.ble (lenL a + lenL b) (2 ^ 40) with
    | true => some (.strd (appL a b))
    | false => none
  | .eql => vbool (eqTextD Γ a b)
  | .neq => vnot (eqTextD Γ a b)
  | _ => none
noncomputable def isShift : BinOp → Bool
  | .shl | .shr => true
  | _ => false
noncomputable def eqlP (Γ : Cx) (op : BinOp) (t : TypeId) : H → V → V → Option V :=
  match op with
  | .eql => fun h a b => vbool (eqP Γ t h a b)
  | .neq => fun h a b => vnot (eqP Γ t h a b)
  | _ => fun _ _ _ => none
noncomputable def binP (Γ : Cx) (op : BinOp) (t : TypeId) (cst : Bool) : H → V → V → Option V :=
  fun h a b => match a with
  | .int k m => match b with
    | .int k' n => match isShift op with
      | true => shiftInt Γ op k m n
      | false => match eqK k k' with
        | true => binInt op Γ k m n
        | false => none
    | _ => none
  | .str m => match b with
    | .str n => strOp op m n
    | .strd n => strD Γ op (pcs m) n
    | _ => none
  | .strd m => match toD b with
    | some n => strD Γ op m n
    | none => none
  | .agg _ => none
  | .inil => match b with
    | .inil => match cst with
      | true => eqlP Γ op t h a b
      | false => none
    | .junk => none
    | b => eqlP Γ op t h .inil b
  | .junk => none
  | a => eqlP Γ op t h a b
noncomputable def unP (Γ : Cx) (op : UnOp) : V → Option V :=
  match op with
  | .not => fun x => match x with
    | .bool b => some (.bool (notB b))
    | _ => none
  | .neg => fun x => match x with
    | .int k n => some (.int k (wrapE Γ k (subE (.lit 0) n)))
    | _ => none
  | .xor => fun x => match x with
    | .int k n => some (.int k (bopE .xor k (.lit (if k.signed then -1 else k.max)) n))
    | _ => none
  | .plus => fun _ => none
noncomputable def byteLit : V → Option Nat
  | .int .u8 (.lit (.ofNat n)) => some n
  | _ => none
noncomputable def bytesOf : List V → Option (List Nat)
  | [] => some []
  | v :: vs => match byteLit v, bytesOf vs with
    | some b, some l => some (b :: l)
    | _, _ => none
noncomputable def textOf (h : H) : V → Option V
  | .slice r o len _ esz _ => match Nat.beq esz 1 with
    | true => match firstV h 1 len (.slice r o len len 1 true) with
      | some l => match bytesOf l with
        | some s => some (.str s)
        | none => none
      | none => none
    | false => none
  | .snil => some (.str [])
  | .eslice _ => some (.str [])
  | _ => none
noncomputable def convP (Γ : Cx) (src dst : TypeId) : V → H → Option V :=
  match Γ.P.underlying src, Γ.P.underlying dst with
  | some (.int _), some (.int k) => fun x _ => match x with
    | .int _ n => some (.int k (wrapE Γ k n))
    | _ => none
  | some .string, some .string => fun x _ => match x with
    | .str s => some (.str s)
    | _ => none
  | some (.slice e), some .string => match Γ.P.underlying e with
    | some (.int .u8) => fun x h => textOf h x
    | _ => fun _ _ => none
  | some (.int _), some .string => fun x _ => match x with
    | .int _ (.lit (.ofNat n)) => match Nat.ble n 127 with
      | true => some (.str [n])
      | false => none
    | _ => none
  | _, _ => fun _ _ => none

/- maps and texts that are gone through -/
noncomputable def rangeP (P : Program) (t : TypeId) : V → H → Option (V × H) :=
  match P.underlying t with
  | some .string => fun x h => match x with
    | .str s => some (.ptr h.next 0, h.new (.strIter s 0))
    | _ => none
  | some (.map _ _) => fun x h => match x with
    | .mnil => some (.ptr h.next 0, h.new (.mapIter none 0 [] 0))
    | .map r => match Tr.get h.tr r with
      | some (.map _ clock) => some (.ptr h.next 0, h.new (.mapIter (some r) clock [] clock))
      | _ => none
    | _ => none
  | _ => fun _ _ => none
noncomputable def memN (n : Nat) : List Nat → Bool
  | [] => false
  | m :: l => match Nat.beq n m with
    | true => true
    | false => memN n l
noncomputable def leftOf (seen : List Nat) : Ents → Ents
  | [] => []
  | e :: es => match memN e.2.2 seen with
    | true => leftOf seen es
    | false => e :: leftOf seen es
noncomputable def nextMap (r : Nat) (m since : Nat) (seen : List Nat) (last : Nat) (es : Ents) (clock : Nat) (h : H) : Option (V × H) :=
  match orB (match seen with | [] => true | _ => false) (match es with | [] => true | _ => notB (allL (fun e => Nat.ble last e.2.2) es)) with
  | false => none
  | true => match leftOf seen es with
    | [] => some (.tuple [.bool false], h)
    | [e] => match Nat.ble (e.2.2 + 1) since with
      | true => some (.tuple [.bool true, e.1, e.2.1], h.setOb r (.mapIter (some m) since (appL seen [e.2.2]) clock))
      | false => none
    | _ => none
noncomputable def nextV (isStr : Bool) (it : V) (h : H) : Option (V × H) :=
  match it with
  | .ptr r 0 => match Tr.get h.tr r, isStr with
    | some (.strIter s pos), true => match nthL s pos with
      | none => some (.tuple [.bool false], h)
      | some c => match Nat.ble c 127 with
        | true => some (.tuple [.bool true, .int .i64 (.lit (.ofNat pos)), .int .i32 (.lit (.ofNat c))], h.setOb r (.strIter s (pos + 1)))
        | false => none
    | some (.mapIter none _ _ _), false => some (.tuple [.bool false], h)
    | some (.mapIter (some m) since seen last), false => match Tr.get h.tr m with
      | some (.map es clock) => nextMap r m since seen last es clock h
      | _ => none
    | _, _ => none
  | _ => none
noncomputable def findBorn (n : Nat) : Ents → Option (V × V × Nat)
  | [] => none
  | e :: es => match Nat.beq e.2.2 n with
    | true => some e
    | false => findBorn n es
noncomputable def entryV (it : V) (h : H) : Option V :=
  match it with
  | .ptr r 0 => match Tr.get h.tr r with
    | some (.mapIter (some m) _ seen stepped) => match seen.getLast?, Tr.get h.tr m with
      | some stamp, some (.map es clock) => match Nat.beq clock stepped with
        | true => match findBorn stamp es with
          | some e => some (.tuple [e.1, e.2.1])
          | none => none
        | false => none
      | _, _ => none
    | _ => none
  | _ => none
noncomputable def assertP (P : Program) (asserted : TypeId) (ok : Bool) : V → Option V :=
  match P.underlying asserted, zeroT P asserted with
  | some (.interface _), _ => fun _ => none
  | some _, some z => fun x => match x with
    | .inil => match ok with
      | true => some (.tuple [z, .bool false])
      | false => none
    | .iface t v => match Nat.beq t asserted with
      | true => some (okV ok v true)
      | false => match ok with
        | true => some (.tuple [z, .bool false])
        | false => none
    | _ => none
  | _, _ => fun _ => none

/- operations that call nothing: staged: what hangs on the text first -/
abbrev Step1 := Tm → H → Option (V × H)
noncomputable def sFail : Step1 := fun _ _ => none
noncomputable def keepH (v : Option V) (h : H) : Option (V × H) := match v with
  | some v => some (v, h)
  | none => none
noncomputable def unitH (h : Option H) : Option (V × H) := match h with
  | some h => some (undefV, h)
  | none => none
noncomputable def s0 (f : V → H → Option (V × H)) (x : Operand) : Step1 := fun T h => match opd x T with
  | some v => f v h
  | none => none
noncomputable def s0v (f : H → V → Option V) (x : Operand) : Step1 := fun T h => match opd x T with
  | some v => keepH (f h v) h
  | none => none
noncomputable def s2 (f : V → V → H → Option (V × H)) (x y : Operand) : Step1 := fun T h => match opd x T, opd y T with
  | some v, some w => f v w h
  | _, _ => none
noncomputable def s2v (f : H → V → V → Option V) (x y : Operand) : Step1 := fun T h => match opd x T, opd y T with
  | some v, some w => keepH (f h v w) h
  | _, _ => none
noncomputable def sPick (c a b : Operand) : Step1 := fun T h => match opd c T, opd a T, opd b T with
  | some (.bool true), some v, some _ => some (v, h)
  | some (.bool false), some _, some v => some (v, h)
  | _, _, _ => none
noncomputable def sAlloc (z : Option V) : Step1 := match z with
  | some z => fun _ h => newVar z h
  | none => sFail
noncomputable def sParts (f : List (Nat × V) → H → Option (V × H)) (parts : List (Nat × Operand)) : Step1 := fun T h => match partsV parts T with
  | some ps => f ps h
  | none => none
noncomputable def sStore (f : H → V → V → Option H) (a x : Operand) : Step1 := fun T h => match opd a T, opd x T with
  | some a, some v => unitH (f h a v)
  | _, _ => none
noncomputable def checked : V → Option V
  | .ptr r o => some (.ptr r o)
  | .ptx r o sz e n => some (.ptx r o sz e n)
  | .iface t v => some (.iface t v)
  | .func f a b => some (.func f a b)
  | _ => none
noncomputable def sIface (P : Program) (t : TypeId) (x : Operand) : Step1 := match P.underlying t with
  | some (.interface _) => sFail
  | some _ => s0v (fun _ v => some (.iface t v)) x
  | none => sFail
noncomputable def sFunc (fn : Fn) (a b : List Operand) : Step1 := match fn with
  | .func f => fun T h => match opds a T, opds b T with
    | some a, some b => some (.func f a b, h)
    | _, _ => none
  | _ => sFail
noncomputable def sMakeMap (r : Option Operand) : Step1 := match r with
  | none => fun _ h => some (.map h.next, h.new (.map [] 0))
  | some _ => sFail
noncomputable def opdO : Option Operand → Tm → Option (Option V)
  | none => fun _ => some none
  | some x => fun T => match opd x T with
    | some v => some (some v)
    | none => none
noncomputable def isSome' : Option Operand → Bool
  | some _ => true
  | none => false
noncomputable def sSlice (P : Program) (t : TypeId) (x : Operand) (lo hi mx : Option Operand) : Step1 := fun T h =>
  match opd x T, opdO lo T, opdO hi T, opdO mx T with
  | some x, some lo, some hi, some m => keepH (sliceP P t (isSome' mx) x lo hi m) h
  | _, _, _, _ => none
noncomputable def sUpdate (Γ : Cx) (t : TypeId) (m k x : Operand) : Step1 := fun T h => match opd m T, opd k T, opd x T with
  | some m, some k, some x => unitH (updateP Γ t m k x h)
  | _, _, _ => none
noncomputable def nthT (i : Nat) : V → Option V
  | .tuple vs => nthL vs i
  | _ => none
noncomputable def lenP (P : Program) (t : TypeId) : V → H → Option (V × H) := match P.underlying t with
  | some (.array n _) => fun _ h => some (.int .i64 (.lit (.ofNat n)), h)
  | some (.pointer _) => fun _ _ => none
  | some .string => fun x h => match x with
    | .str s => some (.int .i64 (.lit (.ofNat (lenL s))), h)
    | .strd s => some (.int .i64 (.lit (.ofNat (lenL s))), h)
    | _ => none
  | some (.slice _) => fun x h => match x with
    | .slice _ _ len _ _ _ => some (.int .i64 (.lit (.ofNat len)), h)
    | .eslice _ => some (.int .i64 (.lit (.ofNat 0)), h)
    | .snil => some (.int .i64 (.lit (.ofNat 0)), h)
    | .vsl e => some (.int .i64 e, h)
    | _ => none
  | some (.map _ _) => fun x h => match x with
    | .mnil => some (.int .i64 (.lit (.ofNat 0)), h)
    | .map r => match Tr.get h.tr r with
      | some (.map es _) => some (.int .i64 (.lit (.ofNat (lenL es))), h)
      | _ => none
    | _ => none
  | _ => fun _ _ => none
noncomputable def capP (P : Program) (t : TypeId) : V → Option V := match P.underlying t with
  | some (.slice _) => fun x => match x with
    | .slice _ _ _ cap _ true => some (.int .i64 (.lit (.ofNat cap)))
    | .snil => some (.int .i64 (.lit (.ofNat 0)))
    | _ => none
  | _ => fun _ => none
noncomputable def sBuiltin (Γ : Cx) (b : Builtin) (ts : List TypeId) (args : List Operand) : Step1 :=
  match args with
  | [x] => match b, ts with
    | .len, t :: _ => s0 (lenP Γ.P t) x
    | .cap, t :: _ => s0v (fun _ => capP Γ.P t) x
    | .clear, t :: _ => s0 (clearP Γ.P t) x
    | .min, _ => s0v (fun _ v => some v) x
    | .max, _ => s0v (fun _ v => some v) x
    | _, _ => sFail
  | [x, y] => match b, ts with
    | .append, ts => s2 (appendP Γ.P ts) x y
    | .copy, ts => s2 (copyP Γ.P ts) x y
    | .min, _ => s2v (fun _ v w => minV Γ false v [w]) x y
    | .max, _ => s2v (fun _ v w => minV Γ true v [w]) x y
    | .delete, t :: _ => s2 (fun m k h => match deleteP Γ t m k h with | some h => some (.tuple [], h) | none => none) x y
    | _, _ => sFail
  | _ => sFail
noncomputable def step1 (Γ : Cx) : Op → Step1
  | .move x => s0v (fun _ v => some v) x
  | .assign x => s0v (fun _ v => some v) x
  | .pick c a b => sPick c a b
  | .alloc t => sAlloc (zeroT Γ.P t)
  | .box _ x => s0 newVar x
  | .build t ps => sParts (fun ps h => keepH (buildP Γ.P t ps) h) ps.toList
  | .buildSlice t n ps => sParts (buildSliceP Γ.P t n) ps.toList
  | .load t a => s0v (loadP Γ.P t) a
  | .store t a x => sStore (storeP Γ.P t) a x
  | .nilCheck x => s0v (fun _ => checked) x
  | .binOp op t x y _ => s2v (binP Γ op t (isConst x || isConst y)) x y
  | .unOp op _ x => s0v (fun _ => unP Γ op) x
  | .convert s d x => s0v (fun h v => convP Γ s d v h) x
  | .makeInterface t x => sIface Γ.P t x
  | .makeFunc fn a b => sFunc fn a.toList b.toList
  | .makeMap _ r => sMakeMap r
  | .makeSlice t l c => s2 (makeSliceP Γ Γ.P t) l c
  | .slice t x lo hi mx => sSlice Γ.P t x lo hi mx
  | .fieldAddr s x f => s0v (fun _ => fieldAtP Γ.P s f) x
  | .field s x f => s0v (fun _ => fieldP Γ.P s f) x
  | .indexAddr t x i => s2v (fun _ => indexAtP Γ Γ.P t) x i
  | .index t x i => s2v (fun _ => indexP Γ.P t) x i
  | .lookup t x i ok => s2v (fun h m k => lookupP Γ t ok m k h) x i
  | .mapUpdate t m k x => sUpdate Γ t m k x
  | .range t x => s0 (rangeP Γ.P t) x
  | .next it s => s0 (nextV s) it
  | .entry it => s0v (fun h v => entryV v h) it
  | .typeAssert x _ a ok => s0v (fun _ => assertP Γ.P a ok) x
  | .extract t i => s0v (fun _ => nthT i) t
  | .call c => match c.callee with
    | .builtin b => sBuiltin Γ b c.argTypes.toList c.args.toList
    | _ => sFail
  | _ => sFail

/- regions -/
noncomputable def sCall (call : CallF) (f : Operand) (args : List Operand) : Step1 := fun T h => match opd f T, opds args T with
  | some (.func f first cap), some vs => call f (appL first (appL vs cap)) h
  | _, _ => none
noncomputable def stepC (call : CallF) (Γ : Cx) (c : Call) : Step1 := match c.callee with
  | .value f => sCall call f c.args.toList
  | .builtin b => sBuiltin Γ b c.argTypes.toList c.args.toList
  | _ => sFail
/-- an operation -/
noncomputable def stepO (call : CallF) (Γ : Cx) : Op → Step1
  | .call c => stepC call Γ c
  | op => step1 Γ op
noncomputable def wantedT (ops : Array Oper) (g : Option (Nat × Bool)) : Tm → Option Bool :=
  match g with
  | none => fun _ => some true
  | some (j, w) => match (ops[j]?).bind (·.dst) with
    | some d => fun T => match Tm.get T d with
      | .bool b => some (eqB b w)
      | .junk => none
      | _ => some false
    | none => fun _ => some false
noncomputable def putV (n : Nat) (dst : Option Tmp) (r : Option (V × H)) (T : Tm) : Option (Tm × H) := match r with
  | some (v, h) => match put n dst v T with
    | some T => some (T, h)
    | none => none
  | none => none
noncomputable def evOper (call : CallF) (Γ : Cx) (n : Nat) (ops : Array Oper) (o : Oper) (T : Tm) (h : H) : Option (Tm × H) :=
  match wantedT ops o.guard T with
  | some true => putV n o.dst (stepO call Γ o.op T h) T
  | some false => putV n o.dst (some (undefV, h)) T
  | none => none
noncomputable def evOps (call : CallF) (Γ : Cx) (n : Nat) (ops : Array Oper) (l : List Oper) : Tm → H → Option (Tm × H) :=
  List.rec (fun T h => some (T, h)) (fun o _ ih T h => match evOper call Γ n ops o T h with
    | some (T, h) => ih T h
    | none => none) l

/- regions that draw their order -/
inductive Cl where
  | quiet | make | act
/-- what an operation does: looks only; makes a block; acts -/
noncomputable def classOf : Op → Cl
  | .alloc _ | .box _ _ | .buildSlice _ _ _ | .makeSlice _ _ _ | .makeMap _ _ => .make
  | .store _ _ _ | .mapUpdate _ _ _ _ | .range _ _ | .next _ _ => .act
  | .call c => match c.callee with
    | .builtin b => match b with
      | .len | .cap | .min | .max => .quiet
      | _ => .act
    | _ => .act
  | _ => .quiet
/-- bit masks of what has to be done before: of the operations in the text's order -/
noncomputable def onMask (masks : List Nat) : List Edge → Nat → Nat
  | [], m => m
  | e :: es, m => match Region.binds .any e with
    | true => onMask masks es (Nat.lor m (Nat.lor (2 ^ e.on) (match nthL masks e.on with | some k => k | none => 0)))
    | false => onMask masks es m
noncomputable def befores : List Oper → List Nat → List Nat
  | [], masks => masks
  | o :: os, masks => befores os (appL masks [onMask masks o.after.toList 0])
/-- an operation of a region: its place, itself, its mask, how many acts have to be done before, its class -/
structure Item where
  i : Nat
  o : Oper
  m : Nat
  lo : Nat
  c : Cl
noncomputable def hasBit (m i : Nat) : Bool := match Nat.land (Nat.shiftRight m i) 1 with
  | 0 => false
  | _ + 1 => true
noncomputable def items : List Oper → List Nat → Nat → List Item
  | o :: os, m :: ms, i => { i, o, m, lo := 0, c := classOf o.op } :: items os ms (i + 1)
  | _, _, _ => []
noncomputable def isAct (x : Item) : Bool := match x.c with
  | .act => true
  | _ => false
noncomputable def actsOf : List Item → List Item
  | [] => []
  | x :: l => match isAct x with
    | true => x :: actsOf l
    | false => actsOf l
/-- each act has the one ahead of it before it -/
noncomputable def inLine : List Item → Bool
  | [] => true
  | x :: l => match l with
    | [] => true
    | y :: _ => match hasBit y.m x.i with
      | true => inLine l
      | false => false
noncomputable def countIn (m : Nat) : List Item → Nat
  | [] => 0
  | x :: l => match hasBit m x.i with
    | true => countIn m l + 1
    | false => countIn m l
/-- those that have to be done before an act, and are not listed yet; the others -/
noncomputable def partIn (m : Nat) : List Item → List Item × List Item
  | [] => ([], [])
  | x :: l => match partIn m l with
    | (a, b) => match hasBit m x.i with
      | true => (x :: a, b)
      | false => (a, x :: b)
/-- the order in which a region is gone through: ahead of each act what it needs alone -/
noncomputable def lined : List Item → List Item → List Item
  | [], rest => rest
  | x :: acts, rest => match partIn x.m rest with
    | (a, b) => match partIn (2 ^ x.i) b with
      | (y, c) => appL a (appL y (lined acts c))
noncomputable def withLo (acts : List Item) : List Item → List Item
  | [] => []
  | x :: l => { i := x.i, o := x.o, m := x.m, lo := countIn x.m acts, c := x.c } :: withLo acts l
noncomputable def planOf (ops : List Oper) : Option (List Item) :=
  let its := items ops (befores ops []) 0
  let acts := actsOf its
  match inLine acts with
  | true => some (withLo acts (lined acts its))
  | false => none
/-- in each of these heaps the same comes of it -/
noncomputable def stays (f : H → Option (V × H)) (v : V) : List H → Bool
  | [] => true
  | s :: l => match f s with
    | some (w, _) => match sameV w v with
      | true => stays f v l
      | false => false
    | none => false
/-- the blocks that are still to be made have names that nothing has -/
noncomputable def freshIn (base : Nat) (tr : Tr Ob) : List Item → Bool
  | [] => true
  | x :: l => match x.c with
    | .make => match Tr.get tr (base + x.i) with
      | none => freshIn base tr l
      | some _ => false
    | _ => freshIn base tr l
noncomputable def addSnap (c : Cl) (snaps : List H) (h : H) : List H := match c with
  | .act => appL snaps [h]
  | _ => snaps
/-- one operation of a region that draws its order -/
noncomputable def evItem (call : CallF) (Γ : Cx) (base : Nat) (x : Item) (rest : List Item) (snaps : List H) (T : Tm) (h : H) : Option (V × H) :=
  match x.c with
  | .make => match stepO call Γ x.o.op T { tr := h.tr, next := base + x.i } with
    | some (v, h') => some (v, { tr := h'.tr, next := h.next })
    | none => none
  | .act => match stepO call Γ x.o.op T h with
    | some (v, h') => match freshIn base h'.tr rest with
      | true => some (v, h')
      | false => none
    | none => none
  | .quiet => match stepO call Γ x.o.op T h with
    | some (v, _) => match stays (stepO call Γ x.o.op T) v (dropL snaps x.lo) with
      | true => some (v, h)
      | false => none
    | none => none
/-- snaps: the heap ahead of each act that is done; base: where the names of the region's own blocks begin -/
noncomputable def evPlan (call : CallF) (Γ : Cx) (n : Nat) (ops : Array Oper) (base : Nat) (l : List Item) : List H → Tm → H → Option (Tm × H) :=
  List.rec (fun _ T h => some (T, h)) (fun x rest ih snaps T h => match wantedT ops x.o.guard T with
    | none => none
    | some false => match put n x.o.dst undefV T with
      | some T => ih (addSnap x.c snaps h) T h
      | none => none
    | some true => match evItem call Γ base x rest snaps T h with
      | none => none
      | some (v, h') => match put n x.o.dst v T with
        | none => none
        | some T' => ih (addSnap x.c snaps h) T' h') l
noncomputable def evDrawn (call : CallF) (Γ : Cx) (n : Nat) (ops : Array Oper) (plan : List Item) (T : Tm) (h : H) : Option (Tm × H) :=
  match freshIn h.next h.tr plan with
  | true => evPlan call Γ n ops h.next plan [] T { tr := h.tr, next := h.next + ops.size }
  | false => none

/- what a region has to be like: looked at once for a program -/
noncomputable def firstAct : List Item → Option Item
  | [] => none
  | x :: l => match isAct x with
    | true => some x
    | false => firstAct l
/-- as late as it can be -/
noncomputable def isLate (x : Item) (rest : List Item) : Bool := match isAct x with
  | true => true
  | false => match firstAct rest with
    | none => true
    | some y => hasBit y.m x.i
noncomputable def planOk (acts : List Item) (size : Nat) : List Item → Nat → Bool
  | [], d => Nat.beq d (2 ^ size - 1)
  | x :: rest, d => Nat.beq (Nat.land x.m d) x.m && notB (hasBit d x.i) && isLate x rest && Nat.ble x.lo (countIn x.m acts) && planOk acts size rest (Nat.lor d (2 ^ x.i))
noncomputable def tmpsOf : List Operand → List Tmp
  | [] => []
  | x :: l => match x with
    | .tmp t => t :: tmpsOf l
    | _ => tmpsOf l
noncomputable def guardTmp (ops : Array Oper) : Option (Nat × Bool) → List Tmp
  | none => []
  | some (j, _) => match (ops[j]?).bind (·.dst) with
    | some d => [d]
    | none => []
noncomputable def looksT (ops : Array Oper) (o : Oper) : List Tmp := appL (tmpsOf o.op.operands.toList) (guardTmp ops o.guard)
noncomputable def writes (y : Item) (t : Tmp) : Bool := match y.o.dst with
  | some d => Nat.beq d t
  | none => false
/-- who writes what x looks at is done before it, or after it; no two write the same -/
noncomputable def dataItem (ops : Array Oper) (x : Item) (its : List Item) : Bool :=
  allL (fun y => match Nat.beq y.i x.i with
    | true => true
    | false => allL (fun t => notB (writes y t) || hasBit x.m y.i || hasBit y.m x.i) (looksT ops x.o) &&
      (match x.o.dst with
      | some d => notB (writes y d)
      | none => true)) its
noncomputable def maskOf (j : Nat) : List Item → Nat
  | [] => 0
  | x :: l => match Nat.beq x.i j with
    | true => x.m
    | false => maskOf j l
noncomputable def edgesMask (its : List Item) : List Edge → Nat
  | [] => 0
  | e :: es => match Region.binds .any e with
    | true => Nat.lor (Nat.lor (2 ^ e.on) (maskOf e.on its)) (edgesMask its es)
    | false => edgesMask its es
noncomputable def regionOk (ops : Array Oper) : Bool := match planOf ops.toList with
  | some its => planOk (actsOf its) ops.size its 0 && inLine (actsOf its) && allL (fun x => dataItem ops x its && Nat.beq x.m (edgesMask its x.o.after.toList)) its
  | none => false
noncomputable def opdIn (G : Nat) : Operand → Bool
  | .global g => hasBit G g
  | _ => true
noncomputable def opsIn (G : Nat) (ops : Array Oper) : Bool := allL (fun o => allL (opdIn G) o.op.operands.toList) ops.toList
/-- G: the globals that may be named, a bit each -/
noncomputable def codeOk (G : Nat) : Code → Bool
  | .region _ ops draw => opsIn G ops && (match draw with
    | true => regionOk ops
    | false => true)
  | .seq a b => codeOk G a && codeOk G b
  | .cond c a b => opdIn G c && codeOk G a && codeOk G b
  | .block _ b => codeOk G b
  | .loop b => codeOk G b
  | .scope b => codeOk G b
  | _ => true
noncomputable def bodyOk (G : Nat) (f : Func) : Bool := match f.body with
  | some c => codeOk G c
  | none => true

inductive Ex where
  | normal
  | exit (id : Nat)
  | ret
abbrev St := Tm → H → Option (Ex × Tm × H)
noncomputable def done (r : Option (Tm × H)) : Option (Ex × Tm × H) := match r with
  | some (T, h) => some (.normal, T, h)
  | none => none
noncomputable def evRegion (call : CallF) (Γ : Cx) (n : Nat) (ops : Array Oper) (draw : Bool) : St :=
  match draw with
  | false => fun T h => done (evOps call Γ n ops ops.toList T h)
  | true => match planOf ops.toList with
    | some plan => fun T h => done (evDrawn call Γ n ops plan T h)
    | none => fun _ _ => none
noncomputable def evSeq (a b : St) : St := fun T h => match a T h with
  | some (.normal, T, h) => b T h
  | r => r
noncomputable def evCond (c : Operand) (a b : St) : St := fun T h => match opd c T with
  | some (.bool true) => a T h
  | some (.bool false) => b T h
  | _ => none
noncomputable def evBlock (id : Nat) (b : St) : St := fun T h => match b T h with
  | some (.exit id', T, h) => match Nat.beq id' id with
    | true => some (.normal, T, h)
    | false => some (.exit id', T, h)
  | r => r
noncomputable def iter (n : Nat) (b : St) : St :=
  Nat.rec (fun _ _ => none) (fun _ ih T h => match b T h with
    | some (.normal, T, h) => ih T h
    | r => r) n
/- a loop over a map that takes entries out of it: whichever comes first -/
structure ML where
  it : Tmp
  d0 : Tmp
  d1 : Tmp
  ops1 : Array Oper
  e0 : Tmp
  ops2 : Array Oper
  ops3 : Array Oper
  c : Tmp
  ops4 : Array Oper
  plan : List Item
  x0 : Operand
  st : TypeId
  fd : Nat
  tm : TypeId
  tk : TypeId
  a0 : Tmp
  td : TypeId
/-- 'next', and whether there is one -/
noncomputable def isNext : List Oper → Option (Tmp × Tmp × Tmp)
  | [o1, o2] => match o1, o2 with
    | ⟨some d0, .next (.tmp it) false, _, _, _, none⟩, ⟨some d1, .extract (.tmp d0') 0, _, _, _, none⟩ => match Nat.beq d0' d0 with
      | true => some (it, d0, d1)
      | false => none
    | _, _ => none
  | _ => none
noncomputable def isEntry (it : Tmp) : List Oper → Option Tmp
  | ⟨some e0, .entry (.tmp it'), _, _, _, none⟩ :: _ => match Nat.beq it' it with
    | true => some e0
    | false => none
  | _ => none
/-- the map's place is looked up, the key, and its entry is taken out -/
noncomputable def allQuiet : List Item → Bool
  | [] => true
  | x :: l => match x.c with
    | .quiet => allQuiet l
    | _ => false
noncomputable def isTake : List Item → Option (Operand × TypeId × Nat × TypeId × TypeId × Tmp × TypeId)
  | [i0, i1, i2, i3, i4, i5] => match i0.o, i1.o, i2.o, i3.o, i4.o, i5.o with
    | ⟨some q0, .move x0, _, _, _, none⟩, ⟨some q1, .nilCheck (.tmp p0), _, _, _, none⟩, ⟨some q2, .fieldAddr st (.tmp p1) fd, _, _, _, none⟩,
      ⟨some q3, .load tm (.tmp p2), _, _, _, none⟩, ⟨some q4, .load tk (.tmp a0), _, _, _, none⟩, ⟨none, .call c, _, _, _, none⟩ =>
      match c.callee, c.args.toList, c.argTypes.toList with
      | .builtin .delete, [.tmp p3, .tmp p4], td :: _ =>
        match allQuiet [i0, i1, i2, i3, i4] && isAct i5 && Nat.beq p0 q0 && (Nat.beq p1 q1 && (Nat.beq p2 q2 && (Nat.beq p3 q3 && (Nat.beq p4 q4 && (notB (Nat.beq q3 q4) && notB (Nat.beq a0 q0) && (notB (Nat.beq a0 q1) && (notB (Nat.beq a0 q2) && notB (Nat.beq a0 q3)))))))) with
        | true => some (x0, st, fd, tm, tk, a0, td)
        | false => none
      | _, _, _ => none
    | _, _, _, _, _, _ => none
  | _ => none
noncomputable def mapLoop? (id : Nat) : Code → Option ML
  | .loop (.seq (.region _ ops1 false) (.seq (.cond (.tmp t) .skip (.exit id')) (.block _ (.seq (.region _ ops2 false) (.seq (.region _ ops3 false) (.cond (.tmp c) (.region _ ops4 true) .skip)))))) =>
    match isNext ops1.toList with
    | some (it, d0, d1) => match Nat.beq t d1 && Nat.beq id' id, isEntry it ops2.toList, planOf ops4.toList with
      | true, some e0, some plan => match isTake plan with
        | some (x0, st, fd, tm, tk, a0, td) => some { it, d0, d1, ops1, e0, ops2, ops3, c, ops4, plan, x0, st, fd, tm, tk, a0, td }
        | none => none
      | _, _, _ => none
    | none => none
  | _ => none
noncomputable def opsIt : List Item → List Oper
  | [] => []
  | x :: l => x.o :: opsIt l
noncomputable def dstsOf : List Oper → List Tmp
  | [] => []
  | o :: os => match o.dst with
    | some d => d :: dstsOf os
    | none => dstsOf os
noncomputable def readsOf : List Oper → List Tmp
  | [] => []
  | o :: os => appL (tmpsOf o.op.operands.toList) (readsOf os)
noncomputable def ML.dsts (p : ML) : List Tmp := appL (dstsOf p.ops1.toList) (appL (dstsOf p.ops2.toList) (appL (dstsOf p.ops3.toList) (dstsOf (opsIt p.plan))))
noncomputable def junkAll : List Tmp → Tm → Tm
  | [], T => T
  | t :: l, T => junkAll l (Tr.set T t .junk)
noncomputable def namesAt (T : Tm) : List Tmp → List Nat
  | [] => []
  | t :: l => match Tm.get T t with
    | .ptr r _ => r :: namesAt T l
    | .slice r _ _ _ _ _ => r :: namesAt T l
    | _ => namesAt T l
noncomputable def dropN (a b : Nat) : List Nat → List Nat
  | [] => []
  | n :: l => match Nat.beq n a, Nat.beq n b with
    | false, false => n :: dropN a b l
    | _, _ => dropN a b l
/-- the blocks of these names -/
noncomputable def pickTr (t : Tr Ob) : List Nat → Tr Ob
  | [] => .lf
  | r :: l => match Tr.get t r with
    | some o => Tr.set (pickTr t l) r o
    | none => pickTr t l
noncomputable def sameRows : List (List V) → List (List V) → Bool
  | [], [] => true
  | a :: l, b :: m => sameVs a b && sameRows l m
  | _, _ => false
/-- cells that may be turned, and are the same -/
noncomputable def sameCells : Option Ob → Option Ob → Bool
  | some (.cells s l false), some (.cells s' l' false) => Nat.beq s s' && sameRows l l'
  | _, _ => false
noncomputable def sameAt (t u : Tr Ob) : List Nat → Bool
  | [] => true
  | r :: l => match sameCells (Tr.get t r) (Tr.get u r) with
    | true => sameAt t u l
    | false => false
/-- no other entry has this key -/
noncomputable def oneKey (Γ : Cx) (kt : KT) (k : V) (b : Nat) : Ents → Bool
  | [] => true
  | e :: es => match eqKey Γ kt k e.1 with
    | some t => match eqB t (Nat.beq b e.2.2) with
      | true => oneKey Γ kt k b es
      | false => false
    | none => false
noncomputable def inEnts (b : Nat) : Ents → Bool
  | [] => false
  | e :: es => match Nat.beq b e.2.2 with
    | true => true
    | false => inEnts b es
noncomputable def bornOnce : Ents → Bool
  | [] => true
  | e :: es => match inEnts e.2.2 es with
    | true => false
    | false => bornOnce es
/-- one round, told by the entry alone: is it taken out? -/
noncomputable def roundM (call : CallF) (Γ : Cx) (n : Nat) (p : ML) (names : List Nat) (hs : Tr Ob) (nx m : Nat) (kt : KT) (es : Ents) (T : Tm) (e : V × V × Nat) : Option Bool :=
  match evOps call Γ n p.ops2 (dropL p.ops2.toList 1) (Tr.set (Tr.set (Tr.set T p.d0 (.tuple [.bool true, e.1, e.2.1])) p.d1 (.bool true)) p.e0 (.tuple [e.1, e.2.1])) { tr := hs, next := nx } with
  | none => none
  | some (T2, h2) => match evOps call Γ n p.ops3 p.ops3.toList T2 h2 with
    | none => none
    | some (T3, h3) => match sameAt hs h3.tr names, Tm.get T3 p.c with
      | true, .bool false => some false
      | true, .bool true => match opd p.x0 T3 with
        | none => none
        | some v0 => match checked v0 with
          | none => none
          | some v1 => match fieldAtP Γ.P p.st p.fd v1 with
            | none => none
            | some v2 => match loadP Γ.P p.tm { tr := Tr.set h3.tr m (.map [] 0), next := h3.next } v2, loadP Γ.P p.tk { tr := Tr.set h3.tr m (.map [] 0), next := h3.next } (Tm.get T3 p.a0) with
              | some (.map m'), some k => match Nat.beq m' m && (sameV k e.1 && (keyOk kt k && oneKey Γ kt k e.2.2 es)) with
                | true => some true
                | false => none
              | _, _ => none
      | _, _ => none
noncomputable def roundsM (f : V × V × Nat → Option Bool) : Ents → Option Ents
  | [] => some []
  | e :: es => match f e, roundsM f es with
    | some true, some l => some l
    | some false, some l => some (e :: l)
    | _, _ => none
noncomputable def allLt (n : Nat) : List Nat → Bool
  | [] => true
  | a :: l => match Nat.ble (a + 1) n with
    | true => allLt n l
    | false => false
noncomputable def evMap (call : CallF) (Γ : Cx) (n : Nat) (p : ML) : St := fun T h =>
  match Tm.get T p.it with
  | .ptr rI 0 => match Tr.get h.tr rI with
    | some (.mapIter (some m) since [] last) => match Tr.get h.tr m, mapT Γ.P p.td with
      | some (.map es clock), some (kt, _) =>
        let T0 := junkAll p.dsts T
        let names := dropN rI m (namesAt T0 (appL (readsOf p.ops2.toList) (appL (readsOf p.ops3.toList) (readsOf (opsIt p.plan)))))
        let hs := pickTr h.tr names
        match (allL (fun e => Nat.ble (e.2.2 + 1) since) es && (Nat.ble since last && (Nat.ble since clock && (bornOnce es && (allLt n p.dsts && (notB (memN p.it p.dsts) && (notB (Nat.beq rI m) && sameAt hs hs names))))))) with
        | false => none
        | true => match roundsM (roundM call Γ n p names hs h.next m kt es T0) es with
          | some es' => some (.normal, T0, { tr := Tr.del (Tr.set h.tr m (.map es' clock)) rI, next := h.next })
          | none => none
      | _, _ => none
    | _ => none
  | _ => none
/-- f: the function's number; n: its slots; lf: how many rounds a loop may have -/
noncomputable def evC (call : CallF) (Γ : Cx) (f n lf : Nat) (c : Code) : St :=
  Code.rec
    (fun T h => some (.normal, T, h))
    (fun _ ops draw => evRegion call Γ n ops draw)
    (fun _ _ a b => evSeq a b)
    (fun c _ _ a b => evCond c a b)
    (fun id c b => match mapLoop? id c with
      | some p => evMap call Γ n p
      | none => evBlock id b)
    (fun _ b => iter lf b)
    (fun _ _ _ _ _ _ => fun _ _ => none)
    (fun id T h => some (.exit id, T, h))
    (fun _ b => b)
    (fun _ T h => some (.normal, T, h))
    (fun _ _ _ => none)
    (fun T h => some (.ret, T, h))
    (fun _ _ _ => none) c

noncomputable def results (P : Program) : List ResultVar → Tm → H → Option (List V)
  | [] => fun _ _ => some []
  | r :: rs => match r with
    | .tmp t => fun T h => match results P rs T h with
      | some l => some (Tm.get T t :: l)
      | none => none
    | .cell a t => fun T h => match loadP P t h (Tm.get T a), results P rs T h with
      | some v, some l => some (v :: l)
      | _, _ => none
noncomputable def resultOf (l : List V) : V := match l with
  | [] => .tuple []
  | v :: vs => match vs with
    | [] => v
    | w :: ws => .tuple (v :: w :: ws)
noncomputable def setAll : List V → Nat → Tm → Tm
  | [], _, t => t
  | v :: vs, i, t => setAll vs (i + 1) (Tr.set t i v)
noncomputable def maxN (a b : Nat) : Nat := match Nat.ble a b with
  | true => b
  | false => a
noncomputable def leave (P : Program) (rs : List ResultVar) (r : Option (Ex × Tm × H)) : Option (V × H) := match r with
  | some (x, T, h) => match x with
    | .exit _ => none
    | _ => match results P rs T h with
      | some vs => some (resultOf vs, h)
      | none => none
  | none => none
noncomputable def enter (call : CallF) (Γ : Cx) (lf f : Nat) (fn : Func) (body : Code) : List V → H → Option (V × H) :=
  fun args h => leave Γ.P fn.results.toList (evC call Γ f (maxN (lenL args) fn.ntmps) lf body (setAll args 0 .lf) h)
noncomputable def callFn (call : CallF) (Γ : Cx) (lf : Nat) : CallF := fun f => match Γ.ext f with
  | some g => g
  | none => match Γ.P.funcs[f]? with
    | none => fun _ _ => none
    | some fn => match fn.body with
      | none => fun _ _ => none
      | some body => enter call Γ lf f fn body
/-- d: how deep calls may go -/
noncomputable def evCall (Γ : Cx) (lf : Nat) (d : Nat) : CallF :=
  Nat.rec (fun _ _ _ => none) (fun _ ih => callFn ih Γ lf) d
end Tk
