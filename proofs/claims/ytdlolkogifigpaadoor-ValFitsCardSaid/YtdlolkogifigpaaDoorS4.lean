/- Sh: the operations on plain values. No statement of the program is proved here. -/
import Derived.Test.YtdlolkogifigpaaDoorS3
set_option linter.unusedSimpArgs false
set_option linter.unusedVariables false
namespace Go.Sh
open Go Go.RowKit

/-- What a step yields, if it looks at no memory. -/
def pureRun {α : Type} (P : Program) : Sem α → Option α
  | .pure a => some a
  | .program k => pureRun P (k P)
  | .mark _ k => pureRun P k
  | _ => none
theorem pureRun_run {α : Type} {P : Program} {m : Sem α} {x : α} (h : pureRun P m = some x) (w : World) : m.run P w = .ok x w := by
  induction m with
  | pure a => simp [pureRun] at h; subst h; rfl
  | program k ih => simp only [pureRun] at h; simp only [Sem.run]; exact ih _ h
  | mark m k ih => simp only [pureRun] at h; simp only [Sem.run]; exact ih h
  | _ => simp [pureRun] at h
theorem pureRun_bind {α β : Type} (P : Program) (m : Sem α) (f : α → Sem β) : pureRun P (m >>= f) = (pureRun P m).bind fun x => pureRun P (f x) := by
  show pureRun P (m.bind f) = _
  induction m with
  | pure a => rfl
  | program k ih => simp only [Sem.bind, pureRun]; exact ih P
  | mark m k ih => simp only [Sem.bind, pureRun]; exact ih
  | _ => simp [Sem.bind, pureRun]
theorem pureRun_pure {α : Type} (P : Program) (x : α) : pureRun P (pure x : Sem α) = some x := rfl

/-- All answers, if there are all. -/
def seqO {α β : Type} (f : α → Option β) : List α → Option (List β)
  | [] => some []
  | x :: l => match f x, seqO f l with
    | some y, some ys => some (y :: ys)
    | _, _ => none
theorem seqO_cons {α β : Type} {f : α → Option β} {x : α} {l : List α} {ys : List β} (h : seqO f (x :: l) = some ys) : ∃ y zs, f x = some y ∧ seqO f l = some zs ∧ ys = y :: zs := by
  simp only [seqO] at h
  split at h
  · rename_i y zs h1 h2
    exact ⟨y, zs, h1, h2, by simpa using h.symm⟩
  · cases h
theorem seqO_spec {α β : Type} {f : α → Option β} : ∀ {l : List α} {ys : List β}, seqO f l = some ys → l.length = ys.length ∧ ∀ (i : Nat) x, l[i]? = some x → ∃ y, ys[i]? = some y ∧ f x = some y
  | [], ys, h => by simp [seqO] at h; subst h; simp
  | x :: l, ys, h => by
    obtain ⟨y, zs, h1, h2, rfl⟩ := seqO_cons h
    obtain ⟨h3, h4⟩ := seqO_spec h2
    refine ⟨by simp [h3], fun i z hz => ?_⟩
    cases i with
    | zero => simp at hz; subst hz; exact ⟨y, rfl, h1⟩
    | succ i => simpa using h4 i z (by simpa using hz)
theorem seqO_congr {α β : Type} {f g : α → Option β} : ∀ {l : List α}, (∀ x ∈ l, f x = g x) → seqO f l = seqO g l
  | [], _ => rfl
  | x :: l, h => by
    have := seqO_congr (l := l) (fun y hy => h y (List.mem_cons_of_mem _ hy))
    simp only [seqO, h x (List.mem_cons_self ..), this]

def optO {α β : Type} (f : α → Option β) : Option α → Option (Option β)
  | none => some none
  | some x => (f x).map some


inductive Arg where
  | tmp (t : Nat)
  | val (v : Value)
def Arg.of : Operand → Arg
  | .tmp t => .tmp t
  | .const v => .val v
  | .global g => .val (.pointer (some ⟨g, 0, none⟩))
  | .func f => .val (.func (.func f) #[] #[])
def Arg.get (s : FS) : Arg → Option TV
  | .tmp t => s.t t
  | .val v => some (.pv (.v v))
def Arg.reads : Arg → List Nat
  | .tmp t => [t]
  | .val _ => []

inductive SOp where
  | mov (x : Arg)
  | pick (c a b : Arg)
  | bin (op : BinOp) (t : TypeId) (x y : Arg)
  | un (op : UnOp) (x : Arg)
  | cvi (k : IntKind) (x : Arg)
  | cvs (x : Arg)
  | b2s (x : Arg)
  | imm (mx : Bool) (x y : Arg)
  | sidx (x i : Arg)
  | ssub (x : Arg) (lo hi : Option Arg)
  | slen (x : Arg)
  | new (zero : List Value)
  | box (x : Arg)
  | build (zero : List Value) (parts : List (Nat × Nat × Arg))
  | bsl (W : Nat) (xs : List Arg)
  | fld (agg : Bool) (off size : Nat) (x : Arg)
  | fldA (off : Nat) (x : Arg)
  | ld (agg : Bool) (size : Nat) (x : Arg)
  | st (size : Nat) (x y : Arg)
  | len (x : Arg)
  | idxA (W : Nat) (x i : Arg)
  | sub (W : Nat) (x : Arg) (lo hi : Option Arg)
  | app (e W bytes : Nat) (x y : Arg)
  | appS (e bytes : Nat) (x y : Arg)
  | appN (e W bytes : Nat) (x y : Arg)
  | appNS (e bytes : Nat) (x y : Arg)
  | call (f : Nat) (mode : Nat) (xs : List Arg)
  | callv (x : Arg) (mode : Nat) (xs : List Arg)
  | ext (x : Arg) (i : Nat)
  | nchk (x : Arg)
  | mkf (f : Fn) (first captured : List Arg)
  | rng (x : Arg)
  | nxt (x : Arg)
  | mks (bytes : Nat) (zero : List Value) (n : Arg)

def TV.val1 : TV → Option Value
  | .pv (.v x) => some x
  | _ => none
/-- A value without memory. -/
def TV.val : TV → Option Value
  | .agg cs => (seqO TV.val1 cs).map fun l => .agg l.toArray
  | t => t.val1
/-- The cells of a value. -/
def TV.cells : TV → Option (List TV)
  | .agg cs => some cs
  | .tuple _ => none
  | .unk => none
  | .pv (.v x) => if x.oneCell' then some [.pv (.v x)] else none
  | t => some [t]
def TV.toPV : TV → Option PV
  | .pv p => some p
  | .own _ W es => some (.sl W es)
  | _ => none
def TV.pvs (t : TV) : Option (List PV) := t.cells.bind fun cs => seqO TV.toPV cs
/-- The elements of a slice. -/
def TV.elems (W : Nat) : TV → Option (List (List PV))
  | .pv (.sl W' es) => if Nat.beq W' W then some es else none
  | .own _ W' es => if Nat.beq W' W then some es else none
  | .pv (.v (.slice none 0 0)) => some []
  | _ => none
def TV.isNil : TV → Bool
  | .pv (.v (.slice none 0 0)) => true
  | _ => false
def TV.slen : TV → Option Nat
  | .pv (.sl _ es) => some es.length
  | .own _ _ es => some es.length
  | .pv (.v (.slice _ n _)) => some n
  | .bs _ _ n _ => some n
  | _ => none
def TV.str : TV → Option ByteArray
  | .pv (.v (.string b)) => some b
  | _ => none
/-- A string's bytes as a slice's elements. -/
def bytesP (b : ByteArray) : List (List PV) := b.data.toList.map fun u => [.v (.int .u8 u.toNat)]
/-- The byte of an element. -/
def byteOf : List PV → Option UInt8
  | [.v (.int .u8 n)] => some (UInt8.ofNat n.toNat)
  | _ => none
def TV.int : TV → Option Int
  | .pv (.v (.int _ i)) => some i
  | _ => none
def TV.callee : TV → Option (Nat × List TV × List TV)
  | .fn (.func f) a b => some (f, a, b)
  | .pv (.fn (.func f) a b) => some (f, a.map .pv, b.map .pv)
  | .pv (.v (.func (.func f) ⟨[]⟩ ⟨[]⟩)) => some (f, [], [])
  | _ => none

/-- What a call is handed, and answers, of memory: a variable's cells, a slice that may be appended to. -/
inductive MO where
  | box (cs : List TV)
  | row (e W n : Nat)
inductive Upd where
  | no
  | box (cs : List TV)
  | wr (d : Nat) (cs : List TV)
  | row (d : Nat) (q : Nat × Nat × Nat)
  | mem (us : List (Nat × MO))
  | it (d : Nat) (q : ByteArray × Nat)

/-- Other names for memory. -/
def TV.ren0 (ρ : Nat → Option Nat) : TV → Option TV
  | .pv p => some (.pv p)
  | .unk => some .unk
  | .ptr d o => (ρ d).map fun d' => .ptr d' o
  | .own d W es => some (match ρ d with | some d' => .own d' W es | none => .pv (.sl W es))
  | .bs d o n c => (ρ d).map fun d' => .bs d' o n c
  | _ => none
def TV.ren1 (ρ : Nat → Option Nat) : TV → Option TV
  | .fn f a b => match seqO (TV.ren0 ρ) a, seqO (TV.ren0 ρ) b with
    | some a', some b' => some (.fn f a' b')
    | _, _ => none
  | t => t.ren0 ρ
def TV.ren2 (ρ : Nat → Option Nat) : TV → Option TV
  | .agg cs => (seqO (TV.ren1 ρ) cs).map .agg
  | t => t.ren1 ρ
def TV.ren3 (ρ : Nat → Option Nat) : TV → Option TV
  | .tuple ts => (seqO (TV.ren2 ρ) ts).map .tuple
  | t => t.ren2 ρ
def MO.ren (ρ : Nat → Option Nat) : MO → Option MO
  | .box cs => (seqO (TV.ren1 ρ) cs).map .box
  | .row e W n => some (.row e W n)
/-- The names that a value speaks of. -/
def TV.ids0 : TV → List Nat
  | .ptr d _ => [d]
  | .bs d _ _ _ => [d]
  | .own d _ _ => [d]
  | _ => []
def TV.ids1 : TV → List Nat
  | .fn _ a b => a.flatMap TV.ids0 ++ b.flatMap TV.ids0
  | t => t.ids0
def TV.ids2 : TV → List Nat
  | .agg cs => cs.flatMap TV.ids1
  | t => t.ids1
def pos : List Nat → Nat → Option Nat
  | [], _ => none
  | x :: l, d => if Nat.beq x d then some 0 else (pos l d).map (· + 1)
/-- All memory that is to be reached, by names. -/
def reach (s : FS) (rows : Bool) : Nat → List Nat → List Nat → List Nat
  | 0, _, seen => seen
  | _, [], seen => seen
  | f + 1, d :: l, seen => match pos seen d with
    | some _ => reach s rows f l seen
    | none => match s.b d with
      | some cs => reach s rows f (cs.flatMap TV.ids1 ++ l) (seen ++ [d])
      | none => match s.r d, rows with
        | some _, true => reach s rows f l (seen ++ [d])
        | _, _ => reach s rows f l seen
def rhoIn (I : List Nat) (d : Nat) : Option Nat := (pos I d).map (1000 + ·)
def newId (k q : Nat) : Nat := 2000 + 4 * k + q
def rhoOut (I : List Nat) (k : Nat) (d : Nat) : Option Nat :=
  if Nat.ble 1000 d then match I[d - 1000]? with
    | some i => some i
    | none => if Nat.blt (d - 1000 - I.length) 4 then some (newId k (d - 1000 - I.length)) else none
  else none
def FS.mo (s : FS) (d : Nat) : Option MO := match s.b d, s.r d with
  | some cs, none => some (.box cs)
  | none, some (e, W, n) => some (.row e W n)
  | _, _ => none
/-- What a call may make of what it was handed. -/
def moOk : List MO → List MO → Bool
  | [], l => Nat.ble l.length 4
  | .box _ :: l, .box _ :: l' => moOk l l'
  | .row e W n :: l, .row e' W' n' :: l' => Nat.beq e e' && Nat.beq W W' && Nat.ble n n' && moOk l l'
  | _, _ => false
def outs (ρ : Nat → Option Nat) : Nat → List MO → Option (List (Nat × MO))
  | _, [] => some []
  | j, m :: l => match ρ (1000 + j), m.ren ρ, outs ρ (j + 1) l with
    | some i, some m', some r => some ((i, m') :: r)
    | _, _, _ => none
abbrev Oracle := Nat → List TV → List MO → Option (TV × List MO)
def callEff (C : Oracle) (s : FS) (k f mode : Nat) (xs : List TV) : Option (TV × Upd) :=
  let I := if Nat.beq mode 0 then [] else reach s (Nat.beq mode 2) 64 (xs.flatMap TV.ids2) []
  match seqO (TV.ren2 (rhoIn I)) xs, seqO (fun d => (s.mo d).bind (MO.ren (rhoIn I))) I with
  | some xs', some os => match C f xs' os with
    | some (y, os') => if moOk os os' then match y.ren3 (rhoOut I k), outs (rhoOut I k) 0 os' with
        | some y', some us => some (y', .mem us)
        | _, _ => none
      else none
    | none => none
  | _, _ => none

def fillT (cs : List TV) : List (Nat × Nat × List TV) → Option (List TV)
  | [] => some cs
  | (off, size, xs) :: rest => if xs.length = size ∧ off + size ≤ cs.length then fillT (splice cs off xs) rest else none
def partsT (s : FS) (parts : List (Nat × Nat × Arg)) : Option (List (Nat × Nat × List TV)) :=
  seqO (fun p : Nat × Nat × Arg => ((p.2.2.get s).bind TV.cells).map fun xs => (p.1, p.2.1, xs)) parts
def bound (s : FS) (dflt : Nat) : Option Arg → Option Nat
  | none => some dflt
  | some x => ((x.get s).bind TV.int).bind fun i => if 0 ≤ i then some i.toNat else none
def dstId (dst : Option Nat) : Nat := match dst with | some d => d | none => 900

def scal (P : Program) (m : Sem Value) : Option (TV × Upd) := (pureRun P m).map fun v => (.pv (.v v), .no)
def eff (P : Program) (C : Oracle) (dst : Option Nat) (o : SOp) (s : FS) : Option (TV × Upd) :=
  match o with
  | .mov x => (x.get s).map fun v => (v, .no)
  | .pick c a b => match c.get s with
    | some (.pv (.v (.bool t))) => ((if t then a else b).get s).map fun v => (v, .no)
    | _ => none
  | .bin op t x y => match (x.get s).bind TV.val, (y.get s).bind TV.val with
    | some .nilIface, some .nilIface => none
    | some vx, some vy => scal P (do eqGuard op t (.const vx) (.const vy) vx vy; binOp op t vx vy)
    | _, _ => none
  | .un op x => match (x.get s).bind TV.val with
    | some v => scal P (Op.unary op v)
    | none => none
  | .cvi k x => ((x.get s).bind TV.int).map fun n => (.pv (.v (.int k (k.wrap n))), .no)
  | .cvs x => ((x.get s).bind TV.str).map fun n => (.pv (.v (.string n)), .no)
  | .b2s x => (((x.get s).bind (TV.elems 1)).bind (seqO byteOf)).map fun l => (.pv (.v (.string ⟨l.toArray⟩)), .no)
  | .imm mx x y => match x.get s, y.get s with
    | some (.pv (.v (.int .i64 a))), some (.pv (.v (.int .i64 b))) => some (.pv (.v (.int .i64 (if mx then max a b else min a b))), .no)
    | _, _ => none
  | .sidx x i => match (x.get s).bind TV.str, (i.get s).bind TV.int with
    | some z, some k => if 0 ≤ k then (z.data.toList[k.toNat]?).map fun (b : UInt8) => (.pv (.v (.int .u8 b.toNat)), .no) else none
    | _, _ => none
  | .ssub x lo hi => match (x.get s).bind TV.str with
    | some z => match bound s 0 lo, bound s z.size hi with
      | some l, some h => if l ≤ h ∧ h ≤ z.size then some (.pv (.v (.string (z.extract l h))), .no) else none
      | _, _ => none
    | none => none
  | .slen x => ((x.get s).bind TV.str).map fun z => (.pv (.v (.int .i64 (z.size : Int))), .no)
  | .new zero => match dst with
    | some d => some (.ptr d 0, .box (zero.map fun v => .pv (.v v)))
    | none => none
  | .box x => match dst with
    | some d => ((x.get s).bind TV.cells).map fun cs => (.ptr d 0, .box cs)
    | none => none
  | .build zero parts => (partsT s parts).bind fun ps => (fillT (zero.map fun v => .pv (.v v)) ps).map fun cs => (.agg cs, .no)
  | .bsl W xs => (seqO (fun x : Arg => (x.get s).bind TV.pvs) xs).bind fun es => if es.all (fun e => e.length == W) then some (.pv (.sl W es), .no) else none
  | .fld agg off size x => match x.get s with
    | some (.agg cs) => if agg then (if off + size ≤ cs.length then some (.agg ((cs.drop off).take size), .no) else none) else (cs[off]?).map fun c => (c, .no)
    | _ => none
  | .fldA off x => match x.get s with
    | some (.ptr d o) => some (.ptr d (o + off), .no)
    | some (.pv (.el cs)) => some (.pv (.el (cs.drop off)), .no)
    | _ => none
  | .ld agg size x => match x.get s with
    | some (.ptr d o) => (s.b d).bind fun cs => if agg then (if o + size ≤ cs.length then some (.agg ((cs.drop o).take size), .no) else none) else (cs[o]?).map fun c => (c, .no)
    | some (.pv (.el cs)) => if agg then (if size ≤ cs.length then some (.agg ((cs.take size).map .pv), .no) else none) else (cs[0]?).map fun c => (.pv c, .no)
    | _ => none
  | .st size x y => match x.get s with
    | some (.ptr d o) => (s.b d).bind fun cs => ((y.get s).bind TV.cells).bind fun xs => if xs.length = size ∧ o + size ≤ cs.length then some (.pv (.v undef), .wr d (splice cs o xs)) else none
    | _ => none
  | .len x => ((x.get s).bind TV.slen).map fun (n : Nat) => (.pv (.v (.int .i64 (n : Int))), .no)
  | .idxA W x i => match x.get s, (i.get s).bind TV.int with
    | some (.bs d off n _), some k => if 0 ≤ k ∧ k < n then some (.ptr d (off + k.toNat * W), .no) else none
    | some t, some k => if 0 ≤ k then ((t.elems W).bind fun es => es[k.toNat]?).map fun cs => (.pv (.el cs), .no) else none
    | _, _ => none
  | .sub W x lo hi => match x.get s with
    | some (.bs d off n c) => match bound s 0 lo, bound s n hi with
      | some l, some h => if l ≤ h ∧ h ≤ n ∧ n ≤ c then some (if c = l then .bs d off (h - l) (c - l) else .bs d (off + l * W) (h - l) (c - l), .no) else none
      | _, _ => none
    | some t => match t.elems W with
      | some es => match bound s 0 lo, bound s es.length hi with
        | some l, some h => if l ≤ h ∧ h ≤ es.length then some (.pv (.sl W ((es.take h).drop l)), .no) else none
        | _, _ => none
      | none => none
    | none => none
  | .app e W bytes x y => match x.get s, (y.get s).bind (TV.elems W) with
    | some (.own d W' es), some es2 => if W' = W ∧ s.r d = some (e, W, es.length) ∧ (es.length + es2.length) * bytes ≤ 140737488355328 ∧ es.length + es2.length ≤ maxLen then some (.own d W (es ++ es2), .row d (e, W, es.length + es2.length)) else none
    | _, _ => none
  | .appN e W bytes x y => match dst, (x.get s).map TV.isNil, (y.get s).bind (TV.elems W) with
    | some d, some true, some es2 => if es2.length * bytes ≤ 140737488355328 ∧ es2.length ≤ maxLen then some (.own d W es2, .row d (e, W, es2.length)) else none
    | _, _, _ => none
  | .appS e bytes x y => match x.get s, (y.get s).bind TV.str with
    | some (.own d W' es), some b => if W' = 1 ∧ s.r d = some (e, 1, es.length) ∧ (es.length + b.size) * bytes ≤ 140737488355328 ∧ es.length + b.size ≤ maxLen then
        some (.own d 1 (es ++ bytesP b), .row d (e, 1, es.length + b.size)) else none
    | _, _ => none
  | .appNS e bytes x y => match dst, (x.get s).map TV.isNil, (y.get s).bind TV.str with
    | some d, some true, some b => if b.size * bytes ≤ 140737488355328 ∧ b.size ≤ maxLen then some (.own d 1 (bytesP b), .row d (e, 1, b.size)) else none
    | _, _, _ => none
  | .call f mode xs => (seqO (fun x : Arg => x.get s) xs).bind fun vs => callEff C s (dstId dst) f mode vs
  | .callv x mode xs => match (x.get s).bind TV.callee, seqO (fun x : Arg => x.get s) xs with
    | some (f, a, b), some vs => callEff C s (dstId dst) f mode (a ++ vs ++ b)
    | _, _ => none
  | .ext x i => match x.get s with
    | some (.tuple ts) => (ts[i]?).map fun c => (c, .no)
    | _ => none
  | .nchk x => match x.get s with
    | some (.ptr d o) => some (.ptr d o, .no)
    | some (.pv (.el cs)) => some (.pv (.el cs), .no)
    | _ => none
  | .mkf f a b => match seqO (fun x : Arg => x.get s) a, seqO (fun x : Arg => x.get s) b with
    | some a', some b' => some (.fn f a' b', .no)
    | _, _ => none
  | .rng x => match dst, (x.get s).bind TV.str with
    | some d, some z => some (.it d, .it d (z, 0))
    | _, _ => none
  | .nxt x => match x.get s with
    | some (.it d) => match s.i d with
      | some (z, p) => if p < z.size then some (.tuple [.pv (.v (.bool true)), .pv (.v (.int .i64 (p : Int))), .pv (.v (.int .i32 (Utf8.decode z p).1))], .it d (z, p + (Utf8.decode z p).2)) else some (.tuple [.pv (.v (.bool false))], .no)
      | none => none
    | _ => none
  | .mks bytes zero n => match dst, n.get s with
    | some d, some (.pv (.v (.int .i64 k))) => if 0 ≤ k ∧ bytes * k ≤ 140737488355328 ∧ k ≤ maxLen then some (.bs d 0 k.toNat k.toNat, .box ((List.replicate k.toNat (zero.map fun v => TV.pv (.v v))).flatten)) else none
    | _, _ => none

def memB (us : List (Nat × MO)) (f : Nat → Option (List TV)) : Nat → Option (List TV) := fun j => match us.lookup j with | some (.box cs) => some cs | _ => f j
def memR (us : List (Nat × MO)) (f : Rows) : Rows := fun j => match us.lookup j with | some (.row e W n) => some (e, W, n) | _ => f j
def FS.upd (s : FS) (dst : Option Nat) : Upd → FS
  | .no => s
  | .box cs => match dst with | some d => s.setB d cs | none => s
  | .wr d cs => s.setB d cs
  | .row d q => s.setR d q
  | .mem us => { s with b := memB us s.b, r := memR us s.r }
  | .it d q => s.setI d q

/-- The names that an operation makes. -/
def SOp.news (dst : Option Nat) : SOp → List Nat
  | .new _ | .box _ | .appN .. | .appNS .. | .rng _ | .mks .. => match dst with | some d => [d] | none => []
  | .call .. | .callv .. => [newId (dstId dst) 0, newId (dstId dst) 1, newId (dstId dst) 2, newId (dstId dst) 3]
  | _ => []

/-- The operation, with the sizes and places of its types; h: how it is taken. -/
def transOp (P : Program) (o : Oper) (h : Nat) : Option SOp :=
  match o.op with
  | .move x | .assign x => some (.mov (.of x))
  | .pick c a b => some (.pick (.of c) (.of a) (.of b))
  | .alloc e => match P.info? e with
    | some i => match i.zero with
      | some z => if z.cells.toList.all (·.oneCell') then some (.new z.cells.toList) else none
      | none => none
    | none => none
  | .box _ x => some (.box (.of x))
  | .build t parts => match P.info? t, P.underlying t with
    | some i, some (.struct fs) => match i.zero with
      | some z => if z.cells.toList.all (·.oneCell') && fs.all (fun f => (P.info? f.type).isSome) then ((seqO (fun p : Nat × Operand => match fs[p.1]? with
          | some f => (P.info? f.type).map fun j => (f.offset, j.size, Arg.of p.2)
          | none => none) parts.toList).map fun ps => .build z.cells.toList ps) else none
      | none => none
    | _, _ => none
  | .buildSlice t len parts => match P.underlying t with
    | some (.slice e) => match P.info? e with
      | some i => match i.zero with
        | some z => if parts.toList.map (·.1) = List.range len ∧ len * i.size ≤ 16777216 ∧ z.cells.size = i.size ∧ 0 < len * i.size then some (.bsl i.size (parts.toList.map fun p => Arg.of p.2)) else none
        | none => none
      | none => none
    | _ => none
  | .load t x => match P.underlying t, P.info? t with
    | some d, some i => some (if d.isRow then .ld true i.size (.of x) else .ld false 1 (.of x))
    | _, _ => none
  | .store t x y => match P.info? t with
    | some i => some (.st i.size (.of x) (.of y))
    | none => none
  | .nilCheck x => some (.nchk (.of x))
  | .binOp op t x y _ => some (.bin op t (.of x) (.of y))
  | .unOp op _ x => some (.un op (.of x))
  | .convert src dst x => match P.underlying src, P.underlying dst with
    | some (.int _), some (.int k) => some (.cvi k (.of x))
    | some .string, some .string => some (.cvs (.of x))
    | some (.slice e), some .string => match P.underlying e with
      | some (.int .u8) => some (.b2s (.of x))
      | _ => none
    | _, _ => none
  | .slice t x lo hi none => match P.underlying t with
    | some .string => some (.ssub (.of x) (lo.map .of) (hi.map .of))
    | some (.slice e) => match P.info? e with
      | some i => some (.sub i.size (.of x) (lo.map .of) (hi.map .of))
      | none => none
    | _ => none
  | .fieldAddr t x f => match P.underlying t with
    | some (.struct fs) => match fs[f]? with
      | some fd => match P.info? fd.type with
        | some i => if i.size = 0 then none else some (.fldA fd.offset (.of x))
        | none => none
      | none => none
    | _ => none
  | .field t x f => match P.underlying t with
    | some (.struct fs) => match fs[f]? with
      | some fd => match P.info? fd.type, P.underlying fd.type with
        | some i, some d => some (.fld d.isRow fd.offset i.size (.of x))
        | _, _ => none
      | none => none
    | _ => none
  | .indexAddr t x i => match P.underlying t with
    | some (.slice e) => match P.info? e with
      | some j => some (.idxA j.size (.of x) (.of i))
      | none => none
    | _ => none
  | .index t x i => match P.underlying t with
    | some .string => some (.sidx (.of x) (.of i))
    | _ => none
  | .extract x i => some (.ext (.of x) i)
  | .makeFunc f a b => some (.mkf f (a.toList.map .of) (b.toList.map .of))
  | .range t x => match P.underlying t with
    | some .string => some (.rng (.of x))
    | _ => none
  | .next x true => some (.nxt (.of x))
  | .makeSlice t l c => match P.underlying t, l, c with
    | some (.slice e), .tmp a, .tmp b => if Nat.beq a b then match P.info? e with
      | some i => match i.zero with
        | some z => if z.cells.size = i.size ∧ 0 < i.size ∧ z.cells.toList.all (·.oneCell') = true then some (.mks i.bytes z.cells.toList (.tmp a)) else none
        | none => none
      | none => none else none
    | _, _, _ => none
  | .call { callee := .builtin .len, args, argTypes } => match argTypes.toList, args.toList with
    | [t], [x] => match P.underlying t with
      | some (.slice _) => some (.len (.of x))
      | some .string => some (.slen (.of x))
      | _ => none
    | _, _ => none
  | .call { callee := .builtin .min, args, argTypes } => match args.toList, argTypes.toList with
    | [x, y], [t, _] => match P.underlying t with
      | some (.int .i64) => some (.imm false (.of x) (.of y))
      | _ => none
    | _, _ => none
  | .call { callee := .builtin .max, args, argTypes } => match args.toList, argTypes.toList with
    | [x, y], [t, _] => match P.underlying t with
      | some (.int .i64) => some (.imm true (.of x) (.of y))
      | _ => none
    | _, _ => none
  | .call { callee := .builtin .append, args, argTypes } => match args.toList, argTypes.toList with
    | [x, y], [t, tx] => match P.underlying t with
      | some (.slice e) => match P.info? e with
        | some i => match i.zero with
          | some z => if z.cells.size = i.size ∧ 0 < i.size then
              match P.underlying tx with
              | some (.slice _) => some (if Nat.beq h 1 then .appN e i.size i.bytes (.of x) (.of y) else .app e i.size i.bytes (.of x) (.of y))
              | some .string => if i.size = 1 then some (if Nat.beq h 1 then .appNS e i.bytes (.of x) (.of y) else .appS e i.bytes (.of x) (.of y)) else none
              | _ => none
            else none
          | none => none
        | none => none
      | _ => none
    | _, _ => none
  | .call { callee := .value (.func f), args, argTypes := _ } => match P.funcs[f]? with
    | some fn => if fn.body.isSome && fn.name != "runtime.NumGoroutine" then some (.call f h (args.toList.map .of)) else none
    | none => none
  | .call { callee := .value (.tmp t), args, argTypes := _ } => some (.callv (.tmp t) h (args.toList.map .of))
  | _ => none
end Go.Sh
