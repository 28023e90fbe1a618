/-
  An evaluator of the model's code over abstract values, and its soundness, part 4.
-/
import Derived.Test.YtlpfhodieopmhaaGreatDoorAeC
import Derived.Deep.DeepHandedRow
import Derived.Lib.LaidTab
set_option linter.unusedVariables false
set_option linter.unusedSimpArgs false
set_option linter.unusedSectionVars false
set_option linter.unnecessarySimpa false
namespace Go.Proofs.YtlpfhodieopmhaaGreatDoor.Ae

noncomputable section

def ltR (a b : Int) : Bool := Int.rec (motive := fun _ => Int → Bool) (fun m b => Int.rec (motive := fun _ => Bool) (fun n => Nat.ble (Nat.succ m) n) (fun _ => false) b) (fun m b => Int.rec (motive := fun _ => Bool) (fun _ => true) (fun n => Nat.ble (Nat.succ n) m) b) a b
theorem ltR_eq (a b : Int) : ltR a b = ltI a b := by cases a <;> cases b <;> rfl

def eqR (a b : Int) : Bool := Int.rec (motive := fun _ => Int → Bool) (fun m b => Int.rec (motive := fun _ => Bool) (fun n => Nat.beq m n) (fun _ => false) b) (fun m b => Int.rec (motive := fun _ => Bool) (fun _ => false) (fun n => Nat.beq m n) b) a b
theorem eqR_eq (a b : Int) : eqR a b = eqI a b := by cases a <;> cases b <;> rfl

def kN (k : IntKind) : Nat := IntKind.rec (motive := fun _ => Nat) 0 1 2 3 4 5 6 7 k
def eqKR (a b : IntKind) : Bool := Nat.beq (kN a) (kN b)
theorem eqKR_eq (a b : IntKind) : eqKR a b = eqK a b := by cases a <;> cases b <;> rfl

def notR (b : Bool) : Bool := Bool.rec true false b
theorem notR_eq (b : Bool) : notR b = !b := by cases b <;> rfl

/-- m - n - 1, if n < m; else minus so much. -/
def subN (m n : Nat) : Int := Bool.rec (motive := fun _ => Int) (.negSucc (Nat.sub n (Nat.succ m))) (.ofNat (Nat.sub m n)) (Nat.ble n m)

theorem subN_eq (m n : Nat) : subN m n = Int.subNatNat m n := by
  unfold subN
  cases h : Nat.ble n m with
  | true =>
    have h := Nat.le_of_ble_eq_true h
    show Int.ofNat (m - n) = _
    rw [Int.subNatNat_of_le h]
    rfl
  | false =>
    have h : m < n := by
      rcases Nat.lt_or_ge m n with h' | h'
      · exact h'
      · rw [Nat.ble_eq_true_of_le h'] at h; cases h
    show Int.negSucc (n - (m + 1)) = _
    rw [Int.subNatNat_of_lt h]
    show _ = Int.negSucc (n - m - 1)
    congr 1

def addR (a b : Int) : Int := Int.rec (motive := fun _ => Int → Int) (fun m b => Int.rec (motive := fun _ => Int) (fun n => .ofNat (Nat.add m n)) (fun n => subN m (Nat.succ n)) b)
  (fun m b => Int.rec (motive := fun _ => Int) (fun n => subN n (Nat.succ m)) (fun n => .negSucc (Nat.succ (Nat.add m n))) b) a b
theorem addR_eq (a b : Int) : addR a b = Int.add a b := by
  cases a with
  | ofNat m => cases b with
    | ofNat n => rfl
    | negSucc n => exact subN_eq m (n + 1)
  | negSucc m => cases b with
    | ofNat n => exact subN_eq n (m + 1)
    | negSucc n => rfl

def negR (a : Int) : Int := Int.rec (motive := fun _ => Int) (fun m => Nat.rec (motive := fun _ => Int) (.ofNat 0) (fun j _ => .negSucc j) m) (fun m => .ofNat (Nat.succ m)) a
theorem negR_eq (a : Int) : negR a = Int.neg a := by
  cases a with
  | ofNat m => cases m <;> rfl
  | negSucc m => rfl

def okR (n : Int) : Bool := Int.rec (motive := fun _ => Bool) (fun m => Nat.ble (Nat.succ m) 9223372036854775808) (fun m => Nat.ble (Nat.succ m) 9223372036854775808) n

/-- A whole number of a kind, told. -/
def putI (k : IntKind) (n : Int) (q : AV → RO) : RO :=
  frI n fun n => Bool.rec (motive := fun _ => RO) (frI (wrapF k n) fun n => q (.int k n)) (Bool.rec (motive := fun _ => RO) (frI (wrapF k n) fun n => q (.int k n)) (q (.int k n)) (okR n)) (Nat.beq (kN k) 3)

theorem putI_eq (k : IntKind) (n : Int) (q : AV → RO) : putI k n q = q (.int k (wrapF k n)) := by
  unfold putI
  simp only [frI_eq]
  cases h : Nat.beq (kN k) 3 with
  | false => rfl
  | true =>
    cases h2 : okR n with
    | false => rfl
    | true =>
      have hk : k = .i64 := by cases k <;> first | rfl | cases h
      subst hk
      have : inI64 n = true := by cases n <;> exact h2
      simp only [wrapF, this, cond_true]

abbrev B2 := AV → AV → (AV → RO) → RO

def arI (op : BinOp) (f : Int → Int → Int) (a : AV) : B2 :=
  cInt (α := B2) (fun a b q => binP op a b q) (fun ka x a b q => cInt (α := AV → AV → IntKind → Int → (AV → RO) → RO) (fun a b _ _ q => binP op a b q) (fun kb y _ _ ka x q => gR (eqKR ka kb) (putI ka (f x y) q)) b a b ka x q) a

def addP (a b : AV) (q : AV → RO) : RO := arI .add addR a a b q
def subP (a b : AV) (q : AV → RO) : RO := arI .sub (fun x y => addR x (negR y)) a a b q

theorem arI_eq (op : BinOp) (f : Int → Int → Int) (h : ∀ ka kb x y q, gR (eqKR ka kb) (putI ka (f x y) q) = binP op (.int ka x) (.int kb y) q) (a b : AV) (q : AV → RO) : arI op f a a b q = binP op a b q := by
  cases a <;> try rfl
  rename_i ka x
  cases b <;> try rfl
  exact h _ _ _ _ _

theorem addP_eq (a b : AV) (q : AV → RO) : addP a b q = binP .add a b q := arI_eq _ _ (fun ka kb x y q => by
  simp only [gR_eq, eqKR_eq, putI_eq, addR_eq, binP, binV, binW, binI]
  cases eqK ka kb <;> rfl) a b q

theorem subP_eq (a b : AV) (q : AV → RO) : subP a b q = binP .sub a b q := arI_eq _ _ (fun ka kb x y q => by
  simp only [gR_eq, eqKR_eq, putI_eq, addR_eq, negR_eq, binP, binV, binW, binI]
  cases eqK ka kb <;> rfl) a b q

def cmI (op : BinOp) (f : Int → Int → Bool) (a : AV) : B2 :=
  cInt (α := B2) (fun a b q => binP op a b q) (fun ka x a b q => cInt (α := AV → AV → IntKind → Int → (AV → RO) → RO) (fun a b _ _ q => binP op a b q) (fun kb y _ _ ka x q => gR (eqKR ka kb) (q (.bool (f x y)))) b a b ka x q) a

theorem cmI_eq (op : BinOp) (f : Int → Int → Bool) (h : ∀ ka kb x y q, gR (eqKR ka kb) (q (.bool (f x y))) = binP op (.int ka x) (.int kb y) q) (a b : AV) (q : AV → RO) : cmI op f a a b q = binP op a b q := by
  cases a <;> try rfl
  rename_i ka x
  cases b <;> try rfl
  exact h _ _ _ _ _

def lssP (a b : AV) (q : AV → RO) : RO := cmI .lss ltR a a b q
def leqP (a b : AV) (q : AV → RO) : RO := cmI .leq (fun x y => notR (ltR y x)) a a b q
def gtrP (a b : AV) (q : AV → RO) : RO := cmI .gtr (fun x y => ltR y x) a a b q
def geqP (a b : AV) (q : AV → RO) : RO := cmI .geq (fun x y => notR (ltR x y)) a a b q

theorem lssP_eq (a b : AV) (q : AV → RO) : lssP a b q = binP .lss a b q := cmI_eq _ _ (fun ka kb x y q => by
  simp only [gR_eq, eqKR_eq, ltR_eq, binP, binV, binW, binI]; cases eqK ka kb <;> rfl) a b q
theorem leqP_eq (a b : AV) (q : AV → RO) : leqP a b q = binP .leq a b q := cmI_eq _ _ (fun ka kb x y q => by
  simp only [gR_eq, eqKR_eq, ltR_eq, notR_eq, binP, binV, binW, binI]; cases eqK ka kb <;> rfl) a b q
theorem gtrP_eq (a b : AV) (q : AV → RO) : gtrP a b q = binP .gtr a b q := cmI_eq _ _ (fun ka kb x y q => by
  simp only [gR_eq, eqKR_eq, ltR_eq, binP, binV, binW, binI]; cases eqK ka kb <;> rfl) a b q
theorem geqP_eq (a b : AV) (q : AV → RO) : geqP a b q = binP .geq a b q := cmI_eq _ _ (fun ka kb x y q => by
  simp only [gR_eq, eqKR_eq, ltR_eq, notR_eq, binP, binV, binW, binI]; cases eqK ka kb <;> rfl) a b q

def binR (o : BinOp) : B2 := BinOp.rec (motive := fun _ => B2) addP subP (binP .mul) (binP .quo) (binP .rem) (binP .and) (binP .or) (binP .xor) (binP .shl) (binP .shr) (binP .andNot) (binP .eql) (binP .neq) lssP leqP gtrP geqP o

theorem binR_eq (o : BinOp) (a b : AV) (q : AV → RO) : binR o a b q = binP o a b q := by
  cases o <;> first | rfl | exact addP_eq a b q | exact subP_eq a b q | exact lssP_eq a b q | exact leqP_eq a b q | exact gtrP_eq a b q | exact geqP_eq a b q

/-- A value told, if it is a whole number. -/
def frV (v : AV) (k : AV → RO) : RO := cInt (α := AV → (AV → RO) → RO) (fun v k => k v) (fun i n _ k => frI n fun n => k (.int i n)) v v k
theorem frV_eq (v : AV) (k : AV → RO) : frV v k = k v := by
  cases v <;> try rfl
  rename_i i n
  exact frI_eq n fun n => k (.int i n)

def pickR (c a b : AV) (k : AV → RO) : RO := cBool (α := AV → AV → (AV → RO) → RO) (fun _ _ _ => none) (fun t a b k => Bool.rec (motive := fun _ => RO) (k b) (k a) t) c a b k
theorem pickR_eq (c a b : AV) (k : AV → RO) : pickR c a b k = pickP c a b k := by
  cases c <;> try rfl
  rename_i t; cases t <;> rfl

def faR (off : Nat) (p : AV) (k : AV → RO) : RO := cPtr (α := Nat → (AV → RO) → RO) (fun _ _ => none) (fun b o off k => frN (Nat.add o off) fun o => k (.ptr b o)) p off k
theorem faR_eq (off : Nat) (p : AV) (k : AV → RO) : faR off p k = faP off p k := by
  cases p <;> try rfl
  rename_i b o
  exact frN_eq (Nat.add o off) fun o => k (.ptr b o)

def noneN : Nat → RO := fun _ => none
/-- A place: a number that is not below nought. -/
def cNat (v : AV) (f : Nat → RO) : RO := cInt (α := (Nat → RO) → RO) (fun _ => none) (fun _ n f => Int.rec (motive := fun _ => RO) (fun m => f m) (fun _ => none) n) v f
theorem cNat_eq (v : AV) (f : Nat → RO) : cNat v f = match natP v with | some i => f i | none => none := by
  cases v <;> try rfl
  rename_i k n; cases n <;> rfl

def iaSR (size : Nat) (s i : AV) (k : AV → RO) : RO :=
  cNat i fun i => cSlice (α := Nat → Nat → (AV → RO) → RO) (fun _ _ _ => none) (fun b o len i size k => gR (Nat.ble (Nat.succ i) len) (frN (Nat.add o (Nat.mul i size)) fun o => k (.ptr b o))) s i size k
theorem iaSR_eq (size : Nat) (s i : AV) (k : AV → RO) : iaSR size s i k = iaS size s i k := by
  unfold iaSR iaS
  rw [cNat_eq]
  cases natP i with
  | none => rfl
  | some i =>
    simp only
    cases s <;> try rfl
    show gR _ (frN _ _) = _
    rw [gR_eq, frN_eq]
    rfl

def iaAR (n size : Nat) (p i : AV) (k : AV → RO) : RO :=
  cNat i fun i => cPtr (α := Nat → Nat → Nat → (AV → RO) → RO) (fun _ _ _ _ => none) (fun b o n size i k => gR (Nat.ble (Nat.succ i) n) (frN (Nat.add o (Nat.mul i size)) fun o => k (.ptr b o))) p n size i k
theorem iaAR_eq (n size : Nat) (p i : AV) (k : AV → RO) : iaAR n size p i k = iaA n size p i k := by
  unfold iaAR iaA
  rw [cNat_eq]
  cases natP i with
  | none => rfl
  | some i =>
    simp only
    cases p <;> try rfl
    show gR _ (frN _ _) = _
    rw [gR_eq, frN_eq]
    rfl

def partR (agg : Bool) (off size n : Nat) (cs : List AV) (k : AV → RO) : RO :=
  Bool.rec (motive := fun _ => RO) (gR (Nat.ble (Nat.succ off) n) (nthK cs off k)) (gR (Nat.ble (Nat.add off size) n) (dropK cs off fun l => k (.agg size l))) agg
theorem partR_eq (agg : Bool) (off size n : Nat) (cs : List AV) (k : AV → RO) : partR agg off size n cs k = match partV agg off size n cs with | some x => k x | none => none := by
  cases agg with
  | false =>
    show gR _ (nthK cs off k) = _
    rw [gR_eq, nthK_eq]
    show (bif Nat.blt off n then _ else _) = _
    simp only [partV]
    cases Nat.blt off n <;> rfl
  | true =>
    show gR _ (dropK cs off _) = _
    rw [gR_eq, dropK_eq]
    simp only [partV]
    cases Nat.ble (Nat.add off size) n <;> rfl

def fdR (agg : Bool) (off size : Nat) (v : AV) (k : AV → RO) : RO := cAgg (α := Bool → Nat → Nat → (AV → RO) → RO) (fun _ _ _ _ => none) (fun n cs agg off size k => partR agg off size n cs k) v agg off size k
theorem fdR_eq (agg : Bool) (off size : Nat) (v : AV) (k : AV → RO) : fdR agg off size v k = fdP agg off size v k := by
  cases v <;> try rfl
  exact partR_eq _ _ _ _ _ _

def ixAR (agg : Bool) (len size : Nat) (v i : AV) (k : AV → RO) : RO :=
  cNat i fun i => cAgg (α := Bool → Nat → Nat → Nat → (AV → RO) → RO) (fun _ _ _ _ _ => none) (fun n cs agg len size i k => gR (Nat.ble (Nat.succ i) len) (partR agg (Nat.mul i size) size n cs k)) v agg len size i k
theorem ixAR_eq (agg : Bool) (len size : Nat) (v i : AV) (k : AV → RO) : ixAR agg len size v i k = ixA agg len size v i k := by
  unfold ixAR ixA
  rw [cNat_eq]
  cases natP i with
  | none => rfl
  | some i =>
    simp only
    cases v <;> try rfl
    show gR _ (partR _ _ _ _ _ _) = _
    rw [gR_eq, partR_eq]
    rfl

def exR (i : Nat) (v : AV) (k : AV → RO) : RO := cTup (α := Nat → (AV → RO) → RO) (fun _ _ => none) (fun cs i k => nthK cs i k) v i k
theorem exR_eq (i : Nat) (v : AV) (k : AV → RO) : exR i v k = exP i v k := by
  cases v <;> try rfl
  exact nthK_eq _ _ _

def lenR (v : AV) (k : AV → RO) : RO := cSlice (α := AV → (AV → RO) → RO) (fun v k => lenL v k) (fun _ _ n _ k => k (.int .i64 (.ofNat n))) v v k
theorem lenR_eq (v : AV) (k : AV → RO) : lenR v k = lenL v k := by cases v <;> rfl

def mmR (mx : Bool) (l : List AV) (k : AV → RO) : RO := mmP mx l fun v => frV v k
theorem mmR_eq (mx : Bool) (l : List AV) (k : AV → RO) : mmR mx l k = mmP mx l k := by
  unfold mmR; congr 1; funext v; exact frV_eq v k

def eqBR (a : List UInt8) : List UInt8 → Bool :=
  List.rec (motive := fun _ => List UInt8 → Bool) (fun b => List.rec (motive := fun _ => Bool) true (fun _ _ _ => false) b)
    (fun x _ ih b => List.rec (motive := fun _ => Bool) false (fun y ys _ => Bool.rec (motive := fun _ => Bool) false (ih ys) (Nat.beq x.toNat y.toNat)) b) a
theorem eqBR_eq : ∀ a b : List UInt8, eqBR a b = eqB a b
  | [], [] => rfl
  | [], _ :: _ => rfl
  | _ :: _, [] => rfl
  | x :: xs, y :: ys => by
    show Bool.rec (motive := fun _ => Bool) false (eqBR xs ys) (Nat.beq x.toNat y.toNat) = _
    rw [eqBR_eq xs ys]
    simp only [eqB]
    cases Nat.beq x.toNat y.toNat <;> rfl

abbrev EqT := Program → TypeId → Bool → AV → AV → (Bool → RO) → RO
def eqOd : EqT := fun P t c a b k => eqO P t c a b k
def eqOI (j : IntKind) (x : Int) : EqT := fun _ _ _ _ b k => cInt (α := IntKind → Int → (Bool → RO) → RO) (fun _ _ _ => none) (fun j' y j x k => gR (eqKR j j') (k (eqR x y))) b j x k
def eqOS (x : List UInt8) : EqT := fun _ _ _ _ b k => cStr (α := List UInt8 → (Bool → RO) → RO) (fun _ _ => none) (fun y x k => k (eqBR x y)) b x k
def eqOR (P : Program) (t : TypeId) (c : Bool) (a b : AV) (k : Bool → RO) : RO :=
  AV.rec (motive_1 := fun _ => EqT) (motive_2 := fun _ => Unit) eqOd (fun _ => eqOd) eqOI eqOS eqOd (fun _ _ => eqOd) eqOd (fun _ _ _ _ _ _ => eqOd) (fun _ _ => eqOd) (fun _ _ _ _ _ => eqOd) eqOd (fun _ _ _ => eqOd) eqOd (fun _ _ _ => eqOd) (fun _ _ => eqOd) () (fun _ _ _ _ => ()) a P t c a b k
theorem eqOR_eq (P : Program) (t : TypeId) (c : Bool) (a b : AV) (k : Bool → RO) : eqOR P t c a b k = eqO P t c a b k := by
  cases a <;> try rfl
  · cases b <;> try rfl
    show gR _ _ = _
    simp only [gR_eq, eqKR_eq, eqR_eq, eqO]
  · cases b <;> try rfl
    show k (eqBR _ _) = _
    simp only [eqBR_eq, eqO]

def gdR (v : AV) (want : Bool) (x y : RO) : RO :=
  AV.rec (motive_1 := fun _ => Bool → RO → RO → RO) (motive_2 := fun _ => Unit) (fun _ _ _ => none) (fun b w x y => Bool.rec (motive := fun _ => RO) (Bool.rec (motive := fun _ => RO) x y b) (Bool.rec (motive := fun _ => RO) y x b) w) (fun _ _ _ _ _ => none) (fun _ _ _ _ => none)
    (fun _ _ _ => none) (fun _ _ _ _ _ => none) (fun _ _ _ => none) (fun _ _ _ _ _ _ _ _ _ => none) (fun _ _ _ _ _ => none) (fun _ _ _ _ _ _ _ _ => none) (fun _ _ _ => none) (fun _ _ _ _ _ _ => none) (fun _ _ _ => none) (fun _ _ _ _ _ _ => none)
    (fun cs _ _ _ y => List.rec (motive := fun _ => RO) y (fun _ _ _ => none) cs) () (fun _ _ _ _ => ()) v want x y
theorem gdR_eq (v : AV) (want : Bool) (x y : RO) : gdR v want x y = gdK v want x y := by
  cases v <;> try rfl
  · rename_i b; cases b <;> cases want <;> rfl
  · rename_i cs; cases cs <;> rfl

def iteR (v : AV) (x y : RO) : RO := cBool (α := RO → RO → RO) (fun _ _ => none) (fun b x y => Bool.rec (motive := fun _ => RO) y x b) v x y
theorem iteR_eq (v : AV) (x y : RO) : iteR v x y = iteK v x y := by
  cases v <;> try rfl
  rename_i b; cases b <;> rfl

def clR (c : Caller) (f : FuncId) (args : List AV) (H : AH) (k : KV) : RO := Option.rec (motive := fun _ => RO) none (fun p => Prod.rec (motive := fun _ => RO) (fun v H' => k v H') p) (c f args H)
theorem clR_eq (c : Caller) (f : FuncId) (args : List AV) (H : AH) (k : KV) : clR c f args H k = callP c f args H k := by
  unfold clR callP
  cases c f args H <;> rfl

def fillR (n : Nat) (ps : List (Nat × Nat × AV)) : List AV → (List AV → RO) → RO :=
  List.rec (motive := fun _ => List AV → (List AV → RO) → RO) (fun l k => k l) (fun p _ ih l k => Prod.rec (motive := fun _ => RO) (fun off q => Prod.rec (motive := fun _ => RO) (fun size v =>
    gR (Nat.beq (widthR v) size) (gR (notR (Nat.beq size 0)) (gR (Nat.ble (Nat.add off size) n) (splK off size (cellsR v) l fun l => ih l k)))) q) p) ps
theorem fillR_eq (n : Nat) : ∀ (ps : List (Nat × Nat × AV)) (l : List AV) (k : List AV → RO), fillR n ps l k = match fillP n ps l with | some l => k l | none => none
  | [], _, _ => rfl
  | (off, size, v) :: r, l, k => by
    show gR _ (gR _ (gR _ (splK off size (cellsR v) l fun l => fillR n r l k))) = _
    simp only [gR_eq, notR_eq, splK_eq, cellsR_eq, widthR_eq, fillR_eq n r, fillP]
    cases Nat.beq v.width size <;> cases Nat.beq size 0 <;> cases Nat.ble (Nat.add off size) n <;> rfl

def bdR (n : Nat) (zero : List AV) (parts : List (Nat × Nat × AV)) (k : AV → RO) : RO := gR (notR (Nat.beq n 0)) (fillR n parts zero fun l => k (.agg n l))
theorem bdR_eq (n : Nat) (zero : List AV) (parts : List (Nat × Nat × AV)) (k : AV → RO) : bdR n zero parts k = bdP n zero parts k := by
  unfold bdR bdP
  simp only [gR_eq, notR_eq, fillR_eq]
  cases Nat.beq n 0 <;> rfl

end
end Go.Proofs.YtlpfhodieopmhaaGreatDoor.Ae

namespace Go.Proofs.YtlpfhodieopmhaaGreatDoor.Ae

noncomputable section

def qNw (e s : Nat) (x : FX) : MO := fun _ _ _ l H k => evF x l fun v => newR e s v H k
def qPick (c a b : FX) : MO := fun _ _ _ l H k => evF c l fun c => evF a l fun a => evF b l fun b => pickR c a b fun v => k v H
def qBd (n : Nat) (z : List AV) (ps : List (Nat × Nat × FX)) : MO := fun _ _ _ l H k => evF3 ps l fun ps => bdR n z ps fun v => k v H
def qLa (s : Nat) (x : FX) : MO := fun _ _ _ l H k => evF x l fun p => ldAR s p H fun v => k v H
def qLd (x : FX) : MO := fun _ _ _ l H k => evF x l fun p => ld1R p H fun v => k v H
def qSt (s : Nat) (x y : FX) : MO := fun _ _ _ l H k => evF x l fun p => evF y l fun v => stPR s p v H fun H => k (.tup []) H
def qEq (t : Nat) (c n : Bool) (x y : FX) : MO := fun P _ _ l H k => evF x l fun a => evF y l fun b => eqOR P t c a b fun r => k (.bool (Bool.rec r (notR r) n)) H
def qBi (o : BinOp) (x y : FX) : MO := fun _ _ _ l H k => evF x l fun a => evF y l fun b => binR o a b fun v => k v H
def qFa (o : Nat) (x : FX) : MO := fun _ _ _ l H k => evF x l fun p => faR o p fun v => k v H
def qFd (g : Bool) (o s : Nat) (x : FX) : MO := fun _ _ _ l H k => evF x l fun p => fdR g o s p fun v => k v H
def qIs (s : Nat) (x y : FX) : MO := fun _ _ _ l H k => evF x l fun a => evF y l fun i => iaSR s a i fun v => k v H
def qIa (n s : Nat) (x y : FX) : MO := fun _ _ _ l H k => evF x l fun a => evF y l fun i => iaAR n s a i fun v => k v H
def qXa (g : Bool) (n s : Nat) (x y : FX) : MO := fun _ _ _ l H k => evF x l fun a => evF y l fun i => ixAR g n s a i fun v => k v H
def qEx (i : Nat) (x : FX) : MO := fun _ _ _ l H k => evF x l fun a => exR i a fun v => k v H
def qLl (x : FX) : MO := fun _ _ _ l H k => evF x l fun a => lenR a fun v => k v H
def qMm (m : Bool) (xs : List FX) : MO := fun _ _ _ l H k => evFL xs l fun vs => mmR m vs fun v => k v H
def qCl (f : Nat) (xs : List FX) : MO := fun _ _ c l H k => evFL xs l fun vs => clR c f vs H k

def runOq (o : FO) : MO :=
  FO.rec (motive := fun _ => MO) mBad mMv qPick qNw qBd mBs qLa qLd qSt mNc qEq qBi mUn mCi mCt mCs mCb mPu mUp mMi mMf mMs mSs mSl mSa qFa qFd qIs qIa mXs qXa qEx mAp mCp mLs qLl mCc qMm mUs mSd mPr qCl mCv mLn o

theorem runOq_eq (o : FO) : runOq o = runO o := by
  funext P u c l H k
  cases o <;> try rfl
  · show evF _ _ _ = evF _ _ _
    simp only [pickR_eq]
  · show evF _ _ _ = evF _ _ _
    simp only [newR_eq]
  · show evF3 _ _ _ = evF3 _ _ _
    simp only [bdR_eq]
  · show evF _ _ _ = evF _ _ _
    simp only [ldAR_eq]
  · show evF _ _ _ = evF _ _ _
    simp only [ld1R_eq]
  · show evF _ _ _ = evF _ _ _
    simp only [stPR_eq]
  · rename_i t c n x y
    show evF _ _ _ = evF _ _ _
    simp only [eqOR_eq]
    cases n <;> simp only [notR_eq] <;> rfl
  · show evF _ _ _ = evF _ _ _
    simp only [binR_eq]
  · show evF _ _ _ = evF _ _ _
    simp only [faR_eq]
  · show evF _ _ _ = evF _ _ _
    simp only [fdR_eq]
  · show evF _ _ _ = evF _ _ _
    simp only [iaSR_eq]
  · show evF _ _ _ = evF _ _ _
    simp only [iaAR_eq]
  · show evF _ _ _ = evF _ _ _
    simp only [ixAR_eq]
  · show evF _ _ _ = evF _ _ _
    simp only [exR_eq]
  · show evF _ _ _ = evF _ _ _
    simp only [lenR_eq]
  · show evFL _ _ _ = evFL _ _ _
    simp only [mmR_eq]
  · show evFL _ _ _ = evFL _ _ _
    simp only [clR_eq]

/-- What follows, once, behind an operation under a guard. -/
def gdJ (g : AV) (want : Bool) (X : (AV → AH → RO) → RO) (H : AH) (J : AV → AH → RO) : RO :=
  AV.rec (motive_1 := fun _ => Bool → ((AV → AH → RO) → RO) → AH → (AV → AH → RO) → RO) (motive_2 := fun _ => Unit) (fun _ _ _ _ => none)
    (fun b w X H J => Bool.rec (motive := fun _ => RO) (Bool.rec (motive := fun _ => RO) (X J) (J (.tup []) H) b) (Bool.rec (motive := fun _ => RO) (J (.tup []) H) (X J) b) w) (fun _ _ _ _ _ _ => none) (fun _ _ _ _ _ => none)
    (fun _ _ _ _ => none) (fun _ _ _ _ _ _ => none) (fun _ _ _ _ => none) (fun _ _ _ _ _ _ _ _ _ _ => none) (fun _ _ _ _ _ _ => none) (fun _ _ _ _ _ _ _ _ _ => none) (fun _ _ _ _ => none) (fun _ _ _ _ _ _ _ => none) (fun _ _ _ _ => none) (fun _ _ _ _ _ _ _ => none)
    (fun cs _ _ _ H J => List.rec (motive := fun _ => RO) (J (.tup []) H) (fun _ _ _ => none) cs) () (fun _ _ _ _ => ()) g want X H J
theorem gdJ_eq (g : AV) (want : Bool) (X : (AV → AH → RO) → RO) (H : AH) (J : AV → AH → RO) : gdJ g want X H J = gdR g want (X J) (J (.tup []) H) := by cases g <;> rfl

def gdC (g : AV) (want : Bool) (X : RO → RO) (J : RO) : RO :=
  AV.rec (motive_1 := fun _ => Bool → (RO → RO) → RO → RO) (motive_2 := fun _ => Unit) (fun _ _ _ => none)
    (fun b w X J => Bool.rec (motive := fun _ => RO) (Bool.rec (motive := fun _ => RO) (X J) J b) (Bool.rec (motive := fun _ => RO) J (X J) b) w) (fun _ _ _ _ _ => none) (fun _ _ _ _ => none)
    (fun _ _ _ => none) (fun _ _ _ _ _ => none) (fun _ _ _ => none) (fun _ _ _ _ _ _ _ _ _ => none) (fun _ _ _ _ _ => none) (fun _ _ _ _ _ _ _ _ => none) (fun _ _ _ => none) (fun _ _ _ _ _ _ => none) (fun _ _ _ => none) (fun _ _ _ _ _ _ => none)
    (fun cs _ _ _ J => List.rec (motive := fun _ => RO) J (fun _ _ _ => none) cs) () (fun _ _ _ _ => ()) g want X J
theorem gdC_eq (g : AV) (want : Bool) (X : RO → RO) (J : RO) : gdC g want X J = gdR g want (X J) J := by cases g <;> rfl

def jO (_ : Nat) (p : Bool) (x : FO) : MI := fun P u c l H k => runOq x P u c l H fun v H => k (psV p v l) H
def jG (_ : Nat) (p : Bool) (a : Nat) (want : Bool) (x : FO) : MI := fun P u c l H k => nthK l a fun g => gdJ g want (fun J => runOq x P u c l H J) H fun v H => k (psV p v l) H
def jQ (_ : Nat) (v : Nat) (x : FO) : MI := fun P u c l H k => nthK l v fun v => runOq x P u c l H fun v' _ => chK v v' (k l H)
def jH (_ : Nat) (v : Nat) (a : Nat) (want : Bool) (x : FO) : MI := fun P u c l H k => nthK l v fun v => nthK l a fun g => gdC g want (fun J => runOq x P u c l H fun v' _ => chK v v' J) (k l H)

def runIq (i : FI) : MI := FI.rec (motive := fun _ => MI) jO jG jQ jH i

theorem runIq_eq (i : FI) : runIq i = runI i := by
  funext P u c l H k
  cases i with
  | o i p x => show runOq x P u c l H _ = runO x P u c l H _; rw [runOq_eq]
  | g i p a w x =>
    show nthK l a (fun g => gdJ g w _ H _) = nthK l a fun g => gdK g w (runO x P u c l H _) _
    simp only [gdJ_eq, runOq_eq, gdR_eq]
  | q i v x =>
    show nthK l v (fun v => runOq x P u c l H _) = nthK l v fun v => runO x P u c l H _
    simp only [runOq_eq]
  | h i v a w x =>
    show nthK l v (fun v => nthK l a fun g => gdC g w _ _) = nthK l v fun v => nthK l a fun g => gdK g w (runO x P u c l H _) _
    simp only [gdC_eq, runOq_eq, gdR_eq]

def runRq (is : List FI) : MI :=
  List.rec (motive := fun _ => MI) (fun _ _ _ l H k => k l H) (fun i _ ih P u c l H k => runIq i P u c l H fun l H => ih P u c l H k) is

theorem runRq_eq : ∀ (is : List FI), runRq is = runR is
  | [] => rfl
  | i :: is => by
    funext P u c l H k
    show runIq i P u c l H (fun l H => runRq is P u c l H k) = runI i P u c l H (fun l H => runR is P u c l H k)
    rw [runIq_eq, runRq_eq is]

def dRg (is : List FI) (sel : List Nat) : MC := fun P u c _ l _ K H => runRq is P u c l H fun l H => selV sel l fun vs => K vs H
def dCd (x : FX) (_ _ : FC) (a b : MC) : MC := fun P u c n l Kx K H => evF x l fun v => iteR v (a P u c n l Kx K H) (b P u c n l Kx K H)
def dCj (x : FX) (_ : List Nat) (_ _ : FC) (a b : MC) : MC := dCd x .sk .sk a b

def runCq (x : FC) : MC := FC.rec (motive := fun _ => MC) cSk cRt cXt dRg cSq dCd dCj cBl cLp cSe cSr x

theorem runCq_eq (x : FC) : runCq x = runC x := by
  induction x with
  | sk => rfl
  | rt rs => rfl
  | xt d sel => rfl
  | rg l sel =>
    funext P u c n vs Kx K H
    show runRq l P u c vs H _ = runR l P u c vs H _
    rw [runRq_eq]
  | sq a b ha hb =>
    show cSq a b (runCq a) (runCq b) = cSq a b (runC a) (runC b)
    rw [ha, hb]
  | cd x a b ha hb =>
    show dCd x a b (runCq a) (runCq b) = cCd x a b (runC a) (runC b)
    rw [ha, hb]
    funext P u c n vs Kx K H
    simp only [dCd, cCd, iteR_eq]
  | cj x live a b ha hb =>
    show dCj x live a b (runCq a) (runCq b) = cCj x live a b (runC a) (runC b)
    rw [ha, hb]
    funext P u c n vs Kx K H
    simp only [dCj, dCd, cCj, cCd, iteR_eq]
  | bl live a ha =>
    show cBl live a (runCq a) = cBl live a (runC a)
    rw [ha]
  | lp live sel a ha =>
    show cLp live sel a (runCq a) = cLp live sel a (runC a)
    rw [ha]
  | se sel => rfl
  | sr f => rfl

/-- Calls; beyond the table: some others. -/
def callQ (P : Program) (u : Nat) (ext : Caller) (tb : Tm (Nat × FC)) (fuel : Nat) (n : Nat) : Caller :=
  Nat.rec (motive := fun _ => Caller) (fun _ _ _ => none) (fun _ ih f args H => Option.rec (motive := fun _ => RO) (ext f args H)
    (fun p => Prod.rec (motive := fun _ => RO) (fun n c => gR (lenIs n args) (runCq c P u ih fuel args [] (fun _ _ => none) H)) p) (tb.get f)) n

end
end Go.Proofs.YtlpfhodieopmhaaGreatDoor.Ae

namespace Go.Proofs.YtlpfhodieopmhaaGreatDoor.Ae

/-- How many values are there behind code that so many stand ahead of; none: it does not fall through. -/
def lenOut : FC → Nat → Option Nat
  | .sk, n => some n
  | .rt _, _ => none
  | .xt _ _, _ => none
  | .rg _ sel, _ => some sel.length
  | .sq a b, n => match lenOut a n with
    | none => none
    | some m => lenOut b m
  | .cd _ a b, n => match lenOut a n with
    | none => lenOut b n
    | some m => match lenOut b n with
      | none => some m
      | some k => if k = m then some m else none
  | .cj _ live _ _, _ => some live.length
  | .bl live _, _ => some live.length
  | .lp _ _ _, _ => none
  | .se sel, _ => some sel.length
  | .sr _, _ => none

def isLen (o : Option Nat) (n : Nat) : Bool := match o with
  | none => true
  | some m => Nat.beq m n

/-- The numbers of values fit at each join; nothing is printed yet. -/
def xok : FC → Nat → List Nat → Bool
  | .sk, _, _ => true
  | .rt _, _, _ => true
  | .xt d sel, _, bl => match nth bl d with
    | some m => Nat.beq m sel.length
    | none => false
  | .rg _ _, _, _ => true
  | .sq a b, n, bl => xok a n bl && (match lenOut a n with
    | none => true
    | some m => xok b m bl)
  | .cd _ a b, n, bl => xok a n bl && xok b n bl && (match lenOut a n with
    | none => true
    | some m => isLen (lenOut b n) m)
  | .cj _ live a b, n, bl => xok a n bl && xok b n bl && isLen (lenOut a n) live.length && isLen (lenOut b n) live.length
  | .bl live a, n, bl => xok a n (live.length :: bl) && isLen (lenOut a n) live.length
  | .lp live sel a, _, bl => Nat.beq sel.length live.length && xok a live.length bl && isLen (lenOut a live.length) live.length
  | .se _, _, _ => true
  | .sr _, _, _ => false

def KxEq (bl : List Nat) (Kx Kx' : List KL) : Prop := ∀ d m, nth bl d = some m → ∀ vs H, vs.length = m → lkK Kx' d vs H = lkK Kx d vs H

def KEq (o : Option Nat) (K K' : KL) : Prop := ∀ m, o = some m → ∀ l H, l.length = m → K' l H = K l H

theorem selV_len : ∀ {sel : List Nat} {l : List AV} {k1 k2 : List AV → RO}, (∀ ws, ws.length = sel.length → k1 ws = k2 ws) → selV sel l k1 = selV sel l k2
  | [], l, k1, k2, h => h [] rfl
  | i :: sel, l, k1, k2, h => by
    show nthK l i (fun v => selV sel l fun vs => k1 (v :: vs)) = nthK l i fun v => selV sel l fun vs => k2 (v :: vs)
    congr 1
    funext v
    exact selV_len fun ws hw => h (v :: ws) (by simp [hw])

theorem KxEq.push {bl : List Nat} {Kx Kx' : List KL} (h : KxEq bl Kx Kx') {m : Nat} {K K' : KL} (hk : ∀ l H, l.length = m → K' l H = K l H) : KxEq (m :: bl) (K :: Kx) (K' :: Kx') := by
  intro d m' hd vs H hv
  cases d with
  | zero => cases hd; exact hk vs H hv
  | succ d => exact h d m' hd vs H hv

theorem isLen_eq {o : Option Nat} {n m : Nat} (h : isLen o n = true) (ho : o = some m) : m = n := by
  subst ho; exact Nat.eq_of_beq_eq_true h

theorem loopN_congr {n m : Nat} {b b' : (List AV → AH → RO) → List AV → AH → RO}
    (h : ∀ r r', (∀ ws H, ws.length = m → r' ws H = r ws H) → ∀ ws H, ws.length = m → b' r' ws H = b r ws H) : ∀ ws H, ws.length = m → loopN n b' ws H = loopN n b ws H := by
  induction n with
  | zero => intro ws H hw; rfl
  | succ n ih => intro ws H hw; exact h _ _ ih ws H hw

section
variable {P : Program} {u : Nat}

def SameRun (P : Program) (u : Nat) (c c' : FC) (n : Nat) (bl : List Nat) (o : Option Nat) : Prop :=
  ∀ (cl : Caller) (k : Nat) (l : List AV) (Kx Kx' : List KL) (K K' : KL) (H : AH), l.length = n → KxEq bl Kx Kx' → KEq o K K' → runCq c' P u cl k l Kx' K' H = runCq c P u cl k l Kx K H

theorem same_refl : ∀ {c : FC} {n : Nat} {bl : List Nat}, xok c n bl = true → SameRun P u c c n bl (lenOut c n) := by
  intro c
  induction c with
  | sk => intro n bl h cl k l Kx Kx' K K' H hl hx hk; exact hk n rfl l H hl
  | rt rs => intro n bl h cl k l Kx Kx' K K' H hl hx hk; rfl
  | xt d sel =>
    intro n bl h cl k l Kx Kx' K K' H hl hx hk
    simp only [xok] at h
    split at h
    · rename_i m hm
      show selV sel l _ = selV sel l _
      exact selV_len fun ws hw => hx d m hm ws H (by rw [hw, Nat.eq_of_beq_eq_true h])
    · cases h
  | rg is sel =>
    intro n bl h cl k l Kx Kx' K K' H hl hx hk
    show runRq is P u cl l H _ = runRq is P u cl l H _
    congr 1
    funext l H
    exact selV_len fun ws hw => hk sel.length rfl ws H hw
  | sq a b iha ihb =>
    intro n bl h cl k l Kx Kx' K K' H hl hx hk
    simp only [xok, Bool.and_eq_true] at h
    simp only [lenOut] at hk
    show runCq a P u cl k l Kx' (fun l H => runCq b P u cl k l Kx' K' H) H = runCq a P u cl k l Kx (fun l H => runCq b P u cl k l Kx K H) H
    refine iha h.1 cl k l Kx Kx' _ _ H hl hx fun m hm l H hlm => ?_
    have h2 := h.2
    simp only [hm] at h2 hk
    exact ihb h2 cl k l Kx Kx' K K' H hlm hx hk
  | cd x a b iha ihb =>
    intro n bl h cl k l Kx Kx' K K' H hl hx hk
    simp only [xok, Bool.and_eq_true] at h
    have hka : KEq (lenOut a n) K K' := fun m hm l H hlm => by
      refine hk m ?_ l H hlm
      have h2 := h.2
      simp only [hm] at h2
      simp only [lenOut, hm]
      cases hb : lenOut b n with
      | none => rfl
      | some m' => rw [isLen_eq h2 hb]; simp
    have hkb : KEq (lenOut b n) K K' := fun m hm l H hlm => by
      refine hk m ?_ l H hlm
      have h2 := h.2
      cases ha : lenOut a n with
      | none => simp only [lenOut, ha, hm]
      | some m' =>
        simp only [ha] at h2
        simp only [lenOut, ha, hm, isLen_eq h2 hm, if_true]
    show evF x l (fun v => iteR v (runCq a P u cl k l Kx' K' H) (runCq b P u cl k l Kx' K' H)) = evF x l fun v => iteR v (runCq a P u cl k l Kx K H) (runCq b P u cl k l Kx K H)
    rw [iha h.1.1 cl k l Kx Kx' K K' H hl hx hka, ihb h.1.2 cl k l Kx Kx' K K' H hl hx hkb]
  | cj x live a b iha ihb =>
    intro n bl h cl k l Kx Kx' K K' H hl hx hk
    simp only [xok, Bool.and_eq_true] at h
    show evF x l (fun v => iteR v (runCq a P u cl k l Kx' K' H) (runCq b P u cl k l Kx' K' H)) = evF x l fun v => iteR v (runCq a P u cl k l Kx K H) (runCq b P u cl k l Kx K H)
    rw [iha h.1.1.1 cl k l Kx Kx' K K' H hl hx fun m hm l H hlm => hk live.length rfl l H (by rw [hlm, isLen_eq h.1.2 hm]),
      ihb h.1.1.2 cl k l Kx Kx' K K' H hl hx fun m hm l H hlm => hk live.length rfl l H (by rw [hlm, isLen_eq h.2 hm])]
  | bl live a iha =>
    intro n bl h cl k l Kx Kx' K K' H hl hx hk
    simp only [xok, Bool.and_eq_true] at h
    show runCq a P u cl k l (K' :: Kx') K' H = runCq a P u cl k l (K :: Kx) K H
    exact iha h.1 cl k l _ _ K K' H hl (hx.push fun l H hll => hk live.length rfl l H hll) fun m hm l H hlm => hk live.length rfl l H (by rw [hlm, isLen_eq h.2 hm])
  | lp live sel a iha =>
    intro n bl h cl k l Kx Kx' K K' H hl hx hk
    simp only [xok, Bool.and_eq_true] at h
    show selV sel l (fun vs => loopN k (fun rec vs H => runCq a P u cl k vs Kx' rec H) vs H) = selV sel l fun vs => loopN k (fun rec vs H => runCq a P u cl k vs Kx rec H) vs H
    refine selV_len fun ws hw => loopN_congr (m := live.length) (fun r r' hr ws H hw => ?_) ws H (by rw [hw, Nat.eq_of_beq_eq_true h.1.1])
    exact iha h.1.2 cl k ws Kx Kx' r r' H hw hx fun m hm l H hlm => hr l H (by rw [hlm, isLen_eq h.2 hm])
  | se sel =>
    intro n bl h cl k l Kx Kx' K K' H hl hx hk
    exact selV_len fun ws hw => hk sel.length rfl ws H hw
  | sr f => intro n bl h; cases h

/-- Code, and the same code with parts of it printed. -/
inductive Sh (P : Program) (u : Nat) : FC → FC → Nat → List Nat → Option Nat → Prop
  | rf {c : FC} {n : Nat} {bl : List Nat} {o : Option Nat} : lenOut c n = o → xok c n bl = true → Sh P u c c n bl o
  | sr {c : FC} {f : Caller → Nat → List AV → List KL → KL → AH → RO} {n : Nat} {bl : List Nat} {o : Option Nat} : lenOut c n = o → xok c n bl = true →
      (∀ cl k l Kx K H, l.length = n → f cl k l Kx K H = runCq c P u cl k l Kx K H) → Sh P u c (.sr f) n bl o
  | sq {a a' b b' : FC} {n m : Nat} {bl : List Nat} {o : Option Nat} : Sh P u a a' n bl (some m) → Sh P u b b' m bl o → Sh P u (.sq a b) (.sq a' b') n bl o
  | cd1 {x : FX} {a a' b b' : FC} {n : Nat} {bl : List Nat} {o : Option Nat} : Sh P u a a' n bl none → Sh P u b b' n bl o → Sh P u (.cd x a b) (.cd x a' b') n bl o
  | cd2 {x : FX} {a a' b b' : FC} {n : Nat} {bl : List Nat} {o : Option Nat} : Sh P u a a' n bl o → Sh P u b b' n bl none → Sh P u (.cd x a b) (.cd x a' b') n bl o
  | cj {x : FX} {live : List Nat} {a a' b b' : FC} {n : Nat} {bl : List Nat} {oa ob : Option Nat} : Sh P u a a' n bl oa → Sh P u b b' n bl ob → isLen oa live.length = true → isLen ob live.length = true →
      Sh P u (.cj x live a b) (.cj x live a' b') n bl (some live.length)
  | bl {live : List Nat} {a a' : FC} {n : Nat} {bl : List Nat} {oa : Option Nat} : Sh P u a a' n (live.length :: bl) oa → isLen oa live.length = true → Sh P u (.bl live a) (.bl live a') n bl (some live.length)
  | lp {live sel : List Nat} {a a' : FC} {n : Nat} {bl : List Nat} {oa : Option Nat} : Nat.beq sel.length live.length = true → Sh P u a a' live.length bl oa → isLen oa live.length = true → Sh P u (.lp live sel a) (.lp live sel a') n bl none

theorem Sh.same {c c' : FC} {n : Nat} {bl : List Nat} {o : Option Nat} (h : Sh P u c c' n bl o) : SameRun P u c c' n bl o := by
  induction h with
  | rf h1 h2 => subst h1; exact same_refl h2
  | sr h1 h2 h3 =>
    subst h1
    intro cl k l Kx Kx' K K' H hl hx hk
    show _ = _
    rw [← same_refl h2 cl k l Kx Kx' K K' H hl hx hk]
    exact h3 cl k l Kx' K' H hl
  | sq _ _ iha ihb =>
    intro cl k l Kx Kx' K K' H hl hx hk
    refine iha cl k l Kx Kx' _ _ H hl hx fun m hm l H hlm => ?_
    cases hm
    exact ihb cl k l Kx Kx' K K' H hlm hx hk
  | cd1 _ _ iha ihb =>
    intro cl k l Kx Kx' K K' H hl hx hk
    show evF _ l (fun v => iteR v (runCq _ P u cl k l Kx' K' H) (runCq _ P u cl k l Kx' K' H)) = evF _ l fun v => iteR v (runCq _ P u cl k l Kx K H) (runCq _ P u cl k l Kx K H)
    rw [iha cl k l Kx Kx' K K' H hl hx (fun m hm => by cases hm), ihb cl k l Kx Kx' K K' H hl hx hk]
  | cd2 _ _ iha ihb =>
    intro cl k l Kx Kx' K K' H hl hx hk
    show evF _ l (fun v => iteR v (runCq _ P u cl k l Kx' K' H) (runCq _ P u cl k l Kx' K' H)) = evF _ l fun v => iteR v (runCq _ P u cl k l Kx K H) (runCq _ P u cl k l Kx K H)
    rw [iha cl k l Kx Kx' K K' H hl hx hk, ihb cl k l Kx Kx' K K' H hl hx (fun m hm => by cases hm)]
  | cj _ _ h1 h2 iha ihb =>
    intro cl k l Kx Kx' K K' H hl hx hk
    show evF _ l (fun v => iteR v (runCq _ P u cl k l Kx' K' H) (runCq _ P u cl k l Kx' K' H)) = evF _ l fun v => iteR v (runCq _ P u cl k l Kx K H) (runCq _ P u cl k l Kx K H)
    rw [iha cl k l Kx Kx' K K' H hl hx (fun m hm l H hlm => hk _ rfl l H (by rw [hlm, isLen_eq h1 hm])), ihb cl k l Kx Kx' K K' H hl hx (fun m hm l H hlm => hk _ rfl l H (by rw [hlm, isLen_eq h2 hm]))]
  | bl _ h1 iha =>
    intro cl k l Kx Kx' K K' H hl hx hk
    show runCq _ P u cl k l (K' :: Kx') K' H = runCq _ P u cl k l (K :: Kx) K H
    exact iha cl k l _ _ K K' H hl (hx.push fun l H hll => hk _ rfl l H hll) fun m hm l H hlm => hk _ rfl l H (by rw [hlm, isLen_eq h1 hm])
  | lp h1 _ h2 iha =>
    intro cl k l Kx Kx' K K' H hl hx hk
    show selV _ l (fun vs => loopN k (fun rec vs H => runCq _ P u cl k vs Kx' rec H) vs H) = selV _ l fun vs => loopN k (fun rec vs H => runCq _ P u cl k vs Kx rec H) vs H
    refine selV_len fun ws hw => loopN_congr (fun r r' hr ws H hw => ?_) ws H (by rw [hw, Nat.eq_of_beq_eq_true h1])
    exact iha cl k ws Kx Kx' r r' H hw hx fun m hm l H hlm => hr l H (by rw [hlm, isLen_eq h2 hm])
end

end Go.Proofs.YtlpfhodieopmhaaGreatDoor.Ae

namespace Go.Proofs.YtlpfhodieopmhaaGreatDoor.Ae

noncomputable def un1 (l : List AV) (f : AV → List AV → RO) : RO := List.rec (motive := fun _ => RO) none (fun a t _ => f a t) l

theorem len_s {l : List AV} {n : Nat} (h : l.length = n + 1) : ∃ a t, l = a :: t ∧ t.length = n := by
  cases l with
  | nil => cases h
  | cons a t => exact ⟨a, t, rfl, by simpa using h⟩

theorem l0 (Q : List AV → Prop) (h : Q []) (l : List AV) (e : l.length = 0) : Q l := by
  cases l with
  | nil => exact h
  | cons a t => cases e

theorem l1 (Q : List AV → Prop) (h : ∀ a0 : AV, Q [a0]) (l : List AV) (e : l.length = 1) : Q l := by
  obtain ⟨a0, t, rfl, e1⟩ := len_s e
  exact l0 (fun t => Q (a0 :: t)) (h a0) t e1

theorem l2 (Q : List AV → Prop) (h : ∀ a0 a1 : AV, Q [a0, a1]) (l : List AV) (e : l.length = 2) : Q l := by
  obtain ⟨a0, t, rfl, e1⟩ := len_s e
  exact l1 (fun t => Q (a0 :: t)) (fun a1 => h a0 a1) t e1

theorem l3 (Q : List AV → Prop) (h : ∀ a0 a1 a2 : AV, Q [a0, a1, a2]) (l : List AV) (e : l.length = 3) : Q l := by
  obtain ⟨a0, t, rfl, e1⟩ := len_s e
  exact l2 (fun t => Q (a0 :: t)) (fun a1 a2 => h a0 a1 a2) t e1

theorem l4 (Q : List AV → Prop) (h : ∀ a0 a1 a2 a3 : AV, Q [a0, a1, a2, a3]) (l : List AV) (e : l.length = 4) : Q l := by
  obtain ⟨a0, t, rfl, e1⟩ := len_s e
  exact l3 (fun t => Q (a0 :: t)) (fun a1 a2 a3 => h a0 a1 a2 a3) t e1

theorem l5 (Q : List AV → Prop) (h : ∀ a0 a1 a2 a3 a4 : AV, Q [a0, a1, a2, a3, a4]) (l : List AV) (e : l.length = 5) : Q l := by
  obtain ⟨a0, t, rfl, e1⟩ := len_s e
  exact l4 (fun t => Q (a0 :: t)) (fun a1 a2 a3 a4 => h a0 a1 a2 a3 a4) t e1

theorem l6 (Q : List AV → Prop) (h : ∀ a0 a1 a2 a3 a4 a5 : AV, Q [a0, a1, a2, a3, a4, a5]) (l : List AV) (e : l.length = 6) : Q l := by
  obtain ⟨a0, t, rfl, e1⟩ := len_s e
  exact l5 (fun t => Q (a0 :: t)) (fun a1 a2 a3 a4 a5 => h a0 a1 a2 a3 a4 a5) t e1

theorem l7 (Q : List AV → Prop) (h : ∀ a0 a1 a2 a3 a4 a5 a6 : AV, Q [a0, a1, a2, a3, a4, a5, a6]) (l : List AV) (e : l.length = 7) : Q l := by
  obtain ⟨a0, t, rfl, e1⟩ := len_s e
  exact l6 (fun t => Q (a0 :: t)) (fun a1 a2 a3 a4 a5 a6 => h a0 a1 a2 a3 a4 a5 a6) t e1

theorem l8 (Q : List AV → Prop) (h : ∀ a0 a1 a2 a3 a4 a5 a6 a7 : AV, Q [a0, a1, a2, a3, a4, a5, a6, a7]) (l : List AV) (e : l.length = 8) : Q l := by
  obtain ⟨a0, t, rfl, e1⟩ := len_s e
  exact l7 (fun t => Q (a0 :: t)) (fun a1 a2 a3 a4 a5 a6 a7 => h a0 a1 a2 a3 a4 a5 a6 a7) t e1

theorem l9 (Q : List AV → Prop) (h : ∀ a0 a1 a2 a3 a4 a5 a6 a7 a8 : AV, Q [a0, a1, a2, a3, a4, a5, a6, a7, a8]) (l : List AV) (e : l.length = 9) : Q l := by
  obtain ⟨a0, t, rfl, e1⟩ := len_s e
  exact l8 (fun t => Q (a0 :: t)) (fun a1 a2 a3 a4 a5 a6 a7 a8 => h a0 a1 a2 a3 a4 a5 a6 a7 a8) t e1

theorem l10 (Q : List AV → Prop) (h : ∀ a0 a1 a2 a3 a4 a5 a6 a7 a8 a9 : AV, Q [a0, a1, a2, a3, a4, a5, a6, a7, a8, a9]) (l : List AV) (e : l.length = 10) : Q l := by
  obtain ⟨a0, t, rfl, e1⟩ := len_s e
  exact l9 (fun t => Q (a0 :: t)) (fun a1 a2 a3 a4 a5 a6 a7 a8 a9 => h a0 a1 a2 a3 a4 a5 a6 a7 a8 a9) t e1

theorem l11 (Q : List AV → Prop) (h : ∀ a0 a1 a2 a3 a4 a5 a6 a7 a8 a9 a10 : AV, Q [a0, a1, a2, a3, a4, a5, a6, a7, a8, a9, a10]) (l : List AV) (e : l.length = 11) : Q l := by
  obtain ⟨a0, t, rfl, e1⟩ := len_s e
  exact l10 (fun t => Q (a0 :: t)) (fun a1 a2 a3 a4 a5 a6 a7 a8 a9 a10 => h a0 a1 a2 a3 a4 a5 a6 a7 a8 a9 a10) t e1

theorem l12 (Q : List AV → Prop) (h : ∀ a0 a1 a2 a3 a4 a5 a6 a7 a8 a9 a10 a11 : AV, Q [a0, a1, a2, a3, a4, a5, a6, a7, a8, a9, a10, a11]) (l : List AV) (e : l.length = 12) : Q l := by
  obtain ⟨a0, t, rfl, e1⟩ := len_s e
  exact l11 (fun t => Q (a0 :: t)) (fun a1 a2 a3 a4 a5 a6 a7 a8 a9 a10 a11 => h a0 a1 a2 a3 a4 a5 a6 a7 a8 a9 a10 a11) t e1

theorem l13 (Q : List AV → Prop) (h : ∀ a0 a1 a2 a3 a4 a5 a6 a7 a8 a9 a10 a11 a12 : AV, Q [a0, a1, a2, a3, a4, a5, a6, a7, a8, a9, a10, a11, a12]) (l : List AV) (e : l.length = 13) : Q l := by
  obtain ⟨a0, t, rfl, e1⟩ := len_s e
  exact l12 (fun t => Q (a0 :: t)) (fun a1 a2 a3 a4 a5 a6 a7 a8 a9 a10 a11 a12 => h a0 a1 a2 a3 a4 a5 a6 a7 a8 a9 a10 a11 a12) t e1

theorem l14 (Q : List AV → Prop) (h : ∀ a0 a1 a2 a3 a4 a5 a6 a7 a8 a9 a10 a11 a12 a13 : AV, Q [a0, a1, a2, a3, a4, a5, a6, a7, a8, a9, a10, a11, a12, a13]) (l : List AV) (e : l.length = 14) : Q l := by
  obtain ⟨a0, t, rfl, e1⟩ := len_s e
  exact l13 (fun t => Q (a0 :: t)) (fun a1 a2 a3 a4 a5 a6 a7 a8 a9 a10 a11 a12 a13 => h a0 a1 a2 a3 a4 a5 a6 a7 a8 a9 a10 a11 a12 a13) t e1

theorem l15 (Q : List AV → Prop) (h : ∀ a0 a1 a2 a3 a4 a5 a6 a7 a8 a9 a10 a11 a12 a13 a14 : AV, Q [a0, a1, a2, a3, a4, a5, a6, a7, a8, a9, a10, a11, a12, a13, a14]) (l : List AV) (e : l.length = 15) : Q l := by
  obtain ⟨a0, t, rfl, e1⟩ := len_s e
  exact l14 (fun t => Q (a0 :: t)) (fun a1 a2 a3 a4 a5 a6 a7 a8 a9 a10 a11 a12 a13 a14 => h a0 a1 a2 a3 a4 a5 a6 a7 a8 a9 a10 a11 a12 a13 a14) t e1

theorem l16 (Q : List AV → Prop) (h : ∀ a0 a1 a2 a3 a4 a5 a6 a7 a8 a9 a10 a11 a12 a13 a14 a15 : AV, Q [a0, a1, a2, a3, a4, a5, a6, a7, a8, a9, a10, a11, a12, a13, a14, a15]) (l : List AV) (e : l.length = 16) : Q l := by
  obtain ⟨a0, t, rfl, e1⟩ := len_s e
  exact l15 (fun t => Q (a0 :: t)) (fun a1 a2 a3 a4 a5 a6 a7 a8 a9 a10 a11 a12 a13 a14 a15 => h a0 a1 a2 a3 a4 a5 a6 a7 a8 a9 a10 a11 a12 a13 a14 a15) t e1

theorem l17 (Q : List AV → Prop) (h : ∀ a0 a1 a2 a3 a4 a5 a6 a7 a8 a9 a10 a11 a12 a13 a14 a15 a16 : AV, Q [a0, a1, a2, a3, a4, a5, a6, a7, a8, a9, a10, a11, a12, a13, a14, a15, a16]) (l : List AV) (e : l.length = 17) : Q l := by
  obtain ⟨a0, t, rfl, e1⟩ := len_s e
  exact l16 (fun t => Q (a0 :: t)) (fun a1 a2 a3 a4 a5 a6 a7 a8 a9 a10 a11 a12 a13 a14 a15 a16 => h a0 a1 a2 a3 a4 a5 a6 a7 a8 a9 a10 a11 a12 a13 a14 a15 a16) t e1

theorem l18 (Q : List AV → Prop) (h : ∀ a0 a1 a2 a3 a4 a5 a6 a7 a8 a9 a10 a11 a12 a13 a14 a15 a16 a17 : AV, Q [a0, a1, a2, a3, a4, a5, a6, a7, a8, a9, a10, a11, a12, a13, a14, a15, a16, a17]) (l : List AV) (e : l.length = 18) : Q l := by
  obtain ⟨a0, t, rfl, e1⟩ := len_s e
  exact l17 (fun t => Q (a0 :: t)) (fun a1 a2 a3 a4 a5 a6 a7 a8 a9 a10 a11 a12 a13 a14 a15 a16 a17 => h a0 a1 a2 a3 a4 a5 a6 a7 a8 a9 a10 a11 a12 a13 a14 a15 a16 a17) t e1

theorem l19 (Q : List AV → Prop) (h : ∀ a0 a1 a2 a3 a4 a5 a6 a7 a8 a9 a10 a11 a12 a13 a14 a15 a16 a17 a18 : AV, Q [a0, a1, a2, a3, a4, a5, a6, a7, a8, a9, a10, a11, a12, a13, a14, a15, a16, a17, a18]) (l : List AV) (e : l.length = 19) : Q l := by
  obtain ⟨a0, t, rfl, e1⟩ := len_s e
  exact l18 (fun t => Q (a0 :: t)) (fun a1 a2 a3 a4 a5 a6 a7 a8 a9 a10 a11 a12 a13 a14 a15 a16 a17 a18 => h a0 a1 a2 a3 a4 a5 a6 a7 a8 a9 a10 a11 a12 a13 a14 a15 a16 a17 a18) t e1

theorem l20 (Q : List AV → Prop) (h : ∀ a0 a1 a2 a3 a4 a5 a6 a7 a8 a9 a10 a11 a12 a13 a14 a15 a16 a17 a18 a19 : AV, Q [a0, a1, a2, a3, a4, a5, a6, a7, a8, a9, a10, a11, a12, a13, a14, a15, a16, a17, a18, a19]) (l : List AV) (e : l.length = 20) : Q l := by
  obtain ⟨a0, t, rfl, e1⟩ := len_s e
  exact l19 (fun t => Q (a0 :: t)) (fun a1 a2 a3 a4 a5 a6 a7 a8 a9 a10 a11 a12 a13 a14 a15 a16 a17 a18 a19 => h a0 a1 a2 a3 a4 a5 a6 a7 a8 a9 a10 a11 a12 a13 a14 a15 a16 a17 a18 a19) t e1

theorem l21 (Q : List AV → Prop) (h : ∀ a0 a1 a2 a3 a4 a5 a6 a7 a8 a9 a10 a11 a12 a13 a14 a15 a16 a17 a18 a19 a20 : AV, Q [a0, a1, a2, a3, a4, a5, a6, a7, a8, a9, a10, a11, a12, a13, a14, a15, a16, a17, a18, a19, a20]) (l : List AV) (e : l.length = 21) : Q l := by
  obtain ⟨a0, t, rfl, e1⟩ := len_s e
  exact l20 (fun t => Q (a0 :: t)) (fun a1 a2 a3 a4 a5 a6 a7 a8 a9 a10 a11 a12 a13 a14 a15 a16 a17 a18 a19 a20 => h a0 a1 a2 a3 a4 a5 a6 a7 a8 a9 a10 a11 a12 a13 a14 a15 a16 a17 a18 a19 a20) t e1

theorem l22 (Q : List AV → Prop) (h : ∀ a0 a1 a2 a3 a4 a5 a6 a7 a8 a9 a10 a11 a12 a13 a14 a15 a16 a17 a18 a19 a20 a21 : AV, Q [a0, a1, a2, a3, a4, a5, a6, a7, a8, a9, a10, a11, a12, a13, a14, a15, a16, a17, a18, a19, a20, a21]) (l : List AV) (e : l.length = 22) : Q l := by
  obtain ⟨a0, t, rfl, e1⟩ := len_s e
  exact l21 (fun t => Q (a0 :: t)) (fun a1 a2 a3 a4 a5 a6 a7 a8 a9 a10 a11 a12 a13 a14 a15 a16 a17 a18 a19 a20 a21 => h a0 a1 a2 a3 a4 a5 a6 a7 a8 a9 a10 a11 a12 a13 a14 a15 a16 a17 a18 a19 a20 a21) t e1

theorem l23 (Q : List AV → Prop) (h : ∀ a0 a1 a2 a3 a4 a5 a6 a7 a8 a9 a10 a11 a12 a13 a14 a15 a16 a17 a18 a19 a20 a21 a22 : AV, Q [a0, a1, a2, a3, a4, a5, a6, a7, a8, a9, a10, a11, a12, a13, a14, a15, a16, a17, a18, a19, a20, a21, a22]) (l : List AV) (e : l.length = 23) : Q l := by
  obtain ⟨a0, t, rfl, e1⟩ := len_s e
  exact l22 (fun t => Q (a0 :: t)) (fun a1 a2 a3 a4 a5 a6 a7 a8 a9 a10 a11 a12 a13 a14 a15 a16 a17 a18 a19 a20 a21 a22 => h a0 a1 a2 a3 a4 a5 a6 a7 a8 a9 a10 a11 a12 a13 a14 a15 a16 a17 a18 a19 a20 a21 a22) t e1

theorem l24 (Q : List AV → Prop) (h : ∀ a0 a1 a2 a3 a4 a5 a6 a7 a8 a9 a10 a11 a12 a13 a14 a15 a16 a17 a18 a19 a20 a21 a22 a23 : AV, Q [a0, a1, a2, a3, a4, a5, a6, a7, a8, a9, a10, a11, a12, a13, a14, a15, a16, a17, a18, a19, a20, a21, a22, a23]) (l : List AV) (e : l.length = 24) : Q l := by
  obtain ⟨a0, t, rfl, e1⟩ := len_s e
  exact l23 (fun t => Q (a0 :: t)) (fun a1 a2 a3 a4 a5 a6 a7 a8 a9 a10 a11 a12 a13 a14 a15 a16 a17 a18 a19 a20 a21 a22 a23 => h a0 a1 a2 a3 a4 a5 a6 a7 a8 a9 a10 a11 a12 a13 a14 a15 a16 a17 a18 a19 a20 a21 a22 a23) t e1

theorem l25 (Q : List AV → Prop) (h : ∀ a0 a1 a2 a3 a4 a5 a6 a7 a8 a9 a10 a11 a12 a13 a14 a15 a16 a17 a18 a19 a20 a21 a22 a23 a24 : AV, Q [a0, a1, a2, a3, a4, a5, a6, a7, a8, a9, a10, a11, a12, a13, a14, a15, a16, a17, a18, a19, a20, a21, a22, a23, a24]) (l : List AV) (e : l.length = 25) : Q l := by
  obtain ⟨a0, t, rfl, e1⟩ := len_s e
  exact l24 (fun t => Q (a0 :: t)) (fun a1 a2 a3 a4 a5 a6 a7 a8 a9 a10 a11 a12 a13 a14 a15 a16 a17 a18 a19 a20 a21 a22 a23 a24 => h a0 a1 a2 a3 a4 a5 a6 a7 a8 a9 a10 a11 a12 a13 a14 a15 a16 a17 a18 a19 a20 a21 a22 a23 a24) t e1

theorem l26 (Q : List AV → Prop) (h : ∀ a0 a1 a2 a3 a4 a5 a6 a7 a8 a9 a10 a11 a12 a13 a14 a15 a16 a17 a18 a19 a20 a21 a22 a23 a24 a25 : AV, Q [a0, a1, a2, a3, a4, a5, a6, a7, a8, a9, a10, a11, a12, a13, a14, a15, a16, a17, a18, a19, a20, a21, a22, a23, a24, a25]) (l : List AV) (e : l.length = 26) : Q l := by
  obtain ⟨a0, t, rfl, e1⟩ := len_s e
  exact l25 (fun t => Q (a0 :: t)) (fun a1 a2 a3 a4 a5 a6 a7 a8 a9 a10 a11 a12 a13 a14 a15 a16 a17 a18 a19 a20 a21 a22 a23 a24 a25 => h a0 a1 a2 a3 a4 a5 a6 a7 a8 a9 a10 a11 a12 a13 a14 a15 a16 a17 a18 a19 a20 a21 a22 a23 a24 a25) t e1

theorem l27 (Q : List AV → Prop) (h : ∀ a0 a1 a2 a3 a4 a5 a6 a7 a8 a9 a10 a11 a12 a13 a14 a15 a16 a17 a18 a19 a20 a21 a22 a23 a24 a25 a26 : AV, Q [a0, a1, a2, a3, a4, a5, a6, a7, a8, a9, a10, a11, a12, a13, a14, a15, a16, a17, a18, a19, a20, a21, a22, a23, a24, a25, a26]) (l : List AV) (e : l.length = 27) : Q l := by
  obtain ⟨a0, t, rfl, e1⟩ := len_s e
  exact l26 (fun t => Q (a0 :: t)) (fun a1 a2 a3 a4 a5 a6 a7 a8 a9 a10 a11 a12 a13 a14 a15 a16 a17 a18 a19 a20 a21 a22 a23 a24 a25 a26 => h a0 a1 a2 a3 a4 a5 a6 a7 a8 a9 a10 a11 a12 a13 a14 a15 a16 a17 a18 a19 a20 a21 a22 a23 a24 a25 a26) t e1

theorem l28 (Q : List AV → Prop) (h : ∀ a0 a1 a2 a3 a4 a5 a6 a7 a8 a9 a10 a11 a12 a13 a14 a15 a16 a17 a18 a19 a20 a21 a22 a23 a24 a25 a26 a27 : AV, Q [a0, a1, a2, a3, a4, a5, a6, a7, a8, a9, a10, a11, a12, a13, a14, a15, a16, a17, a18, a19, a20, a21, a22, a23, a24, a25, a26, a27]) (l : List AV) (e : l.length = 28) : Q l := by
  obtain ⟨a0, t, rfl, e1⟩ := len_s e
  exact l27 (fun t => Q (a0 :: t)) (fun a1 a2 a3 a4 a5 a6 a7 a8 a9 a10 a11 a12 a13 a14 a15 a16 a17 a18 a19 a20 a21 a22 a23 a24 a25 a26 a27 => h a0 a1 a2 a3 a4 a5 a6 a7 a8 a9 a10 a11 a12 a13 a14 a15 a16 a17 a18 a19 a20 a21 a22 a23 a24 a25 a26 a27) t e1

theorem l29 (Q : List AV → Prop) (h : ∀ a0 a1 a2 a3 a4 a5 a6 a7 a8 a9 a10 a11 a12 a13 a14 a15 a16 a17 a18 a19 a20 a21 a22 a23 a24 a25 a26 a27 a28 : AV, Q [a0, a1, a2, a3, a4, a5, a6, a7, a8, a9, a10, a11, a12, a13, a14, a15, a16, a17, a18, a19, a20, a21, a22, a23, a24, a25, a26, a27, a28]) (l : List AV) (e : l.length = 29) : Q l := by
  obtain ⟨a0, t, rfl, e1⟩ := len_s e
  exact l28 (fun t => Q (a0 :: t)) (fun a1 a2 a3 a4 a5 a6 a7 a8 a9 a10 a11 a12 a13 a14 a15 a16 a17 a18 a19 a20 a21 a22 a23 a24 a25 a26 a27 a28 => h a0 a1 a2 a3 a4 a5 a6 a7 a8 a9 a10 a11 a12 a13 a14 a15 a16 a17 a18 a19 a20 a21 a22 a23 a24 a25 a26 a27 a28) t e1

theorem l30 (Q : List AV → Prop) (h : ∀ a0 a1 a2 a3 a4 a5 a6 a7 a8 a9 a10 a11 a12 a13 a14 a15 a16 a17 a18 a19 a20 a21 a22 a23 a24 a25 a26 a27 a28 a29 : AV, Q [a0, a1, a2, a3, a4, a5, a6, a7, a8, a9, a10, a11, a12, a13, a14, a15, a16, a17, a18, a19, a20, a21, a22, a23, a24, a25, a26, a27, a28, a29]) (l : List AV) (e : l.length = 30) : Q l := by
  obtain ⟨a0, t, rfl, e1⟩ := len_s e
  exact l29 (fun t => Q (a0 :: t)) (fun a1 a2 a3 a4 a5 a6 a7 a8 a9 a10 a11 a12 a13 a14 a15 a16 a17 a18 a19 a20 a21 a22 a23 a24 a25 a26 a27 a28 a29 => h a0 a1 a2 a3 a4 a5 a6 a7 a8 a9 a10 a11 a12 a13 a14 a15 a16 a17 a18 a19 a20 a21 a22 a23 a24 a25 a26 a27 a28 a29) t e1

theorem l31 (Q : List AV → Prop) (h : ∀ a0 a1 a2 a3 a4 a5 a6 a7 a8 a9 a10 a11 a12 a13 a14 a15 a16 a17 a18 a19 a20 a21 a22 a23 a24 a25 a26 a27 a28 a29 a30 : AV, Q [a0, a1, a2, a3, a4, a5, a6, a7, a8, a9, a10, a11, a12, a13, a14, a15, a16, a17, a18, a19, a20, a21, a22, a23, a24, a25, a26, a27, a28, a29, a30]) (l : List AV) (e : l.length = 31) : Q l := by
  obtain ⟨a0, t, rfl, e1⟩ := len_s e
  exact l30 (fun t => Q (a0 :: t)) (fun a1 a2 a3 a4 a5 a6 a7 a8 a9 a10 a11 a12 a13 a14 a15 a16 a17 a18 a19 a20 a21 a22 a23 a24 a25 a26 a27 a28 a29 a30 => h a0 a1 a2 a3 a4 a5 a6 a7 a8 a9 a10 a11 a12 a13 a14 a15 a16 a17 a18 a19 a20 a21 a22 a23 a24 a25 a26 a27 a28 a29 a30) t e1

theorem l32 (Q : List AV → Prop) (h : ∀ a0 a1 a2 a3 a4 a5 a6 a7 a8 a9 a10 a11 a12 a13 a14 a15 a16 a17 a18 a19 a20 a21 a22 a23 a24 a25 a26 a27 a28 a29 a30 a31 : AV, Q [a0, a1, a2, a3, a4, a5, a6, a7, a8, a9, a10, a11, a12, a13, a14, a15, a16, a17, a18, a19, a20, a21, a22, a23, a24, a25, a26, a27, a28, a29, a30, a31]) (l : List AV) (e : l.length = 32) : Q l := by
  obtain ⟨a0, t, rfl, e1⟩ := len_s e
  exact l31 (fun t => Q (a0 :: t)) (fun a1 a2 a3 a4 a5 a6 a7 a8 a9 a10 a11 a12 a13 a14 a15 a16 a17 a18 a19 a20 a21 a22 a23 a24 a25 a26 a27 a28 a29 a30 a31 => h a0 a1 a2 a3 a4 a5 a6 a7 a8 a9 a10 a11 a12 a13 a14 a15 a16 a17 a18 a19 a20 a21 a22 a23 a24 a25 a26 a27 a28 a29 a30 a31) t e1

def SL (P : Program) (u : Nat) (f : Caller → Nat → List AV → List KL → KL → AH → RO) (c : FC) (n : Nat) : Prop := ∀ cl k l Kx K H, l.length = n → f cl k l Kx K H = runCq c P u cl k l Kx K H

theorem s0' {P : Program} {u : Nat} {f : Caller → Nat → List AV → List KL → KL → AH → RO} {c : FC} (h : ∀ (cl : Caller) (k : Nat)  (Kx : List KL) (K : KL) (H : AH), f cl k [] Kx K H = runCq c P u cl k [] Kx K H) : SL P u f c 0 := fun cl k l Kx K H => l0 (fun l => f cl k l Kx K H = runCq c P u cl k l Kx K H) (h cl k Kx K H) l

theorem s1' {P : Program} {u : Nat} {f : Caller → Nat → List AV → List KL → KL → AH → RO} {c : FC} (h : ∀ (cl : Caller) (k : Nat) (a0 : AV) (Kx : List KL) (K : KL) (H : AH), f cl k [a0] Kx K H = runCq c P u cl k [a0] Kx K H) : SL P u f c 1 := fun cl k l Kx K H => l1 (fun l => f cl k l Kx K H = runCq c P u cl k l Kx K H) (fun a0 => h cl k a0 Kx K H) l

theorem s2' {P : Program} {u : Nat} {f : Caller → Nat → List AV → List KL → KL → AH → RO} {c : FC} (h : ∀ (cl : Caller) (k : Nat) (a0 a1 : AV) (Kx : List KL) (K : KL) (H : AH), f cl k [a0, a1] Kx K H = runCq c P u cl k [a0, a1] Kx K H) : SL P u f c 2 := fun cl k l Kx K H => l2 (fun l => f cl k l Kx K H = runCq c P u cl k l Kx K H) (fun a0 a1 => h cl k a0 a1 Kx K H) l

theorem s3' {P : Program} {u : Nat} {f : Caller → Nat → List AV → List KL → KL → AH → RO} {c : FC} (h : ∀ (cl : Caller) (k : Nat) (a0 a1 a2 : AV) (Kx : List KL) (K : KL) (H : AH), f cl k [a0, a1, a2] Kx K H = runCq c P u cl k [a0, a1, a2] Kx K H) : SL P u f c 3 := fun cl k l Kx K H => l3 (fun l => f cl k l Kx K H = runCq c P u cl k l Kx K H) (fun a0 a1 a2 => h cl k a0 a1 a2 Kx K H) l

theorem s4' {P : Program} {u : Nat} {f : Caller → Nat → List AV → List KL → KL → AH → RO} {c : FC} (h : ∀ (cl : Caller) (k : Nat) (a0 a1 a2 a3 : AV) (Kx : List KL) (K : KL) (H : AH), f cl k [a0, a1, a2, a3] Kx K H = runCq c P u cl k [a0, a1, a2, a3] Kx K H) : SL P u f c 4 := fun cl k l Kx K H => l4 (fun l => f cl k l Kx K H = runCq c P u cl k l Kx K H) (fun a0 a1 a2 a3 => h cl k a0 a1 a2 a3 Kx K H) l

theorem s5' {P : Program} {u : Nat} {f : Caller → Nat → List AV → List KL → KL → AH → RO} {c : FC} (h : ∀ (cl : Caller) (k : Nat) (a0 a1 a2 a3 a4 : AV) (Kx : List KL) (K : KL) (H : AH), f cl k [a0, a1, a2, a3, a4] Kx K H = runCq c P u cl k [a0, a1, a2, a3, a4] Kx K H) : SL P u f c 5 := fun cl k l Kx K H => l5 (fun l => f cl k l Kx K H = runCq c P u cl k l Kx K H) (fun a0 a1 a2 a3 a4 => h cl k a0 a1 a2 a3 a4 Kx K H) l

theorem s6' {P : Program} {u : Nat} {f : Caller → Nat → List AV → List KL → KL → AH → RO} {c : FC} (h : ∀ (cl : Caller) (k : Nat) (a0 a1 a2 a3 a4 a5 : AV) (Kx : List KL) (K : KL) (H : AH), f cl k [a0, a1, a2, a3, a4, a5] Kx K H = runCq c P u cl k [a0, a1, a2, a3, a4, a5] Kx K H) : SL P u f c 6 := fun cl k l Kx K H => l6 (fun l => f cl k l Kx K H = runCq c P u cl k l Kx K H) (fun a0 a1 a2 a3 a4 a5 => h cl k a0 a1 a2 a3 a4 a5 Kx K H) l

theorem s7' {P : Program} {u : Nat} {f : Caller → Nat → List AV → List KL → KL → AH → RO} {c : FC} (h : ∀ (cl : Caller) (k : Nat) (a0 a1 a2 a3 a4 a5 a6 : AV) (Kx : List KL) (K : KL) (H : AH), f cl k [a0, a1, a2, a3, a4, a5, a6] Kx K H = runCq c P u cl k [a0, a1, a2, a3, a4, a5, a6] Kx K H) : SL P u f c 7 := fun cl k l Kx K H => l7 (fun l => f cl k l Kx K H = runCq c P u cl k l Kx K H) (fun a0 a1 a2 a3 a4 a5 a6 => h cl k a0 a1 a2 a3 a4 a5 a6 Kx K H) l

theorem s8' {P : Program} {u : Nat} {f : Caller → Nat → List AV → List KL → KL → AH → RO} {c : FC} (h : ∀ (cl : Caller) (k : Nat) (a0 a1 a2 a3 a4 a5 a6 a7 : AV) (Kx : List KL) (K : KL) (H : AH), f cl k [a0, a1, a2, a3, a4, a5, a6, a7] Kx K H = runCq c P u cl k [a0, a1, a2, a3, a4, a5, a6, a7] Kx K H) : SL P u f c 8 := fun cl k l Kx K H => l8 (fun l => f cl k l Kx K H = runCq c P u cl k l Kx K H) (fun a0 a1 a2 a3 a4 a5 a6 a7 => h cl k a0 a1 a2 a3 a4 a5 a6 a7 Kx K H) l

theorem s9' {P : Program} {u : Nat} {f : Caller → Nat → List AV → List KL → KL → AH → RO} {c : FC} (h : ∀ (cl : Caller) (k : Nat) (a0 a1 a2 a3 a4 a5 a6 a7 a8 : AV) (Kx : List KL) (K : KL) (H : AH), f cl k [a0, a1, a2, a3, a4, a5, a6, a7, a8] Kx K H = runCq c P u cl k [a0, a1, a2, a3, a4, a5, a6, a7, a8] Kx K H) : SL P u f c 9 := fun cl k l Kx K H => l9 (fun l => f cl k l Kx K H = runCq c P u cl k l Kx K H) (fun a0 a1 a2 a3 a4 a5 a6 a7 a8 => h cl k a0 a1 a2 a3 a4 a5 a6 a7 a8 Kx K H) l

theorem s10' {P : Program} {u : Nat} {f : Caller → Nat → List AV → List KL → KL → AH → RO} {c : FC} (h : ∀ (cl : Caller) (k : Nat) (a0 a1 a2 a3 a4 a5 a6 a7 a8 a9 : AV) (Kx : List KL) (K : KL) (H : AH), f cl k [a0, a1, a2, a3, a4, a5, a6, a7, a8, a9] Kx K H = runCq c P u cl k [a0, a1, a2, a3, a4, a5, a6, a7, a8, a9] Kx K H) : SL P u f c 10 := fun cl k l Kx K H => l10 (fun l => f cl k l Kx K H = runCq c P u cl k l Kx K H) (fun a0 a1 a2 a3 a4 a5 a6 a7 a8 a9 => h cl k a0 a1 a2 a3 a4 a5 a6 a7 a8 a9 Kx K H) l

theorem s11' {P : Program} {u : Nat} {f : Caller → Nat → List AV → List KL → KL → AH → RO} {c : FC} (h : ∀ (cl : Caller) (k : Nat) (a0 a1 a2 a3 a4 a5 a6 a7 a8 a9 a10 : AV) (Kx : List KL) (K : KL) (H : AH), f cl k [a0, a1, a2, a3, a4, a5, a6, a7, a8, a9, a10] Kx K H = runCq c P u cl k [a0, a1, a2, a3, a4, a5, a6, a7, a8, a9, a10] Kx K H) : SL P u f c 11 := fun cl k l Kx K H => l11 (fun l => f cl k l Kx K H = runCq c P u cl k l Kx K H) (fun a0 a1 a2 a3 a4 a5 a6 a7 a8 a9 a10 => h cl k a0 a1 a2 a3 a4 a5 a6 a7 a8 a9 a10 Kx K H) l

theorem s12' {P : Program} {u : Nat} {f : Caller → Nat → List AV → List KL → KL → AH → RO} {c : FC} (h : ∀ (cl : Caller) (k : Nat) (a0 a1 a2 a3 a4 a5 a6 a7 a8 a9 a10 a11 : AV) (Kx : List KL) (K : KL) (H : AH), f cl k [a0, a1, a2, a3, a4, a5, a6, a7, a8, a9, a10, a11] Kx K H = runCq c P u cl k [a0, a1, a2, a3, a4, a5, a6, a7, a8, a9, a10, a11] Kx K H) : SL P u f c 12 := fun cl k l Kx K H => l12 (fun l => f cl k l Kx K H = runCq c P u cl k l Kx K H) (fun a0 a1 a2 a3 a4 a5 a6 a7 a8 a9 a10 a11 => h cl k a0 a1 a2 a3 a4 a5 a6 a7 a8 a9 a10 a11 Kx K H) l

theorem s13' {P : Program} {u : Nat} {f : Caller → Nat → List AV → List KL → KL → AH → RO} {c : FC} (h : ∀ (cl : Caller) (k : Nat) (a0 a1 a2 a3 a4 a5 a6 a7 a8 a9 a10 a11 a12 : AV) (Kx : List KL) (K : KL) (H : AH), f cl k [a0, a1, a2, a3, a4, a5, a6, a7, a8, a9, a10, a11, a12] Kx K H = runCq c P u cl k [a0, a1, a2, a3, a4, a5, a6, a7, a8, a9, a10, a11, a12] Kx K H) : SL P u f c 13 := fun cl k l Kx K H => l13 (fun l => f cl k l Kx K H = runCq c P u cl k l Kx K H) (fun a0 a1 a2 a3 a4 a5 a6 a7 a8 a9 a10 a11 a12 => h cl k a0 a1 a2 a3 a4 a5 a6 a7 a8 a9 a10 a11 a12 Kx K H) l

theorem s14' {P : Program} {u : Nat} {f : Caller → Nat → List AV → List KL → KL → AH → RO} {c : FC} (h : ∀ (cl : Caller) (k : Nat) (a0 a1 a2 a3 a4 a5 a6 a7 a8 a9 a10 a11 a12 a13 : AV) (Kx : List KL) (K : KL) (H : AH), f cl k [a0, a1, a2, a3, a4, a5, a6, a7, a8, a9, a10, a11, a12, a13] Kx K H = runCq c P u cl k [a0, a1, a2, a3, a4, a5, a6, a7, a8, a9, a10, a11, a12, a13] Kx K H) : SL P u f c 14 := fun cl k l Kx K H => l14 (fun l => f cl k l Kx K H = runCq c P u cl k l Kx K H) (fun a0 a1 a2 a3 a4 a5 a6 a7 a8 a9 a10 a11 a12 a13 => h cl k a0 a1 a2 a3 a4 a5 a6 a7 a8 a9 a10 a11 a12 a13 Kx K H) l

theorem s15' {P : Program} {u : Nat} {f : Caller → Nat → List AV → List KL → KL → AH → RO} {c : FC} (h : ∀ (cl : Caller) (k : Nat) (a0 a1 a2 a3 a4 a5 a6 a7 a8 a9 a10 a11 a12 a13 a14 : AV) (Kx : List KL) (K : KL) (H : AH), f cl k [a0, a1, a2, a3, a4, a5, a6, a7, a8, a9, a10, a11, a12, a13, a14] Kx K H = runCq c P u cl k [a0, a1, a2, a3, a4, a5, a6, a7, a8, a9, a10, a11, a12, a13, a14] Kx K H) : SL P u f c 15 := fun cl k l Kx K H => l15 (fun l => f cl k l Kx K H = runCq c P u cl k l Kx K H) (fun a0 a1 a2 a3 a4 a5 a6 a7 a8 a9 a10 a11 a12 a13 a14 => h cl k a0 a1 a2 a3 a4 a5 a6 a7 a8 a9 a10 a11 a12 a13 a14 Kx K H) l

theorem s16' {P : Program} {u : Nat} {f : Caller → Nat → List AV → List KL → KL → AH → RO} {c : FC} (h : ∀ (cl : Caller) (k : Nat) (a0 a1 a2 a3 a4 a5 a6 a7 a8 a9 a10 a11 a12 a13 a14 a15 : AV) (Kx : List KL) (K : KL) (H : AH), f cl k [a0, a1, a2, a3, a4, a5, a6, a7, a8, a9, a10, a11, a12, a13, a14, a15] Kx K H = runCq c P u cl k [a0, a1, a2, a3, a4, a5, a6, a7, a8, a9, a10, a11, a12, a13, a14, a15] Kx K H) : SL P u f c 16 := fun cl k l Kx K H => l16 (fun l => f cl k l Kx K H = runCq c P u cl k l Kx K H) (fun a0 a1 a2 a3 a4 a5 a6 a7 a8 a9 a10 a11 a12 a13 a14 a15 => h cl k a0 a1 a2 a3 a4 a5 a6 a7 a8 a9 a10 a11 a12 a13 a14 a15 Kx K H) l

theorem s17' {P : Program} {u : Nat} {f : Caller → Nat → List AV → List KL → KL → AH → RO} {c : FC} (h : ∀ (cl : Caller) (k : Nat) (a0 a1 a2 a3 a4 a5 a6 a7 a8 a9 a10 a11 a12 a13 a14 a15 a16 : AV) (Kx : List KL) (K : KL) (H : AH), f cl k [a0, a1, a2, a3, a4, a5, a6, a7, a8, a9, a10, a11, a12, a13, a14, a15, a16] Kx K H = runCq c P u cl k [a0, a1, a2, a3, a4, a5, a6, a7, a8, a9, a10, a11, a12, a13, a14, a15, a16] Kx K H) : SL P u f c 17 := fun cl k l Kx K H => l17 (fun l => f cl k l Kx K H = runCq c P u cl k l Kx K H) (fun a0 a1 a2 a3 a4 a5 a6 a7 a8 a9 a10 a11 a12 a13 a14 a15 a16 => h cl k a0 a1 a2 a3 a4 a5 a6 a7 a8 a9 a10 a11 a12 a13 a14 a15 a16 Kx K H) l

theorem s18' {P : Program} {u : Nat} {f : Caller → Nat → List AV → List KL → KL → AH → RO} {c : FC} (h : ∀ (cl : Caller) (k : Nat) (a0 a1 a2 a3 a4 a5 a6 a7 a8 a9 a10 a11 a12 a13 a14 a15 a16 a17 : AV) (Kx : List KL) (K : KL) (H : AH), f cl k [a0, a1, a2, a3, a4, a5, a6, a7, a8, a9, a10, a11, a12, a13, a14, a15, a16, a17] Kx K H = runCq c P u cl k [a0, a1, a2, a3, a4, a5, a6, a7, a8, a9, a10, a11, a12, a13, a14, a15, a16, a17] Kx K H) : SL P u f c 18 := fun cl k l Kx K H => l18 (fun l => f cl k l Kx K H = runCq c P u cl k l Kx K H) (fun a0 a1 a2 a3 a4 a5 a6 a7 a8 a9 a10 a11 a12 a13 a14 a15 a16 a17 => h cl k a0 a1 a2 a3 a4 a5 a6 a7 a8 a9 a10 a11 a12 a13 a14 a15 a16 a17 Kx K H) l

theorem s19' {P : Program} {u : Nat} {f : Caller → Nat → List AV → List KL → KL → AH → RO} {c : FC} (h : ∀ (cl : Caller) (k : Nat) (a0 a1 a2 a3 a4 a5 a6 a7 a8 a9 a10 a11 a12 a13 a14 a15 a16 a17 a18 : AV) (Kx : List KL) (K : KL) (H : AH), f cl k [a0, a1, a2, a3, a4, a5, a6, a7, a8, a9, a10, a11, a12, a13, a14, a15, a16, a17, a18] Kx K H = runCq c P u cl k [a0, a1, a2, a3, a4, a5, a6, a7, a8, a9, a10, a11, a12, a13, a14, a15, a16, a17, a18] Kx K H) : SL P u f c 19 := fun cl k l Kx K H => l19 (fun l => f cl k l Kx K H = runCq c P u cl k l Kx K H) (fun a0 a1 a2 a3 a4 a5 a6 a7 a8 a9 a10 a11 a12 a13 a14 a15 a16 a17 a18 => h cl k a0 a1 a2 a3 a4 a5 a6 a7 a8 a9 a10 a11 a12 a13 a14 a15 a16 a17 a18 Kx K H) l

theorem s20' {P : Program} {u : Nat} {f : Caller → Nat → List AV → List KL → KL → AH → RO} {c : FC} (h : ∀ (cl : Caller) (k : Nat) (a0 a1 a2 a3 a4 a5 a6 a7 a8 a9 a10 a11 a12 a13 a14 a15 a16 a17 a18 a19 : AV) (Kx : List KL) (K : KL) (H : AH), f cl k [a0, a1, a2, a3, a4, a5, a6, a7, a8, a9, a10, a11, a12, a13, a14, a15, a16, a17, a18, a19] Kx K H = runCq c P u cl k [a0, a1, a2, a3, a4, a5, a6, a7, a8, a9, a10, a11, a12, a13, a14, a15, a16, a17, a18, a19] Kx K H) : SL P u f c 20 := fun cl k l Kx K H => l20 (fun l => f cl k l Kx K H = runCq c P u cl k l Kx K H) (fun a0 a1 a2 a3 a4 a5 a6 a7 a8 a9 a10 a11 a12 a13 a14 a15 a16 a17 a18 a19 => h cl k a0 a1 a2 a3 a4 a5 a6 a7 a8 a9 a10 a11 a12 a13 a14 a15 a16 a17 a18 a19 Kx K H) l

theorem s21' {P : Program} {u : Nat} {f : Caller → Nat → List AV → List KL → KL → AH → RO} {c : FC} (h : ∀ (cl : Caller) (k : Nat) (a0 a1 a2 a3 a4 a5 a6 a7 a8 a9 a10 a11 a12 a13 a14 a15 a16 a17 a18 a19 a20 : AV) (Kx : List KL) (K : KL) (H : AH), f cl k [a0, a1, a2, a3, a4, a5, a6, a7, a8, a9, a10, a11, a12, a13, a14, a15, a16, a17, a18, a19, a20] Kx K H = runCq c P u cl k [a0, a1, a2, a3, a4, a5, a6, a7, a8, a9, a10, a11, a12, a13, a14, a15, a16, a17, a18, a19, a20] Kx K H) : SL P u f c 21 := fun cl k l Kx K H => l21 (fun l => f cl k l Kx K H = runCq c P u cl k l Kx K H) (fun a0 a1 a2 a3 a4 a5 a6 a7 a8 a9 a10 a11 a12 a13 a14 a15 a16 a17 a18 a19 a20 => h cl k a0 a1 a2 a3 a4 a5 a6 a7 a8 a9 a10 a11 a12 a13 a14 a15 a16 a17 a18 a19 a20 Kx K H) l

theorem s22' {P : Program} {u : Nat} {f : Caller → Nat → List AV → List KL → KL → AH → RO} {c : FC} (h : ∀ (cl : Caller) (k : Nat) (a0 a1 a2 a3 a4 a5 a6 a7 a8 a9 a10 a11 a12 a13 a14 a15 a16 a17 a18 a19 a20 a21 : AV) (Kx : List KL) (K : KL) (H : AH), f cl k [a0, a1, a2, a3, a4, a5, a6, a7, a8, a9, a10, a11, a12, a13, a14, a15, a16, a17, a18, a19, a20, a21] Kx K H = runCq c P u cl k [a0, a1, a2, a3, a4, a5, a6, a7, a8, a9, a10, a11, a12, a13, a14, a15, a16, a17, a18, a19, a20, a21] Kx K H) : SL P u f c 22 := fun cl k l Kx K H => l22 (fun l => f cl k l Kx K H = runCq c P u cl k l Kx K H) (fun a0 a1 a2 a3 a4 a5 a6 a7 a8 a9 a10 a11 a12 a13 a14 a15 a16 a17 a18 a19 a20 a21 => h cl k a0 a1 a2 a3 a4 a5 a6 a7 a8 a9 a10 a11 a12 a13 a14 a15 a16 a17 a18 a19 a20 a21 Kx K H) l

theorem s23' {P : Program} {u : Nat} {f : Caller → Nat → List AV → List KL → KL → AH → RO} {c : FC} (h : ∀ (cl : Caller) (k : Nat) (a0 a1 a2 a3 a4 a5 a6 a7 a8 a9 a10 a11 a12 a13 a14 a15 a16 a17 a18 a19 a20 a21 a22 : AV) (Kx : List KL) (K : KL) (H : AH), f cl k [a0, a1, a2, a3, a4, a5, a6, a7, a8, a9, a10, a11, a12, a13, a14, a15, a16, a17, a18, a19, a20, a21, a22] Kx K H = runCq c P u cl k [a0, a1, a2, a3, a4, a5, a6, a7, a8, a9, a10, a11, a12, a13, a14, a15, a16, a17, a18, a19, a20, a21, a22] Kx K H) : SL P u f c 23 := fun cl k l Kx K H => l23 (fun l => f cl k l Kx K H = runCq c P u cl k l Kx K H) (fun a0 a1 a2 a3 a4 a5 a6 a7 a8 a9 a10 a11 a12 a13 a14 a15 a16 a17 a18 a19 a20 a21 a22 => h cl k a0 a1 a2 a3 a4 a5 a6 a7 a8 a9 a10 a11 a12 a13 a14 a15 a16 a17 a18 a19 a20 a21 a22 Kx K H) l

theorem s24' {P : Program} {u : Nat} {f : Caller → Nat → List AV → List KL → KL → AH → RO} {c : FC} (h : ∀ (cl : Caller) (k : Nat) (a0 a1 a2 a3 a4 a5 a6 a7 a8 a9 a10 a11 a12 a13 a14 a15 a16 a17 a18 a19 a20 a21 a22 a23 : AV) (Kx : List KL) (K : KL) (H : AH), f cl k [a0, a1, a2, a3, a4, a5, a6, a7, a8, a9, a10, a11, a12, a13, a14, a15, a16, a17, a18, a19, a20, a21, a22, a23] Kx K H = runCq c P u cl k [a0, a1, a2, a3, a4, a5, a6, a7, a8, a9, a10, a11, a12, a13, a14, a15, a16, a17, a18, a19, a20, a21, a22, a23] Kx K H) : SL P u f c 24 := fun cl k l Kx K H => l24 (fun l => f cl k l Kx K H = runCq c P u cl k l Kx K H) (fun a0 a1 a2 a3 a4 a5 a6 a7 a8 a9 a10 a11 a12 a13 a14 a15 a16 a17 a18 a19 a20 a21 a22 a23 => h cl k a0 a1 a2 a3 a4 a5 a6 a7 a8 a9 a10 a11 a12 a13 a14 a15 a16 a17 a18 a19 a20 a21 a22 a23 Kx K H) l

theorem s25' {P : Program} {u : Nat} {f : Caller → Nat → List AV → List KL → KL → AH → RO} {c : FC} (h : ∀ (cl : Caller) (k : Nat) (a0 a1 a2 a3 a4 a5 a6 a7 a8 a9 a10 a11 a12 a13 a14 a15 a16 a17 a18 a19 a20 a21 a22 a23 a24 : AV) (Kx : List KL) (K : KL) (H : AH), f cl k [a0, a1, a2, a3, a4, a5, a6, a7, a8, a9, a10, a11, a12, a13, a14, a15, a16, a17, a18, a19, a20, a21, a22, a23, a24] Kx K H = runCq c P u cl k [a0, a1, a2, a3, a4, a5, a6, a7, a8, a9, a10, a11, a12, a13, a14, a15, a16, a17, a18, a19, a20, a21, a22, a23, a24] Kx K H) : SL P u f c 25 := fun cl k l Kx K H => l25 (fun l => f cl k l Kx K H = runCq c P u cl k l Kx K H) (fun a0 a1 a2 a3 a4 a5 a6 a7 a8 a9 a10 a11 a12 a13 a14 a15 a16 a17 a18 a19 a20 a21 a22 a23 a24 => h cl k a0 a1 a2 a3 a4 a5 a6 a7 a8 a9 a10 a11 a12 a13 a14 a15 a16 a17 a18 a19 a20 a21 a22 a23 a24 Kx K H) l

theorem s26' {P : Program} {u : Nat} {f : Caller → Nat → List AV → List KL → KL → AH → RO} {c : FC} (h : ∀ (cl : Caller) (k : Nat) (a0 a1 a2 a3 a4 a5 a6 a7 a8 a9 a10 a11 a12 a13 a14 a15 a16 a17 a18 a19 a20 a21 a22 a23 a24 a25 : AV) (Kx : List KL) (K : KL) (H : AH), f cl k [a0, a1, a2, a3, a4, a5, a6, a7, a8, a9, a10, a11, a12, a13, a14, a15, a16, a17, a18, a19, a20, a21, a22, a23, a24, a25] Kx K H = runCq c P u cl k [a0, a1, a2, a3, a4, a5, a6, a7, a8, a9, a10, a11, a12, a13, a14, a15, a16, a17, a18, a19, a20, a21, a22, a23, a24, a25] Kx K H) : SL P u f c 26 := fun cl k l Kx K H => l26 (fun l => f cl k l Kx K H = runCq c P u cl k l Kx K H) (fun a0 a1 a2 a3 a4 a5 a6 a7 a8 a9 a10 a11 a12 a13 a14 a15 a16 a17 a18 a19 a20 a21 a22 a23 a24 a25 => h cl k a0 a1 a2 a3 a4 a5 a6 a7 a8 a9 a10 a11 a12 a13 a14 a15 a16 a17 a18 a19 a20 a21 a22 a23 a24 a25 Kx K H) l

theorem s27' {P : Program} {u : Nat} {f : Caller → Nat → List AV → List KL → KL → AH → RO} {c : FC} (h : ∀ (cl : Caller) (k : Nat) (a0 a1 a2 a3 a4 a5 a6 a7 a8 a9 a10 a11 a12 a13 a14 a15 a16 a17 a18 a19 a20 a21 a22 a23 a24 a25 a26 : AV) (Kx : List KL) (K : KL) (H : AH), f cl k [a0, a1, a2, a3, a4, a5, a6, a7, a8, a9, a10, a11, a12, a13, a14, a15, a16, a17, a18, a19, a20, a21, a22, a23, a24, a25, a26] Kx K H = runCq c P u cl k [a0, a1, a2, a3, a4, a5, a6, a7, a8, a9, a10, a11, a12, a13, a14, a15, a16, a17, a18, a19, a20, a21, a22, a23, a24, a25, a26] Kx K H) : SL P u f c 27 := fun cl k l Kx K H => l27 (fun l => f cl k l Kx K H = runCq c P u cl k l Kx K H) (fun a0 a1 a2 a3 a4 a5 a6 a7 a8 a9 a10 a11 a12 a13 a14 a15 a16 a17 a18 a19 a20 a21 a22 a23 a24 a25 a26 => h cl k a0 a1 a2 a3 a4 a5 a6 a7 a8 a9 a10 a11 a12 a13 a14 a15 a16 a17 a18 a19 a20 a21 a22 a23 a24 a25 a26 Kx K H) l

theorem s28' {P : Program} {u : Nat} {f : Caller → Nat → List AV → List KL → KL → AH → RO} {c : FC} (h : ∀ (cl : Caller) (k : Nat) (a0 a1 a2 a3 a4 a5 a6 a7 a8 a9 a10 a11 a12 a13 a14 a15 a16 a17 a18 a19 a20 a21 a22 a23 a24 a25 a26 a27 : AV) (Kx : List KL) (K : KL) (H : AH), f cl k [a0, a1, a2, a3, a4, a5, a6, a7, a8, a9, a10, a11, a12, a13, a14, a15, a16, a17, a18, a19, a20, a21, a22, a23, a24, a25, a26, a27] Kx K H = runCq c P u cl k [a0, a1, a2, a3, a4, a5, a6, a7, a8, a9, a10, a11, a12, a13, a14, a15, a16, a17, a18, a19, a20, a21, a22, a23, a24, a25, a26, a27] Kx K H) : SL P u f c 28 := fun cl k l Kx K H => l28 (fun l => f cl k l Kx K H = runCq c P u cl k l Kx K H) (fun a0 a1 a2 a3 a4 a5 a6 a7 a8 a9 a10 a11 a12 a13 a14 a15 a16 a17 a18 a19 a20 a21 a22 a23 a24 a25 a26 a27 => h cl k a0 a1 a2 a3 a4 a5 a6 a7 a8 a9 a10 a11 a12 a13 a14 a15 a16 a17 a18 a19 a20 a21 a22 a23 a24 a25 a26 a27 Kx K H) l

theorem s29' {P : Program} {u : Nat} {f : Caller → Nat → List AV → List KL → KL → AH → RO} {c : FC} (h : ∀ (cl : Caller) (k : Nat) (a0 a1 a2 a3 a4 a5 a6 a7 a8 a9 a10 a11 a12 a13 a14 a15 a16 a17 a18 a19 a20 a21 a22 a23 a24 a25 a26 a27 a28 : AV) (Kx : List KL) (K : KL) (H : AH), f cl k [a0, a1, a2, a3, a4, a5, a6, a7, a8, a9, a10, a11, a12, a13, a14, a15, a16, a17, a18, a19, a20, a21, a22, a23, a24, a25, a26, a27, a28] Kx K H = runCq c P u cl k [a0, a1, a2, a3, a4, a5, a6, a7, a8, a9, a10, a11, a12, a13, a14, a15, a16, a17, a18, a19, a20, a21, a22, a23, a24, a25, a26, a27, a28] Kx K H) : SL P u f c 29 := fun cl k l Kx K H => l29 (fun l => f cl k l Kx K H = runCq c P u cl k l Kx K H) (fun a0 a1 a2 a3 a4 a5 a6 a7 a8 a9 a10 a11 a12 a13 a14 a15 a16 a17 a18 a19 a20 a21 a22 a23 a24 a25 a26 a27 a28 => h cl k a0 a1 a2 a3 a4 a5 a6 a7 a8 a9 a10 a11 a12 a13 a14 a15 a16 a17 a18 a19 a20 a21 a22 a23 a24 a25 a26 a27 a28 Kx K H) l

theorem s30' {P : Program} {u : Nat} {f : Caller → Nat → List AV → List KL → KL → AH → RO} {c : FC} (h : ∀ (cl : Caller) (k : Nat) (a0 a1 a2 a3 a4 a5 a6 a7 a8 a9 a10 a11 a12 a13 a14 a15 a16 a17 a18 a19 a20 a21 a22 a23 a24 a25 a26 a27 a28 a29 : AV) (Kx : List KL) (K : KL) (H : AH), f cl k [a0, a1, a2, a3, a4, a5, a6, a7, a8, a9, a10, a11, a12, a13, a14, a15, a16, a17, a18, a19, a20, a21, a22, a23, a24, a25, a26, a27, a28, a29] Kx K H = runCq c P u cl k [a0, a1, a2, a3, a4, a5, a6, a7, a8, a9, a10, a11, a12, a13, a14, a15, a16, a17, a18, a19, a20, a21, a22, a23, a24, a25, a26, a27, a28, a29] Kx K H) : SL P u f c 30 := fun cl k l Kx K H => l30 (fun l => f cl k l Kx K H = runCq c P u cl k l Kx K H) (fun a0 a1 a2 a3 a4 a5 a6 a7 a8 a9 a10 a11 a12 a13 a14 a15 a16 a17 a18 a19 a20 a21 a22 a23 a24 a25 a26 a27 a28 a29 => h cl k a0 a1 a2 a3 a4 a5 a6 a7 a8 a9 a10 a11 a12 a13 a14 a15 a16 a17 a18 a19 a20 a21 a22 a23 a24 a25 a26 a27 a28 a29 Kx K H) l

theorem s31' {P : Program} {u : Nat} {f : Caller → Nat → List AV → List KL → KL → AH → RO} {c : FC} (h : ∀ (cl : Caller) (k : Nat) (a0 a1 a2 a3 a4 a5 a6 a7 a8 a9 a10 a11 a12 a13 a14 a15 a16 a17 a18 a19 a20 a21 a22 a23 a24 a25 a26 a27 a28 a29 a30 : AV) (Kx : List KL) (K : KL) (H : AH), f cl k [a0, a1, a2, a3, a4, a5, a6, a7, a8, a9, a10, a11, a12, a13, a14, a15, a16, a17, a18, a19, a20, a21, a22, a23, a24, a25, a26, a27, a28, a29, a30] Kx K H = runCq c P u cl k [a0, a1, a2, a3, a4, a5, a6, a7, a8, a9, a10, a11, a12, a13, a14, a15, a16, a17, a18, a19, a20, a21, a22, a23, a24, a25, a26, a27, a28, a29, a30] Kx K H) : SL P u f c 31 := fun cl k l Kx K H => l31 (fun l => f cl k l Kx K H = runCq c P u cl k l Kx K H) (fun a0 a1 a2 a3 a4 a5 a6 a7 a8 a9 a10 a11 a12 a13 a14 a15 a16 a17 a18 a19 a20 a21 a22 a23 a24 a25 a26 a27 a28 a29 a30 => h cl k a0 a1 a2 a3 a4 a5 a6 a7 a8 a9 a10 a11 a12 a13 a14 a15 a16 a17 a18 a19 a20 a21 a22 a23 a24 a25 a26 a27 a28 a29 a30 Kx K H) l

theorem s32' {P : Program} {u : Nat} {f : Caller → Nat → List AV → List KL → KL → AH → RO} {c : FC} (h : ∀ (cl : Caller) (k : Nat) (a0 a1 a2 a3 a4 a5 a6 a7 a8 a9 a10 a11 a12 a13 a14 a15 a16 a17 a18 a19 a20 a21 a22 a23 a24 a25 a26 a27 a28 a29 a30 a31 : AV) (Kx : List KL) (K : KL) (H : AH), f cl k [a0, a1, a2, a3, a4, a5, a6, a7, a8, a9, a10, a11, a12, a13, a14, a15, a16, a17, a18, a19, a20, a21, a22, a23, a24, a25, a26, a27, a28, a29, a30, a31] Kx K H = runCq c P u cl k [a0, a1, a2, a3, a4, a5, a6, a7, a8, a9, a10, a11, a12, a13, a14, a15, a16, a17, a18, a19, a20, a21, a22, a23, a24, a25, a26, a27, a28, a29, a30, a31] Kx K H) : SL P u f c 32 := fun cl k l Kx K H => l32 (fun l => f cl k l Kx K H = runCq c P u cl k l Kx K H) (fun a0 a1 a2 a3 a4 a5 a6 a7 a8 a9 a10 a11 a12 a13 a14 a15 a16 a17 a18 a19 a20 a21 a22 a23 a24 a25 a26 a27 a28 a29 a30 a31 => h cl k a0 a1 a2 a3 a4 a5 a6 a7 a8 a9 a10 a11 a12 a13 a14 a15 a16 a17 a18 a19 a20 a21 a22 a23 a24 a25 a26 a27 a28 a29 a30 a31 Kx K H) l

def oi (x : FO) : FI := .o 0 true x

def x0 : FX := .t 0

def x1 : FX := .t 1

def x2 : FX := .t 2

def x3 : FX := .t 3

def x4 : FX := .t 4

def x5 : FX := .t 5

def x6 : FX := .t 6

def x7 : FX := .t 7

def x8 : FX := .t 8

def x9 : FX := .t 9

def x10 : FX := .t 10

def x11 : FX := .t 11

def x12 : FX := .t 12

def x13 : FX := .t 13

def x14 : FX := .t 14

def x15 : FX := .t 15

def x16 : FX := .t 16

def x17 : FX := .t 17

def x18 : FX := .t 18

def x19 : FX := .t 19

def x20 : FX := .t 20

def x21 : FX := .t 21

def x22 : FX := .t 22

def x23 : FX := .t 23

def x24 : FX := .t 24

def x25 : FX := .t 25

def x26 : FX := .t 26

def x27 : FX := .t 27

def x28 : FX := .t 28

def x29 : FX := .t 29

def x30 : FX := .t 30

def x31 : FX := .t 31

def x32 : FX := .t 32

def x33 : FX := .t 33

def x34 : FX := .t 34

def x35 : FX := .t 35

def x36 : FX := .t 36

def x37 : FX := .t 37

def x38 : FX := .t 38

def x39 : FX := .t 39

def x40 : FX := .t 40

def x41 : FX := .t 41

def x42 : FX := .t 42

def x43 : FX := .t 43

def x44 : FX := .t 44

def x45 : FX := .t 45

def x46 : FX := .t 46

def x47 : FX := .t 47

def x48 : FX := .t 48

def x49 : FX := .t 49

def x50 : FX := .t 50

def x51 : FX := .t 51

def x52 : FX := .t 52

def x53 : FX := .t 53

def x54 : FX := .t 54

def x55 : FX := .t 55

def x56 : FX := .t 56

def x57 : FX := .t 57

def x58 : FX := .t 58

def x59 : FX := .t 59

def x60 : FX := .t 60

def x61 : FX := .t 61

def x62 : FX := .t 62

def x63 : FX := .t 63
end Go.Proofs.YtlpfhodieopmhaaGreatDoor.Ae

namespace Go.Proofs.YtlpfhodieopmhaaGreatDoor.Ae
open Go.RowKit

def okFn (P : Program) (fn : Func) (ht : HT) : Bool := !(fn.name == "runtime.NumGoroutine") && (match fn.body with
  | some c => codeOK P fn.ntmps c ht
  | none => false)

/-- A printed function is one of the program's. -/
def FnQ (P : Program) (cf : Cf) (f : FuncId) (p : Nat × FC) : Prop :=
  ∃ fn ht c0, P.funcs[f]? = some fn ∧ okFn P fn ht = true ∧ cFn P cf fn p.1 ht = some c0 ∧ (c0 = p.2 ∨ Sh P cf.u8 c0 p.2 p.1 [] none)

def TmAll {α : Type} (p : Nat → α → Prop) : Tm α → Prop
  | .e => True
  | .n v l r => (match v with | some a => p 0 a | none => True) ∧ TmAll (fun j => p (2 * j + 1)) l ∧ TmAll (fun j => p (2 * j + 2)) r

theorem TmAll.get {α : Type} : ∀ {t : Tm α} {p : Nat → α → Prop} {i : Nat} {a : α}, TmAll p t → t.get i = some a → p i a
  | .e, _, _, _, _, h => by cases h
  | .n v l r, p, i, a, hp, h => by
    obtain ⟨h1, h2, h3⟩ := hp
    cases i with
    | zero =>
      simp only [Tm.get] at h
      subst h
      exact h1
    | succ j =>
      simp only [Tm.get] at h
      have hj : Nat.land j 1 = j % 2 := Nat.and_one_is_mod j
      have hd : Nat.div j 2 = j / 2 := rfl
      cases hb : Nat.beq (Nat.land j 1) 0 with
      | true =>
        rw [hb] at h
        have e : j % 2 = 0 := by rw [← hj]; exact Nat.eq_of_beq_eq_true hb
        have := TmAll.get h2 h
        simp only [hd] at this
        rwa [show 2 * (j / 2) + 1 = j + 1 by omega] at this
      | false =>
        rw [hb] at h
        have e : j % 2 ≠ 0 := by
          rw [← hj]
          intro e
          rw [e] at hb
          cases hb
        have := TmAll.get h3 h
        simp only [hd] at this
        rwa [show 2 * (j / 2) + 2 = j + 1 by omega] at this

def TQ (P : Program) (cf : Cf) (tb : Tm (Nat × FC)) : Prop := ∀ f p, tb.get f = some p → FnQ P cf f p

theorem callQ_ok {P : Program} {cf : Cf} {ext : Caller} {tb : Tm (Nat × FC)} {fuel : Nat} (hm : P.follows .mixedOrders = true) (ht : TQ P cf tb) (hp : PrOK P cf) (he : ClOK P cf ext) : ∀ m, ClOK P cf (callQ P cf.u8 ext tb fuel m)
  | 0 => fun f args H r h => by cases h
  | m + 1 => by
    intro f args H r h
    have h : Option.rec (motive := fun _ => RO) (ext f args H) (fun p => Prod.rec (motive := fun _ => RO) (fun n c => gR (lenIs n args) (runCq c P cf.u8 (callQ P cf.u8 ext tb fuel m) fuel args [] (fun _ _ => none) H)) p) (tb.get f) = some r := h
    cases htb : tb.get f with
    | none => rw [htb] at h; exact he f args H r h
    | some p =>
      rw [htb] at h
      obtain ⟨n, fc⟩ := p
      simp only [gR_eq] at h
      cases hn : lenIs n args with
      | false => rw [hn] at h; cases h
      | true =>
        rw [hn] at h
        simp only [cond_true] at h
        obtain ⟨fn, hint, c0, t1, t2, t4, t5⟩ := ht f _ htb
        have hlen : args.length = n := Nat.eq_of_beq_eq_true hn
        have hrun : runC c0 P cf.u8 (callQ P cf.u8 ext tb fuel m) fuel args [] (fun _ _ => none) H = some r := by
          rw [← runCq_eq]
          rcases t5 with e | e
          · subst e; exact h
          · rw [← h]
            exact (e.same _ _ args [] [] (fun _ _ => none) (fun _ _ => none) H hlen (fun d m hd => by cases hd) (fun m hm => by cases hm)).symm
        simp only [okFn, Bool.and_eq_true, Bool.not_eq_true'] at t2
        obtain ⟨t2, t3⟩ := t2
        cases hb : fn.body with
        | none => rw [hb] at t3; cases t3
        | some c =>
          rw [hb] at t3
          simp only at t3 t4
          rw [← hlen] at t4
          rw [cFn_ok hb t4] at hrun
          refine ⟨⟨fn, c, t1, hb, t2⟩, fun base φ w cargs hr hg hv => ?_⟩
          refine calls_of_wp t1 hb ?_
          have post : ∀ (Q : Exit), (Q = .normal ∨ Q = .ret) → Then (cargs ++ Array.replicate (fn.ntmps - cargs.size) undef).size base φ H w r (fun env H => resP P fn.results env H) (bodyPost P fn (Res base φ H w r) Q) := by
            intro Q hQ env' H' φ' w' a' h1 h2 h3
            obtain ⟨cv, g1, g2, g3⟩ := resP_ok h3.env h2.rel h1
            have : a'.defers = [] ∧ ∃ v, (results fn a'.tmps).run P w' = .ok v w' ∧ Res base φ H w r (.returned v) w' := ⟨h3.nod, cv, g1, φ', by rw [g2]; exact h2, g3⟩
            rcases hQ with e | e <;> subst e <;> exact this
          refine cc_ok (n := (cargs ++ Array.replicate (fn.ntmps - cargs.size) undef).size) hm (callQ_ok hm ht hp he m) hp c hint (argE 0 args) _ [] _ H φ w _ _ (codeOK_mono (by simp; omega) t3) hg hr ⟨?_, rfl, rfl⟩ hrun (post .normal (.inl rfl)) (post .ret (.inr rfl)) (fun id K hk => by cases hk)
          refine argE_ok hv fun j cv hj => ?_
          rw [Nat.zero_add]
          have hlt : j < cargs.size := by
            have := (List.getElem?_eq_some_iff.1 hj).1
            simpa using this
          rw [Array.getElem?_append_left hlt]
          simpa using hj

/-- No other calls. -/
theorem noExt_ok {P : Program} {cf : Cf} : ClOK P cf (fun _ _ _ => none) := fun f args H r h => by cases h

end Go.Proofs.YtlpfhodieopmhaaGreatDoor.Ae

namespace Go.Proofs.YtlpfhodieopmhaaGreatDoor.Ae
open Go.RowKit

theorem laid_mem {P : Program} {w : World} : ∀ {l : List (String × DataW Unit)} {ps : List MemPlace}, DataW.LaidVars P w l ps → ∀ {n : String} {d : DataW Unit}, (n, d) ∈ l →
    ∃ g t cs fuel p, P.globalNamed n = some g ∧ (P.globals[g]?).map (·.type) = some t ∧ w.var? P n = some cs ∧ DataW.trod (fun _ => ()) P w 0 (fun _ => true) false fuel t cs.toList = some (d, p)
  | [], _, _, _, _, hm => by cases hm
  | (n', d') :: r, ps, h, n, d, hm => by
    obtain ⟨g, t, cs, fuel, p, q, h1, h2, h3, h4, h5, _⟩ := h
    rcases List.mem_cons.1 hm with e | e
    · cases e
      exact ⟨g, t, cs, fuel, p, h1, h2, h3, h4⟩
    · exact laid_mem h5 e

theorem cells_of_strs {H : Type} {enc : TypeId × Value → H} {P : Program} {w : World} {base : Nat} {sp : Nat → Bool} {held : Bool} {fuel : Nat} {t e : TypeId} {n : Nat} {cs : List Value} {zs : List (List UInt8)} {p : List MemPlace}
    (ht : P.underlying t = some (.array n e)) (he : P.underlying e = some .string) (hce : P.cellsOf e = 1) (hct : P.cellsOf t = n)
    (h : DataW.trod enc P w base sp held fuel t cs = some (.agg (zs.map fun z => .lit (.string z)), p)) : cs = zs.map fun z => Value.string (bytes z) := by
  cases fuel with
  | zero => simp [DataW.trod] at h
  | succ fuel =>
    simp only [DataW.trod, ht, hce, hct, Nat.mul_one] at h
    split at h
    · rename_i hl
      obtain ⟨xs, hm, hx⟩ := Option.map_eq_some_iff.1 h
      have hxs : xs.map (·.1) = zs.map fun z => (DataW.lit (.string z) : DataW H) := by
        have := congrArg Prod.fst hx
        simpa using this
      have hxl : xs.length = n := by simpa using Lib.mapM_length hm
      have hzl : zs.length = n := by
        have := congrArg List.length hxs
        simp at this
        omega
      apply List.ext_getElem?
      intro i
      by_cases hi : i < n
      · obtain ⟨b, hb, hf⟩ := Lib.mapM_at hm i i (by simp [hi])
        obtain ⟨s, hc, rfl, _⟩ := DataW.trod_string he hf
        have h1 : cs[i]? = some (.string s) := by
          have := congrArg (·[0]?) hc
          simpa [List.getElem?_take, List.getElem?_drop] using this
        have h2 : (xs.map (·.1))[i]? = some (DataW.lit (.string s.data.toList) : DataW H) := by simp [hb]
        rw [hxs] at h2
        simp only [List.getElem?_map, Option.map_eq_some_iff, DataW.lit.injEq, Lit.string.injEq] at h2
        obtain ⟨z', hz', e'⟩ := h2
        have : s = bytes z' := by
          rw [e']
          rfl
        simp [h1, hz', this]
      · rw [List.getElem?_eq_none (by omega), List.getElem?_eq_none (by simp; omega)]
    · cases h

/-- A first heap: of the variables one, a row of texts. -/
noncomputable def hOne (g ng e : Nat) (zs : List (List UInt8)) : AH := ⟨Tm.set .e g (some ⟨.n (some (zs.map AV.str)) .e .e, 1, zs.length, e, true, 0, false⟩), ng⟩

theorem hOne_rel {w : World} {g ng e : Nat} {zs : List (List UInt8)} {fr : Nat × Nat} (hlt : g < ng) (hng : ng ≤ w.heap.size) (hc : w.heap[g]? = some (.cells (zs.map fun z => Value.string (bytes z)).toArray e fr)) :
    Rel w.heap.size (glob ng fun _ => zs.length) (hOne g ng e zs) w := by
  refine Rel.init rfl hng fun b o ho => ?_
  have hb : b = g := by
    rcases Nat.decEq b g with h | h
    · have : Tm.get (Tm.set (.e : Tm AObj) g (some ⟨.n (some (zs.map AV.str)) .e .e, 1, zs.length, e, true, 0, false⟩)) b = none := by
        rw [Tm.get_set, if_neg h]; rfl
      rw [hOne] at ho
      rw [this] at ho
      cases ho
    · exact h
  subst hb
  have : Tm.get (Tm.set (.e : Tm AObj) b (some ⟨.n (some (zs.map AV.str)) .e .e, 1, zs.length, e, true, 0, false⟩)) b = some ⟨.n (some (zs.map AV.str)) .e .e, 1, zs.length, e, true, 0, false⟩ := by rw [Tm.get_set, if_pos rfl]
  rw [hOne] at ho
  rw [this] at ho
  cases ho
  refine ⟨hlt, rfl, ?_, ?_, ?_, ?_, ?_, ?_⟩
  · simp [World.shape?, hc]
  · intro i hi
    refine ⟨.string (bytes (zs[i]'hi)), ?_, rfl⟩
    simp [World.cell?, hc, hi]
  · simp
  · intro r row c x v hr hcl hrow hx hcell
    obtain rfl : r = 0 := by
      have : r < 1 := hr
      omega
    simp only [Tm.get, Option.some.injEq] at hrow
    subst hrow
    rw [List.getElem?_map, Option.map_eq_some_iff] at hx
    obtain ⟨z, hz, rfl⟩ := hx
    simp only [World.cell?, hc, Nat.zero_mul, Nat.zero_add] at hcell
    simp only [V]
    simp [hz] at hcell
    exact hcell.symm
  · intro h; cases h
  · intro h; cases h

/-- A datum's cells. -/
noncomputable def flatV (d : DataW Unit) : List Value := match d with
  | .lit (.int k n) => [.int k n]
  | .lit (.string b) => [.string ⟨b.toArray⟩]
  | .lit (.bool b) => [.bool b]
  | .agg ps => flatA ps
  | _ => []
  where flatA : List (DataW Unit) → List Value
  | [] => []
  | d :: r => flatV d ++ flatA r

end Go.Proofs.YtlpfhodieopmhaaGreatDoor.Ae
namespace Go.Proofs.YtlpfhodieopmhaaGreatDoor.Ae
def cmps : List (List UInt8) := [[61, 61], [33, 61], [60], [60, 61], [62], [62, 61]]

theorem isTrue_some {r : RO} (h : isTrue r = true) : ∃ p, r = some p ∧ p.1 = .bool true := by
  cases r with
  | none => cases h
  | some p =>
    refine ⟨p, rfl, ?_⟩
    simp only [isTrue] at h
    split at h
    · rename_i b hb
      rw [hb, h]
    · cases h
end Go.Proofs.YtlpfhodieopmhaaGreatDoor.Ae

namespace Go.Proofs.YtlpfhodieopmhaaGreatDoor.Ae
open Go.RowKit

theorem RelO.same {φ : Lay} {w w' : World} {o : AObj} {B sh N : Nat} (h : RelO φ w o B sh N) (hb : w'.heap[B]? = w.heap[B]?) : RelO φ w' o B sh N := by
  have hs : w'.shape? B = w.shape? B := by simp only [World.shape?, hb]
  have hc : ∀ i, w'.cell? ⟨B, i, none⟩ = w.cell? ⟨B, i, none⟩ := fun i => by simp only [World.cell?, hb]
  have hf : ∀ i, w'.frozen? ⟨B, i, none⟩ = w.frozen? ⟨B, i, none⟩ := fun i => by simp only [World.frozen?, hb]
  refine ⟨by rw [hs]; exact h.shape, fun i hi => ?_, h.fits, fun r row c x v h1 h2 h3 h4 h5 => ?_, h.whole, fun h1 i h2 h3 => ?_⟩
  · rw [hc]; exact h.cell i hi
  · rw [hc] at h5; exact h.holds r row c x v h1 h2 h3 h4 h5
  · rw [hf]; exact h.free h1 i h2 h3

theorem Rel.same {base : Nat} {φ : Lay} {H : AH} {w w' : World} (h : Rel base φ H w) (hw : Below w.heap.size w w') : Rel base φ H w' :=
  ⟨fun b o B sh N h1 h2 => (h.obj b o B sh N h1 h2).same (hw.block B (h.lt b o B sh N h1 h2)), h.own, h.inj, h.next,
    fun b o B sh N h1 h2 => Nat.lt_of_lt_of_le (h.lt b o B sh N h1 h2) hw.size, Nat.le_trans h.base hw.size⟩

/-- Is it a row of these texts? -/
def rowIs : List AV → List (List UInt8) → Bool
  | [], zs => zs.isEmpty
  | a :: r, zs => match zs with
    | [] => false
    | z :: zs => (match a with | .str s => eqB s z | _ => false) && rowIs r zs

theorem eqB_same : ∀ {a b : List UInt8}, eqB a b = true → a = b
  | [], [], _ => rfl
  | x :: xs, y :: ys, h => by
    simp only [eqB, Bool.and_eq_true] at h
    have := UInt8.toNat_inj.1 (Nat.eq_of_beq_eq_true h.1)
    rw [this, eqB_same h.2]

theorem rowIs_eq : ∀ {r : List AV} {zs : List (List UInt8)}, rowIs r zs = true → r = zs.map AV.str
  | [], zs, h => by
    cases zs with
    | nil => rfl
    | cons z zs => cases h
  | a :: r, zs, h => by
    cases zs with
    | nil => cases h
    | cons z zs =>
      simp only [rowIs, Bool.and_eq_true] at h
      obtain ⟨h1, h2⟩ := h
      cases a <;> simp only at h1 <;> try (cases h1; done)
      rw [eqB_same h1, rowIs_eq h2]
      rfl

theorem Rel.init1 {ng : Nat} {N : Nat → Nat} {H : AH} {w : World} (hn : H.next = ng) (hobj : ∀ b o, H.objs.get b = some o → b < ng ∧ o.ro = true ∧ b < w.heap.size ∧ RelO (glob ng N) w o b 0 (N b)) : Rel w.heap.size (glob ng N) H w := by
  have at' : ∀ {b o B sh M}, H.objs.get b = some o → glob ng N b = some (B, sh, M) → B = b ∧ sh = 0 ∧ M = N b ∧ b < ng := fun {b o B sh M} h1 h2 => by
    have h3 := (hobj b o h1).1
    simp only [glob, h3, if_true, Option.some.injEq, Prod.mk.injEq] at h2
    exact ⟨h2.1.symm, h2.2.1.symm, h2.2.2.symm, h3⟩
  refine ⟨fun b o B sh M h1 h2 => ?_, fun b o B sh M h1 h2 h3 => ?_, fun b o b' o' B sh M sh' M' h1 h2 h3 h4 h5 => ?_, fun b hb => ?_, fun b o B sh M h1 h2 => ?_, Nat.le_refl _⟩
  · obtain ⟨rfl, rfl, rfl, _⟩ := at' h1 h2
    exact (hobj _ o h1).2.2.2
  · rw [(hobj b o h1).2.1] at h3; cases h3
  · rw [(hobj b o h1).2.1] at h5; cases h5
  · refine ⟨?_, by simp [glob]; omega⟩
    cases h : H.objs.get b with
    | none => rfl
    | some o => have := (hobj b o h).1; omega
  · obtain ⟨rfl, rfl, rfl, h3⟩ := at' h1 h2
    exact (hobj _ o h1).2.2.1

def objIs (o : AObj) (zs : List (List UInt8)) : Bool := Nat.beq o.n 1 && Nat.beq o.es zs.length && match o.rows.get 0 with
  | some row => rowIs row zs
  | none => false

/-- The call of function fA without arguments, where variable g holds these texts. -/
noncomputable def extA (fA g : Nat) (zs : List (List UInt8)) : Caller := fun f args H =>
  gR (Nat.beq f fA) (List.rec (motive := fun _ => RO) (getK H.objs g fun o => gR (objIs o zs) (some (.bool true, H))) (fun _ _ _ => none) args)

theorem extA_ok {P : Program} {cf : Cf} {cl : Caller} {fA g : Nat} {zs : List (List UInt8)} (hcl : ClOK P cf cl) (hg : g < cf.ng) (hrun : ∀ e, isTrue (cl fA [] (hOne g cf.ng e zs)) = true) : ClOK P cf (extA fA g zs) := by
  intro f args H r h
  simp only [extA, gR_eq] at h
  cases hf : Nat.beq f fA with
  | false => rw [hf] at h; cases h
  | true =>
    rw [hf] at h
    obtain rfl := Nat.eq_of_beq_eq_true hf
    simp only [cond_true] at h
    cases args with
    | cons a t => cases h
    | nil =>
      simp only [getK_eq] at h
      cases ho : H.objs.get g with
      | none => rw [ho] at h; cases h
      | some o =>
        rw [ho] at h
        simp only [gR_eq] at h
        cases hi : objIs o zs with
        | false => rw [hi] at h; cases h
        | true =>
          rw [hi] at h
          simp only [cond_true, Option.some.injEq] at h
          subst h
          simp only [objIs, Bool.and_eq_true] at hi
          obtain ⟨⟨hn, hes⟩, hrow⟩ := hi
          have hn := Nat.eq_of_beq_eq_true hn
          have hes := Nat.eq_of_beq_eq_true hes
          cases hr0 : o.rows.get 0 with
          | none => rw [hr0] at hrow; cases hrow
          | some row =>
            rw [hr0] at hrow
            have hrow := rowIs_eq hrow
            obtain ⟨p0, hp0, _⟩ := isTrue_some (hrun 0)
            refine ⟨(hcl _ _ _ _ hp0).1, fun base φ w cargs hr hgl hv => ?_⟩
            obtain ⟨N, hφ⟩ := hgl g hg
            have hO := hr.obj g o g 0 N ho hφ
            have hlt := hr.lt g o g 0 N ho hφ
            have hrel : Rel w.heap.size (glob cf.ng fun _ => N) (hOne g cf.ng o.elem zs) w := by
              refine Rel.init1 rfl fun b o' ho' => ?_
              · have hb : b = g := by
                  rcases Nat.decEq b g with h | h
                  · rw [hOne] at ho'
                    simp only at ho'
                    rw [Tm.get_set, if_neg h] at ho'
                    cases ho'
                  · exact h
                subst hb
                rw [hOne] at ho'
                simp only at ho'
                rw [Tm.get_set, if_pos rfl] at ho'
                cases ho'
                refine ⟨hg, rfl, hlt, hO.shape, hO.cell, ?_, fun r row' c x v h1 h2 h3 h4 h5 => ?_, (fun e => by cases e), (fun e => by cases e)⟩
                · have := hO.fits
                  rw [hn, hes] at this
                  exact this
                · obtain rfl : r = 0 := by
                    have : r < 1 := h1
                    omega
                  simp only [Tm.get, Option.some.injEq] at h3
                  subst h3
                  rw [List.getElem?_map, Option.map_eq_some_iff] at h4
                  obtain ⟨z, hz, rfl⟩ := h4
                  have hx : row[c]? = some (.str z) := by rw [hrow, List.getElem?_map, hz]; rfl
                  have := hO.holds 0 row c (.str z) v (by rw [hn]; exact Nat.one_pos) (by rw [hes]; exact h2) hr0 hx (by rw [hes]; exact h5)
                  simpa only [V] using this
            obtain ⟨p, hp, hpt⟩ := isTrue_some (hrun o.elem)
            obtain rfl : cargs = #[] := by
              simp only [VL] at hv
              cases cargs
              simp_all
            refine (calls_bool ((hcl _ _ _ _ hp).2 w.heap.size _ w #[] hrel (glob_ok cf.ng _) (by simp only [VL])) hpt).mono fun e w' ⟨he, hb⟩ => ?_
            subst he
            exact ⟨φ, ⟨Lay.le_refl _, hr.same hb, hb.mono hr.base, Nat.le_refl _, fun _ _ h => ⟨h, rfl⟩⟩, by simp only [V]⟩

end Go.Proofs.YtlpfhodieopmhaaGreatDoor.Ae
namespace Go.Proofs.YtlpfhodieopmhaaGreatDoor.Ae
theorem TQ.drop {P : Program} {cf : Cf} {tb : Tm (Nat × FC)} (h : TQ P cf tb) (g : Nat) : TQ P cf (setR tb g none) := by
  intro f p hp
  rw [setR_eq, Tm.get_set] at hp
  split at hp
  · cases hp
  · exact h f p hp
end Go.Proofs.YtlpfhodieopmhaaGreatDoor.Ae

