/-
  The first parts of a function's code, and what follows them.
-/
import Derived.Test.YtlpfhodieopmhaaGreatDoorHT
set_option linter.unusedVariables false
set_option linter.unusedSimpArgs false
set_option linter.unusedSectionVars false
set_option linter.unnecessarySimpa false
namespace Go.Proofs.YtlpfhodieopmhaaGreatDoor.Ae
open Go.Proofs
noncomputable def tlC (c : FC) : FC := FC.rec (motive := fun _ => FC) .sk (fun _ => .sk) (fun _ _ => .sk) (fun _ _ => .sk) (fun _ b _ _ => b) (fun _ _ _ _ _ => .sk) (fun _ _ _ _ _ _ => .sk) (fun _ _ _ => .sk) (fun _ _ _ _ => .sk) (fun _ => .sk) (fun _ => .sk) c
noncomputable def hdC (c : FC) : FC := FC.rec (motive := fun _ => FC) .sk (fun _ => .sk) (fun _ _ => .sk) (fun _ _ => .sk) (fun a _ _ _ => a) (fun _ _ _ _ _ => .sk) (fun _ _ _ _ _ _ => .sk) (fun _ _ _ => .sk) (fun _ _ _ _ => .sk) (fun _ => .sk) (fun _ => .sk) c

theorem callQ_some {P : Program} {u : Nat} {ext : Caller} {tb : Tm (Nat × FC)} {fuel m f n : Nat} {c : FC} {args : List AV} {H : AH} (h : tb.get f = some (n, c)) (hn : lenIs n args = true) :
    callQ P u ext tb fuel (m + 1) f args H = runCq c P u (callQ P u ext tb fuel m) fuel args [] (fun _ _ => none) H := by
  show Option.rec (motive := fun _ => RO) (ext f args H) (fun p => Prod.rec (motive := fun _ => RO) (fun n c => gR (lenIs n args) (runCq c P u (callQ P u ext tb fuel m) fuel args [] (fun _ _ => none) H)) p) (tb.get f) = _
  rw [h]
  show gR (lenIs n args) _ = _
  rw [hn]
  rfl
end Go.Proofs.YtlpfhodieopmhaaGreatDoor.Ae
namespace Go.Proofs.YtlpfhodieopmhaaGreatDoor.Ae
theorem rg_run (is : List FI) (sel : List Nat) (P : Program) (u : Nat) (c : Caller) (n : Nat) (l : List AV) (Kx : List KL) (K : KL) (H : AH) : runCq (.rg is sel) P u c n l Kx K H = runRq is P u c l H fun l H => selV sel l fun vs => K vs H := rfl
theorem sq_run (a b : FC) (P : Program) (u : Nat) (c : Caller) (n : Nat) (l : List AV) (Kx : List KL) (K : KL) (H : AH) : runCq (.sq a b) P u c n l Kx K H = runCq a P u c n l Kx (fun l H => runCq b P u c n l Kx K H) H := rfl
theorem rq_cons (i : FI) (is : List FI) (P : Program) (u : Nat) (c : Caller) (l : List AV) (H : AH) (k : KL) : runRq (i :: is) P u c l H k = runIq i P u c l H fun l H => runRq is P u c l H k := rfl
theorem rq_nil (P : Program) (u : Nat) (c : Caller) (l : List AV) (H : AH) (k : KL) : runRq [] P u c l H k = k l H := rfl
theorem oi_run (x : FO) (P : Program) (u : Nat) (c : Caller) (l : List AV) (H : AH) (k : KL) : runIq (oi x) P u c l H k = runOq x P u c l H fun v H => k (v :: l) H := rfl
theorem mv_run (x : FX) (P : Program) (u : Nat) (c : Caller) (l : List AV) (H : AH) (k : KV) : runOq (.mv x) P u c l H k = evF x l fun v => k v H := rfl
theorem ci_run (i : IntKind) (x : FX) (P : Program) (u : Nat) (c : Caller) (l : List AV) (H : AH) (k : KV) : runOq (.ci i x) P u c l H k = evF x l fun a => cvI i a fun v => k v H := rfl
theorem bi_run (o : BinOp) (x y : FX) (P : Program) (u : Nat) (c : Caller) (l : List AV) (H : AH) (k : KV) : runOq (.bi o x y) P u c l H k = evF x l fun a => evF y l fun b => binR o a b fun v => k v H := rfl
theorem ev0 (v : AV) (l : List AV) (k : AV → RO) : evF x0 (v :: l) k = k v := rfl
theorem ev1 (a v : AV) (l : List AV) (k : AV → RO) : evF x1 (a :: v :: l) k = k v := rfl
theorem evc (a : AV) (l : List AV) (k : AV → RO) : evF (.c a) l k = k a := rfl
theorem ci_int (i j : IntKind) (n : Int) (q : AV → RO) : cvI i (.int j n) q = q (.int i (wrapF i n)) := rfl
theorem rem_int (j : IntKind) (a : Int) (m : Nat) (hm : eqI (.ofNat m) 0 = false) (hj : eqK j j = true) (q : AV → RO) : binR .rem (.int j a) (.int j (.ofNat m)) q = q (.int j (Int.tmod a (.ofNat m))) := by
  rw [binR_eq]
  simp only [binP, binV, binW, binI, hj, hm, cond_true, cond_false]
end Go.Proofs.YtlpfhodieopmhaaGreatDoor.Ae
