/- Part 3 of the means of the proof: a verified abstract evaluator, the prepared functions, and contracts of functions. It states nothing of the claim by itself. -/
import Derived.Test.YtiamdlnhojodjaaDoorB2
import Derived.KernelRfl
import Derived.Test.YtiamdlnhojodjaaDoorProg
set_option maxRecDepth 4000
set_option linter.unusedSimpArgs false
set_option linter.unusedVariables false
namespace Go.Abs
open Go
theorem Z.{u} {α : Sort u} {a : α} : a = a := rfl
theorem qB : (∀ (p : Prop) [Decidable p], (decide p = true) = p) /\ (∀ (p : Prop) [Decidable p], (decide p = false) ↔ ¬ p) /\ (∀ a b : Bool, ((!a) = b) = (a = !b)) /\ (!true) = false /\ (!false) = true := ⟨fun _ _ => decide_eq_true_eq, fun _ _ => decide_eq_false_iff_not, fun a b => by simp, rfl, rfl⟩
theorem qA : (∀ (p : Prop) [Decidable p], (decide p = true) = p) /\ (∀ (p : Prop) [Decidable p], (decide p = false) ↔ ¬ p) /\ (∀ a b : Bool, ((!a) = b) = (a = !b)) /\ (!true) = false /\ (!false) = true /\ (∀ (α β : Type) (f : α -> β) (l : List α), (l.map f).length = l.length) := ⟨qB.1, qB.2.1, qB.2.2.1, rfl, rfl, fun _ _ _ _ => List.length_map _⟩
theorem qa {p : Prop} [Decidable p] : (decide p = true) = p := decide_eq_true_eq
theorem qb {p : Prop} [Decidable p] : (decide p = false) ↔ ¬ p := decide_eq_false_iff_not
theorem qc {a b : Bool} : ((!a) = b) = (a = !b) := by simp
theorem qd : (!true) = false := rfl
theorem qe : (!false) = true := rfl
section
variable {fr : QaE} {t0 t1 t2 t3 t4 t5 t6 t7 t8 t9 t10 t11 t12 t13 t14 t15 t16 t17 t18 t19 t20 t21 t22 t23 : Nat} {d0 d1 d2 d3 d4 d5 d6 d7 d8 d9 d10 d11 d12 d13 d14 d15 d16 d17 d18 d19 d20 d21 d22 d23 : D}
abbrev kE (fr : QaE) (t : Nat) (d : D) : Prop := lk fr t = some d
theorem kp1 (h0 : kE fr t0 d0) : Zl [t0] fr = [(t0, d0)] := Q5 h0 QZ
theorem kp2 (h0 : kE fr t0 d0) (h1 : kE fr t1 d1) : Zl [t0, t1] fr = [(t0, d0), (t1, d1)] := Q5 h0 (kp1 h1)
theorem kp3 (h0 : kE fr t0 d0) (h1 : kE fr t1 d1) (h2 : kE fr t2 d2) : Zl [t0, t1, t2] fr = [(t0, d0), (t1, d1), (t2, d2)] := Q5 h0 (kp2 h1 h2)
theorem kp4 (h0 : kE fr t0 d0) (h1 : kE fr t1 d1) (h2 : kE fr t2 d2) (h3 : kE fr t3 d3) : Zl [t0, t1, t2, t3] fr = [(t0, d0), (t1, d1), (t2, d2), (t3, d3)] := Q5 h0 (kp3 h1 h2 h3)
theorem kp5 (h0 : kE fr t0 d0) (h1 : kE fr t1 d1) (h2 : kE fr t2 d2) (h3 : kE fr t3 d3) (h4 : kE fr t4 d4) : Zl [t0, t1, t2, t3, t4] fr = [(t0, d0), (t1, d1), (t2, d2), (t3, d3), (t4, d4)] := Q5 h0 (kp4 h1 h2 h3 h4)
theorem kp6 (h0 : kE fr t0 d0) (h1 : kE fr t1 d1) (h2 : kE fr t2 d2) (h3 : kE fr t3 d3) (h4 : kE fr t4 d4) (h5 : kE fr t5 d5) : Zl [t0, t1, t2, t3, t4, t5] fr = [(t0, d0), (t1, d1), (t2, d2), (t3, d3), (t4, d4), (t5, d5)] := Q5 h0 (kp5 h1 h2 h3 h4 h5)
theorem kp7 (h0 : kE fr t0 d0) (h1 : kE fr t1 d1) (h2 : kE fr t2 d2) (h3 : kE fr t3 d3) (h4 : kE fr t4 d4) (h5 : kE fr t5 d5) (h6 : kE fr t6 d6) : Zl [t0, t1, t2, t3, t4, t5, t6] fr = [(t0, d0), (t1, d1), (t2, d2), (t3, d3), (t4, d4), (t5, d5), (t6, d6)] := Q5 h0 (kp6 h1 h2 h3 h4 h5 h6)
theorem kp8 (h0 : kE fr t0 d0) (h1 : kE fr t1 d1) (h2 : kE fr t2 d2) (h3 : kE fr t3 d3) (h4 : kE fr t4 d4) (h5 : kE fr t5 d5) (h6 : kE fr t6 d6) (h7 : kE fr t7 d7) : Zl [t0, t1, t2, t3, t4, t5, t6, t7] fr = [(t0, d0), (t1, d1), (t2, d2), (t3, d3), (t4, d4), (t5, d5), (t6, d6), (t7, d7)] := Q5 h0 (kp7 h1 h2 h3 h4 h5 h6 h7)
theorem kp9 (h0 : kE fr t0 d0) (h1 : kE fr t1 d1) (h2 : kE fr t2 d2) (h3 : kE fr t3 d3) (h4 : kE fr t4 d4) (h5 : kE fr t5 d5) (h6 : kE fr t6 d6) (h7 : kE fr t7 d7) (h8 : kE fr t8 d8) : Zl [t0, t1, t2, t3, t4, t5, t6, t7, t8] fr = [(t0, d0), (t1, d1), (t2, d2), (t3, d3), (t4, d4), (t5, d5), (t6, d6), (t7, d7), (t8, d8)] := Q5 h0 (kp8 h1 h2 h3 h4 h5 h6 h7 h8)
theorem TB (h0 : kE fr t0 d0) (h1 : kE fr t1 d1) (h2 : kE fr t2 d2) (h3 : kE fr t3 d3) (h4 : kE fr t4 d4) (h5 : kE fr t5 d5) (h6 : kE fr t6 d6) (h7 : kE fr t7 d7) (h8 : kE fr t8 d8) (h9 : kE fr t9 d9) : Zl [t0, t1, t2, t3, t4, t5, t6, t7, t8, t9] fr = [(t0, d0), (t1, d1), (t2, d2), (t3, d3), (t4, d4), (t5, d5), (t6, d6), (t7, d7), (t8, d8), (t9, d9)] := Q5 h0 (kp9 h1 h2 h3 h4 h5 h6 h7 h8 h9)
theorem Hy (h0 : kE fr t0 d0) (h1 : kE fr t1 d1) (h2 : kE fr t2 d2) (h3 : kE fr t3 d3) (h4 : kE fr t4 d4) (h5 : kE fr t5 d5) (h6 : kE fr t6 d6) (h7 : kE fr t7 d7) (h8 : kE fr t8 d8) (h9 : kE fr t9 d9) (h10 : kE fr t10 d10) : Zl [t0, t1, t2, t3, t4, t5, t6, t7, t8, t9, t10] fr = [(t0, d0), (t1, d1), (t2, d2), (t3, d3), (t4, d4), (t5, d5), (t6, d6), (t7, d7), (t8, d8), (t9, d9), (t10, d10)] := Q5 h0 (TB h1 h2 h3 h4 h5 h6 h7 h8 h9 h10)
theorem M5 (h0 : kE fr t0 d0) (h1 : kE fr t1 d1) (h2 : kE fr t2 d2) (h3 : kE fr t3 d3) (h4 : kE fr t4 d4) (h5 : kE fr t5 d5) (h6 : kE fr t6 d6) (h7 : kE fr t7 d7) (h8 : kE fr t8 d8) (h9 : kE fr t9 d9) (h10 : kE fr t10 d10) (h11 : kE fr t11 d11) : Zl [t0, t1, t2, t3, t4, t5, t6, t7, t8, t9, t10, t11] fr = [(t0, d0), (t1, d1), (t2, d2), (t3, d3), (t4, d4), (t5, d5), (t6, d6), (t7, d7), (t8, d8), (t9, d9), (t10, d10), (t11, d11)] := Q5 h0 (Hy h1 h2 h3 h4 h5 h6 h7 h8 h9 h10 h11)
theorem Dk (h0 : kE fr t0 d0) (h1 : kE fr t1 d1) (h2 : kE fr t2 d2) (h3 : kE fr t3 d3) (h4 : kE fr t4 d4) (h5 : kE fr t5 d5) (h6 : kE fr t6 d6) (h7 : kE fr t7 d7) (h8 : kE fr t8 d8) (h9 : kE fr t9 d9) (h10 : kE fr t10 d10) (h11 : kE fr t11 d11) (h12 : kE fr t12 d12) : Zl [t0, t1, t2, t3, t4, t5, t6, t7, t8, t9, t10, t11, t12] fr = [(t0, d0), (t1, d1), (t2, d2), (t3, d3), (t4, d4), (t5, d5), (t6, d6), (t7, d7), (t8, d8), (t9, d9), (t10, d10), (t11, d11), (t12, d12)] := Q5 h0 (M5 h1 h2 h3 h4 h5 h6 h7 h8 h9 h10 h11 h12)
theorem C0 (h0 : kE fr t0 d0) (h1 : kE fr t1 d1) (h2 : kE fr t2 d2) (h3 : kE fr t3 d3) (h4 : kE fr t4 d4) (h5 : kE fr t5 d5) (h6 : kE fr t6 d6) (h7 : kE fr t7 d7) (h8 : kE fr t8 d8) (h9 : kE fr t9 d9) (h10 : kE fr t10 d10) (h11 : kE fr t11 d11) (h12 : kE fr t12 d12) (h13 : kE fr t13 d13) : Zl [t0, t1, t2, t3, t4, t5, t6, t7, t8, t9, t10, t11, t12, t13] fr = [(t0, d0), (t1, d1), (t2, d2), (t3, d3), (t4, d4), (t5, d5), (t6, d6), (t7, d7), (t8, d8), (t9, d9), (t10, d10), (t11, d11), (t12, d12), (t13, d13)] := Q5 h0 (Dk h1 h2 h3 h4 h5 h6 h7 h8 h9 h10 h11 h12 h13)
end
section
variable {P : Program} {nt : Nat} {Q : Z8 -> St -> Prop} {l : List Nat} {b : TCode} {K : St -> Prop} {H : QaD} {fr fr' : QaE} {r : List AOper} {dr : Dr} {x y z v : Opd} {p q : D} {t u : Nat}
variable {t0 t1 t2 t3 t4 t5 t6 t7 t8 : Nat} {d0 d1 d2 d3 d4 d5 d6 d7 d8 : D}
theorem kc (hK : ∀ fr H, TW P nt b Q ⟨Zl l fr, H⟩ -> K ⟨fr, H⟩) (h : Zl l fr = fr') (k : TW P nt b Q ⟨fr', H⟩) : K ⟨fr, H⟩ := hK _ _ (Xz h k)
theorem kc1 (hK : ∀ fr H, TW P nt b Q ⟨Zl [t0] fr, H⟩ -> K ⟨fr, H⟩) (h0 : kE fr t0 d0) (k : TW P nt b Q ⟨[(t0, d0)], H⟩) : K ⟨fr, H⟩ := kc hK (kp1 h0) k
theorem ks1 (h0 : kE fr t0 d0) (k : TW P nt b Q ⟨[(t0, d0)], H⟩) : Rg P nt [t0] b Q .normal ⟨fr, H⟩ := QM (kp1 h0) k
theorem kc2 (hK : ∀ fr H, TW P nt b Q ⟨Zl [t0, t1] fr, H⟩ -> K ⟨fr, H⟩) (h0 : kE fr t0 d0) (h1 : kE fr t1 d1) (k : TW P nt b Q ⟨[(t0, d0), (t1, d1)], H⟩) : K ⟨fr, H⟩ := kc hK (kp2 h0 h1) k
theorem ks2 (h0 : kE fr t0 d0) (h1 : kE fr t1 d1) (k : TW P nt b Q ⟨[(t0, d0), (t1, d1)], H⟩) : Rg P nt [t0, t1] b Q .normal ⟨fr, H⟩ := QM (kp2 h0 h1) k
theorem kc3 (hK : ∀ fr H, TW P nt b Q ⟨Zl [t0, t1, t2] fr, H⟩ -> K ⟨fr, H⟩) (h0 : kE fr t0 d0) (h1 : kE fr t1 d1) (h2 : kE fr t2 d2) (k : TW P nt b Q ⟨[(t0, d0), (t1, d1), (t2, d2)], H⟩) : K ⟨fr, H⟩ := kc hK (kp3 h0 h1 h2) k
theorem ks3 (h0 : kE fr t0 d0) (h1 : kE fr t1 d1) (h2 : kE fr t2 d2) (k : TW P nt b Q ⟨[(t0, d0), (t1, d1), (t2, d2)], H⟩) : Rg P nt [t0, t1, t2] b Q .normal ⟨fr, H⟩ := QM (kp3 h0 h1 h2) k
theorem kc4 (hK : ∀ fr H, TW P nt b Q ⟨Zl [t0, t1, t2, t3] fr, H⟩ -> K ⟨fr, H⟩) (h0 : kE fr t0 d0) (h1 : kE fr t1 d1) (h2 : kE fr t2 d2) (h3 : kE fr t3 d3) (k : TW P nt b Q ⟨[(t0, d0), (t1, d1), (t2, d2), (t3, d3)], H⟩) : K ⟨fr, H⟩ := kc hK (kp4 h0 h1 h2 h3) k
theorem ks4 (h0 : kE fr t0 d0) (h1 : kE fr t1 d1) (h2 : kE fr t2 d2) (h3 : kE fr t3 d3) (k : TW P nt b Q ⟨[(t0, d0), (t1, d1), (t2, d2), (t3, d3)], H⟩) : Rg P nt [t0, t1, t2, t3] b Q .normal ⟨fr, H⟩ := QM (kp4 h0 h1 h2 h3) k
theorem kc5 (hK : ∀ fr H, TW P nt b Q ⟨Zl [t0, t1, t2, t3, t4] fr, H⟩ -> K ⟨fr, H⟩) (h0 : kE fr t0 d0) (h1 : kE fr t1 d1) (h2 : kE fr t2 d2) (h3 : kE fr t3 d3) (h4 : kE fr t4 d4) (k : TW P nt b Q ⟨[(t0, d0), (t1, d1), (t2, d2), (t3, d3), (t4, d4)], H⟩) : K ⟨fr, H⟩ := kc hK (kp5 h0 h1 h2 h3 h4) k
theorem ks5 (h0 : kE fr t0 d0) (h1 : kE fr t1 d1) (h2 : kE fr t2 d2) (h3 : kE fr t3 d3) (h4 : kE fr t4 d4) (k : TW P nt b Q ⟨[(t0, d0), (t1, d1), (t2, d2), (t3, d3), (t4, d4)], H⟩) : Rg P nt [t0, t1, t2, t3, t4] b Q .normal ⟨fr, H⟩ := QM (kp5 h0 h1 h2 h3 h4) k
theorem kc6 (hK : ∀ fr H, TW P nt b Q ⟨Zl [t0, t1, t2, t3, t4, t5] fr, H⟩ -> K ⟨fr, H⟩) (h0 : kE fr t0 d0) (h1 : kE fr t1 d1) (h2 : kE fr t2 d2) (h3 : kE fr t3 d3) (h4 : kE fr t4 d4) (h5 : kE fr t5 d5) (k : TW P nt b Q ⟨[(t0, d0), (t1, d1), (t2, d2), (t3, d3), (t4, d4), (t5, d5)], H⟩) : K ⟨fr, H⟩ := kc hK (kp6 h0 h1 h2 h3 h4 h5) k
theorem ks6 (h0 : kE fr t0 d0) (h1 : kE fr t1 d1) (h2 : kE fr t2 d2) (h3 : kE fr t3 d3) (h4 : kE fr t4 d4) (h5 : kE fr t5 d5) (k : TW P nt b Q ⟨[(t0, d0), (t1, d1), (t2, d2), (t3, d3), (t4, d4), (t5, d5)], H⟩) : Rg P nt [t0, t1, t2, t3, t4, t5] b Q .normal ⟨fr, H⟩ := QM (kp6 h0 h1 h2 h3 h4 h5) k
theorem kc7 (hK : ∀ fr H, TW P nt b Q ⟨Zl [t0, t1, t2, t3, t4, t5, t6] fr, H⟩ -> K ⟨fr, H⟩) (h0 : kE fr t0 d0) (h1 : kE fr t1 d1) (h2 : kE fr t2 d2) (h3 : kE fr t3 d3) (h4 : kE fr t4 d4) (h5 : kE fr t5 d5) (h6 : kE fr t6 d6) (k : TW P nt b Q ⟨[(t0, d0), (t1, d1), (t2, d2), (t3, d3), (t4, d4), (t5, d5), (t6, d6)], H⟩) : K ⟨fr, H⟩ := kc hK (kp7 h0 h1 h2 h3 h4 h5 h6) k
theorem ks7 (h0 : kE fr t0 d0) (h1 : kE fr t1 d1) (h2 : kE fr t2 d2) (h3 : kE fr t3 d3) (h4 : kE fr t4 d4) (h5 : kE fr t5 d5) (h6 : kE fr t6 d6) (k : TW P nt b Q ⟨[(t0, d0), (t1, d1), (t2, d2), (t3, d3), (t4, d4), (t5, d5), (t6, d6)], H⟩) : Rg P nt [t0, t1, t2, t3, t4, t5, t6] b Q .normal ⟨fr, H⟩ := QM (kp7 h0 h1 h2 h3 h4 h5 h6) k
theorem kc8 (hK : ∀ fr H, TW P nt b Q ⟨Zl [t0, t1, t2, t3, t4, t5, t6, t7] fr, H⟩ -> K ⟨fr, H⟩) (h0 : kE fr t0 d0) (h1 : kE fr t1 d1) (h2 : kE fr t2 d2) (h3 : kE fr t3 d3) (h4 : kE fr t4 d4) (h5 : kE fr t5 d5) (h6 : kE fr t6 d6) (h7 : kE fr t7 d7) (k : TW P nt b Q ⟨[(t0, d0), (t1, d1), (t2, d2), (t3, d3), (t4, d4), (t5, d5), (t6, d6), (t7, d7)], H⟩) : K ⟨fr, H⟩ := kc hK (kp8 h0 h1 h2 h3 h4 h5 h6 h7) k
theorem ks8 (h0 : kE fr t0 d0) (h1 : kE fr t1 d1) (h2 : kE fr t2 d2) (h3 : kE fr t3 d3) (h4 : kE fr t4 d4) (h5 : kE fr t5 d5) (h6 : kE fr t6 d6) (h7 : kE fr t7 d7) (k : TW P nt b Q ⟨[(t0, d0), (t1, d1), (t2, d2), (t3, d3), (t4, d4), (t5, d5), (t6, d6), (t7, d7)], H⟩) : Rg P nt [t0, t1, t2, t3, t4, t5, t6, t7] b Q .normal ⟨fr, H⟩ := QM (kp8 h0 h1 h2 h3 h4 h5 h6 h7) k
theorem kc9 (hK : ∀ fr H, TW P nt b Q ⟨Zl [t0, t1, t2, t3, t4, t5, t6, t7, t8] fr, H⟩ -> K ⟨fr, H⟩) (h0 : kE fr t0 d0) (h1 : kE fr t1 d1) (h2 : kE fr t2 d2) (h3 : kE fr t3 d3) (h4 : kE fr t4 d4) (h5 : kE fr t5 d5) (h6 : kE fr t6 d6) (h7 : kE fr t7 d7) (h8 : kE fr t8 d8) (k : TW P nt b Q ⟨[(t0, d0), (t1, d1), (t2, d2), (t3, d3), (t4, d4), (t5, d5), (t6, d6), (t7, d7), (t8, d8)], H⟩) : K ⟨fr, H⟩ := kc hK (kp9 h0 h1 h2 h3 h4 h5 h6 h7 h8) k
theorem ks9 (h0 : kE fr t0 d0) (h1 : kE fr t1 d1) (h2 : kE fr t2 d2) (h3 : kE fr t3 d3) (h4 : kE fr t4 d4) (h5 : kE fr t5 d5) (h6 : kE fr t6 d6) (h7 : kE fr t7 d7) (h8 : kE fr t8 d8) (k : TW P nt b Q ⟨[(t0, d0), (t1, d1), (t2, d2), (t3, d3), (t4, d4), (t5, d5), (t6, d6), (t7, d7), (t8, d8)], H⟩) : Rg P nt [t0, t1, t2, t3, t4, t5, t6, t7, t8] b Q .normal ⟨fr, H⟩ := QM (kp9 h0 h1 h2 h3 h4 h5 h6 h7 h8) k
theorem gn2 {o0 : AOp} {g0 : Nat} {b0 : Bool} {w0 : Nat} {o1 : AOp} {g1 : Nat} {b1 : Bool} {w1 : Nat} (h0 : lk (fr) g0 = some (.bool (!b0))) (h1 : lk ((w0, .undef) :: fr) g1 = some (.bool (!b1))) (k : run P dr r K ⟨(w1, .undef) :: (w0, .undef) :: fr, H⟩) : run P dr (⟨some w0, o0, some (g0, b0)⟩ :: ⟨some w1, o1, some (g1, b1)⟩ :: r) K ⟨fr, H⟩ := (Y8 h0 (Y8 h1 k))
theorem gn3 {o0 : AOp} {g0 : Nat} {b0 : Bool} {w0 : Nat} {o1 : AOp} {g1 : Nat} {b1 : Bool} {w1 : Nat} {o2 : AOp} {g2 : Nat} {b2 : Bool} {w2 : Nat} (h0 : lk (fr) g0 = some (.bool (!b0))) (h1 : lk ((w0, .undef) :: fr) g1 = some (.bool (!b1))) (h2 : lk ((w1, .undef) :: (w0, .undef) :: fr) g2 = some (.bool (!b2))) (k : run P dr r K ⟨(w2, .undef) :: (w1, .undef) :: (w0, .undef) :: fr, H⟩) : run P dr (⟨some w0, o0, some (g0, b0)⟩ :: ⟨some w1, o1, some (g1, b1)⟩ :: ⟨some w2, o2, some (g2, b2)⟩ :: r) K ⟨fr, H⟩ := (Y8 h0 (Y8 h1 (Y8 h2 k)))
theorem gn4 {o0 : AOp} {g0 : Nat} {b0 : Bool} {w0 : Nat} {o1 : AOp} {g1 : Nat} {b1 : Bool} {w1 : Nat} {o2 : AOp} {g2 : Nat} {b2 : Bool} {w2 : Nat} {o3 : AOp} {g3 : Nat} {b3 : Bool} {w3 : Nat} (h0 : lk (fr) g0 = some (.bool (!b0))) (h1 : lk ((w0, .undef) :: fr) g1 = some (.bool (!b1))) (h2 : lk ((w1, .undef) :: (w0, .undef) :: fr) g2 = some (.bool (!b2))) (h3 : lk ((w2, .undef) :: (w1, .undef) :: (w0, .undef) :: fr) g3 = some (.bool (!b3))) (k : run P dr r K ⟨(w3, .undef) :: (w2, .undef) :: (w1, .undef) :: (w0, .undef) :: fr, H⟩) : run P dr (⟨some w0, o0, some (g0, b0)⟩ :: ⟨some w1, o1, some (g1, b1)⟩ :: ⟨some w2, o2, some (g2, b2)⟩ :: ⟨some w3, o3, some (g3, b3)⟩ :: r) K ⟨fr, H⟩ := (Y8 h0 (Y8 h1 (Y8 h2 (Y8 h3 k))))
theorem mv2 (hx : St.ev ⟨fr, H⟩ x = some p) (hy : St.ev ⟨(t, p) :: fr, H⟩ y = some q) (k : run P dr r K ⟨(u, q) :: (t, p) :: fr, H⟩) : run P dr (⟨some t, .mov x, none⟩ :: ⟨some u, .mov y, none⟩ :: r) K ⟨fr, H⟩ := Qa hx (Qa hy k)
end
end Go.Abs
namespace Go.Proofs
open Go Go.Abs
set_option maxRecDepth 100000
abbrev oo (t : Nat) (op : AOp) : AOper := ⟨some t,op,none⟩
abbrev om (t x : Nat) : AOper := ⟨some t,.mov (.s x),none⟩
abbrev oL (t n x : Nat) : AOper := ⟨some t,.load true n (.s x),none⟩
abbrev ol (t n x : Nat) : AOper := ⟨some t,.load false n (.s x),none⟩
abbrev oA (t n x : Nat) : AOper := ⟨some t,.fieldAddr n (.s x),none⟩
abbrev oe (t n x : Nat) : AOper := ⟨some t,.extract n (.s x),none⟩
abbrev oT (t g : Nat) (op : AOp) : AOper := ⟨some t,op,some (g,true)⟩
abbrev oF (t g : Nat) (op : AOp) : AOper := ⟨some t,op,some (g,false)⟩
abbrev jf : Opd := .c (.bool false)
abbrev je : Opd := .c (.fsl [])
abbrev jv (t : Nat) (x : Opd) : AOper := ⟨some t,.mov x,none⟩
abbrev jw (t : Nat) (x : Int) : AOper := ⟨some t,.mov (.c (.int .i64 x)),none⟩
abbrev jp (t x y : Nat) : AOper := ⟨some t,.pick (.s x) (.s y) (.c (.bool false)),none⟩
abbrev jh (t x : Nat) : AOper := ⟨some t,.nilCheck (.s x),none⟩
abbrev jA (t g n x : Nat) : AOper := ⟨some t,.fieldAddr n (.s x),some (g,true)⟩
abbrev ja (t g n x : Nat) : AOper := ⟨some t,.fieldAddr n (.s x),some (g,false)⟩
abbrev jY (t g : Nat) (o : BinOp) (x : Nat) (y : Int) : AOper := ⟨some t,.bin o false (.s x) (.c (.int .i64 y)),some (g,true)⟩
abbrev jy (t g : Nat) (o : BinOp) (x : Nat) (y : Int) : AOper := ⟨some t,.bin o false (.s x) (.c (.int .i64 y)),some (g,false)⟩
abbrev jS (n a b : Nat) : AOper := ⟨none,.store n (.s a) (.s b),none⟩
abbrev jI (n : Int) : Opd := .c (.int .i64 n)
abbrev jn (t x : Nat) : AOper := ⟨some t,.len (.s x),none⟩
abbrev jB (t : Nat) (o : BinOp) (x y : Nat) : AOper := ⟨some t,.bin o false (.s x) (.s y),none⟩
abbrev jb (t : Nat) (o : BinOp) (x : Nat) (y : Int) : AOper := ⟨some t,.bin o false (.s x) (.c (.int .i64 y)),none⟩
abbrev jx (t e x y : Nat) : AOper := ⟨some t,.indexAddr e (.s x) (.s y),none⟩
abbrev jc (t f : Nat) (l : List Opd) : AOper := ⟨some t,.call f l,none⟩
abbrev jo (t e x : Nat) : AOper := ⟨some t,.box e (.s x),none⟩
abbrev jT (t g x : Nat) : AOper := ⟨some t,.mov (.s x),some (g,true)⟩
abbrev jF (t g x : Nat) : AOper := ⟨some t,.mov (.s x),some (g,false)⟩
abbrev jL (t g n x : Nat) : AOper := ⟨some t,.load true n (.s x),some (g,true)⟩
abbrev jl (t g n x : Nat) : AOper := ⟨some t,.load false n (.s x),some (g,true)⟩
abbrev jM (t g n x : Nat) : AOper := ⟨some t,.load true n (.s x),some (g,false)⟩
abbrev jm (t g n x : Nat) : AOper := ⟨some t,.load false n (.s x),some (g,false)⟩
abbrev jC (c : Nat) (a b : TCode) : TCode := .cond (.s c) a b
abbrev jr (l : List AOper) : TCode := .region false l
abbrev jR (l : List AOper) : TCode := .region true l
abbrev jq (a : TCode) (v : List Nat) (b : TCode) : TCode := .seq a v b
abbrev jk (n : Nat) (a : TCode) : TCode := .block n (.loop a)
def tf3 : TFn := ⟨64,[.tmp 4],jq (jr [jo 2 24 0,jv 4 jf]) [1,2,900000] (jq (jq (jr [oL 7 1 2,jc 8 4 [.s 7],oo 9 (.un .not (.s 8)),om 10 9,jF 11 10 1,oF 12 10 (.len (.s 11)),jy 13 10 .gtr 12 20,oo 14 (.pick (.s 10) (.c (.bool true)) (.s 13))]) [1,2,14,900000] (jC 14 (jq (jr [jc 15 5 [.s 900000],om 4 15]) [4] .ret) .skip)) [1,2,900000] (jq (jR [oL 16 1 2,om 17 1,jc 18 6 [.s 16,.s 17,.s 900000],oL 19 1 2,om 20 1,jc 21 7 [.s 19,.s 20],oo 22 (.bin .eql true (.s 18) (.s 21)),om 23 22,jL 24 23 1 2,jT 25 23 1,oT 26 23 (.call 8 [.s 24,.s 25,.s 900000]),jL 27 23 1 2,jT 28 23 1,oT 29 23 (.call 9 [.s 27,.s 28]),oT 30 23 (.bin .eql true (.s 26) (.s 29)),jp 31 23 30,om 5 31]) [1,2,5,900000] (jq (jR [oL 32 1 2,om 33 1,jc 34 11 [.s 32,.s 33,.s 900000],oL 35 1 2,om 36 1,jc 37 12 [.s 35,.s 36],jc 38 10 [.s 34,.s 37],om 39 38,jL 40 39 1 2,jT 41 39 1,oT 42 39 (.call 14 [.s 40,.s 41,.s 900000]),jL 43 39 1 2,jT 44 39 1,oT 45 39 (.call 15 [.s 43,.s 44]),oT 46 39 (.call 13 [.s 42,.s 45]),jp 47 39 46,om 6 47]) [1,2,5,6,900000] (jq (jR [jc 48 5 [.s 900000],om 49 48,jT 50 49 5,jp 51 49 50,om 52 51,jT 53 52 6,jp 54 52 53,om 55 54,jL 56 55 1 2,jT 57 55 1,oT 58 55 (.call 17 [.s 56,.s 57,.s 900000]),jL 59 55 1 2,jT 60 55 1,oT 61 55 (.call 18 [.s 59,.s 60]),oT 62 55 (.call 16 [.s 58,.s 61]),jp 63 55 62,om 4 63]) [4] .ret))))⟩
def tf4 : TFn := ⟨81,[.tmp 2],jq (jr [jo 1 24 0,jv 2 jf]) [1] (jq (jq (jr [oA 6 0 1,ol 7 1 6,jn 8 7,jb 9 .gtr 8 12]) [1,9] (jC 9 (jq (jr [jv 2 jf]) [2] .ret) .skip)) [1] (jq (jq (jr [jw 3 0]) [1,3] (jk 0 (jq (jq (jr [om 10 3,oA 11 0 1,ol 12 1 11,jn 13 12,jB 14 .lss 10 13]) [1,3,14] (jC 14 .skip (.exit 0))) [1,3] (jq (.block 1 (jq (jr [oA 17 0 1,ol 18 1 17,om 19 3,jx 20 3 18 19,oL 21 3 20,oo 4 (.alloc 39 [(.str []),(.str []),(.fsl [])]),jS 3 4 21]) [1,3,4] (jq (jq (jr [oA 22 0 4,ol 23 1 22,oo 24 (.lenStr (.s 23)),oA 25 1 4,ol 26 1 25,oo 27 (.lenStr (.s 26)),jB 28 .add 24 27,jb 29 .gtr 28 100,om 30 29,ja 31 30 2 4,jm 32 30 1 31,oF 33 30 (.len (.s 32)),jy 34 30 .gtr 33 20,oo 35 (.pick (.s 30) (.c (.bool true)) (.s 34))]) [1,3,4,35] (jC 35 (jq (jr [jv 2 jf]) [2] .ret) .skip)) [1,3,4] (jq (jr [jw 5 0]) [1,3,4,5] (jk 2 (jq (jq (jr [om 36 5,oA 37 2 4,ol 38 1 37,jn 39 38,jB 40 .lss 36 39]) [1,3,4,5,40] (jC 40 .skip (.exit 2))) [1,3,4,5] (jq (.block 3 (jq (jR [oA 43 2 4,ol 44 1 43,om 45 5,jx 46 8 44 45,oA 47 6 46,ol 48 1 47,jn 49 48,jb 50 .gtr 49 26,om 51 50,ja 52 51 2 4,jm 53 51 1 52,jF 54 51 5,oF 55 51 (.indexAddr 8 (.s 53) (.s 54)),ja 56 51 7 55,jm 57 51 1 56,oF 58 51 (.len (.s 57)),jy 59 51 .gtr 58 26,oo 60 (.pick (.s 51) (.c (.bool true)) (.s 59)),om 61 60,ja 62 61 2 4,jm 63 61 1 62,jF 64 61 5,oF 65 61 (.indexAddr 8 (.s 63) (.s 64)),ja 66 61 0 65,ja 67 61 3 66,jm 68 61 1 67,oF 69 61 (.lenStr (.s 68)),ja 70 61 2 4,jm 71 61 1 70,jF 72 61 5,oF 73 61 (.indexAddr 8 (.s 71) (.s 72)),ja 74 61 0 73,ja 75 61 4 74,jm 76 61 1 75,oF 77 61 (.lenStr (.s 76)),oF 78 61 (.bin .add false (.s 69) (.s 77)),jy 79 61 .gtr 78 100,oo 80 (.pick (.s 61) (.c (.bool true)) (.s 79))]) [1,3,4,5,80] (jC 80 (jq (jr [jv 2 jf]) [2] .ret) .skip))) [1,3,4,5] (jr [om 41 5,jb 42 .add 41 1,om 5 42])))))))) [1,3] (jr [om 15 3,jb 16 .add 15 1,om 3 16]))))) [] (jq (jr [oo 2 (.mov (.c (.bool true)))]) [2] .ret)))⟩
def tf5 : TFn := ⟨66,[.tmp 0],jq (jr [jv 0 jf]) [900000] (jq (jr [jc 5 19 [],oo 1 (.alloc 48 [(.fsl []),(.fsl [])]),jS 2 1 5]) [1,900000] (jq (jr [oL 6 2 1,oo 7 (.build [(.int .i64 0),(.fsl []),(.fsl [])] [(0,1,(jI 1)),(1,2,(.s 6))]),oo 8 (.buildSlice 3 51 [.s 7]),oo 9 (.buildSlice 1 43 [.s 8]),oo 10 (.build [(.int .i64 0),(.int .i64 0),(.int .i64 0),(.str []),(.str []),(.int .i64 0),(.fsl []),(.fsl [])] [(6,1,(.s 9))]),oo 11 (.buildSlice 8 45 [.s 10]),oo 12 (.build [(.str []),(.str []),(.fsl [])] [(2,1,(.s 11))]),oo 13 (.build [(.int .i64 0),(.int .i64 0),(.int .i64 0),(.str []),(.str [])] [(0,1,(jI 1))]),oo 14 (.build [(.int .i64 0),(.int .i64 0),(.int .i64 0),(.str []),(.str []),(.int .i64 0),(.fsl []),(.fsl [])] [(0,5,(.s 13))]),oo 15 (.buildSlice 8 45 [.s 14]),oo 16 (.build [(.str []),(.str []),(.fsl [])] [(0,1,(.c (.str [98]))),(2,1,(.s 15))]),oo 17 (.build [(.int .i64 0),(.int .i64 0),(.int .i64 0),(.str []),(.str []),(.int .i64 0),(.fsl []),(.fsl [])] []),oo 18 (.buildSlice 8 45 [.s 17]),oo 19 (.build [(.str []),(.str []),(.fsl [])] [(0,1,(.c (.str [99]))),(2,1,(.s 18))]),oo 20 (.buildSlice 3 39 [.s 12,.s 16,.s 19]),oo 21 (.build [(.fsl [])] [(0,1,(.s 20))]),oo 2 (.alloc 24 [(.fsl [])]),jS 1 2 21]) [2,900000] (jq (jr [oL 22 1 2,oo 23 (.buildSlice 1 3 [jI 0,(.c (.int .i64 (-1))),(.c (.int .i64 (-1)))]),jc 24 11 [.s 22,.s 23,.s 900000],om 3 24]) [2,3,900000] (jq (jr [oL 25 1 2,oo 26 (.buildSlice 1 3 [jI 0,jI 0,jI 0]),jc 27 17 [.s 25,.s 26,.s 900000],om 4 27]) [2,3,4,900000] (jq (jr [oL 28 1 2,oo 29 (.buildSlice 1 3 [jI 0,jI 0,(.c (.int .i64 (-1)))]),jc 30 8 [.s 28,.s 29,.s 900000],om 31 30,jT 32 31 3,oT 33 31 (.len (.s 32)),jY 34 31 .eql 33 1,jp 35 31 34,om 36 35,jT 37 36 3,oT 38 36 (.indexAddr 3 (.s 37) (jI 0)),jL 39 36 3 38,oT 40 36 (.build [(.int .i64 0),(.int .i64 0),(.int .i64 0)] [(0,1,(jI 2))]),oT 41 36 (.eqs false [0,0,0] (.s 39) (.s 40)),jp 42 36 41,om 43 42,jT 44 43 4,oT 45 43 (.len (.s 44)),jY 46 43 .eql 45 3,jp 47 43 46,om 48 47,jT 49 48 4,oT 50 48 (.indexAddr 1 (.s 49) (jI 1)),jl 51 48 1 50,jY 52 48 .eql 51 0,jp 53 48 52,om 54 53,jT 55 54 4,oT 56 54 (.indexAddr 1 (.s 55) (jI 2)),jl 57 54 1 56,oT 58 54 (.bin .eql false (.s 57) (.c (.int .i64 (-1)))),jp 59 54 58,om 60 59,jL 61 60 1 2,oT 62 60 (.buildSlice 1 3 [jI 0,jI 1,(.c (.int .i64 (-1)))]),oT 63 60 (.call 6 [.s 61,.s 62,.s 900000]),oT 64 60 (.un .not (.s 63)),jp 65 60 64,om 0 65]) [0] .ret)))))⟩
def tf6 : TFn := ⟨12,[.tmp 4],jq (jr [jo 2 24 0,jv 4 jf]) [1,2,900000] (jq (jr [oL 5 1 2,jc 6 20 [.s 5,.s 900000],om 7 6,jL 8 7 1 2,jT 9 7 1,oT 10 7 (.call 21 [.s 8,.s 9]),jp 11 7 10,om 4 11]) [4] .ret)⟩
def tf7 : TFn := ⟨42,[.tmp 4],jq (jr [jo 2 24 0,jv 4 jf]) [1,2] (jq (jq (jr [om 6 1,jn 7 6,oA 8 0 2,ol 9 1 8,jn 10 9,jB 11 .neq 7 10,om 12 11,jM 13 12 1 2,oF 14 12 (.call 22 [.s 13]),oF 15 12 (.un .not (.s 14)),oo 16 (.pick (.s 12) (.c (.bool true)) (.s 15))]) [1,2,16] (jC 16 (jq (jr [jv 4 jf]) [4] .ret) .skip)) [1,2] (jq (jq (jr [jw 5 0]) [1,2,5] (jk 0 (jq (jq (jr [om 17 5,om 18 1,jn 19 18,jB 20 .lss 17 19]) [1,2,5,20] (jC 20 .skip (.exit 0))) [1,2,5] (jq (.block 1 (jq (jR [om 23 1,om 24 5,jx 25 1 23 24,ol 26 1 25,oo 27 (.bin .lss false (.s 26) (.c (.int .i64 (-1)))),om 28 27,jF 29 28 1,jF 30 28 5,oF 31 28 (.indexAddr 1 (.s 29) (.s 30)),jm 32 28 1 31,ja 33 28 0 2,jm 34 28 1 33,jF 35 28 5,oF 36 28 (.indexAddr 3 (.s 34) (.s 35)),ja 37 28 2 36,jm 38 28 1 37,oF 39 28 (.len (.s 38)),oF 40 28 (.bin .geq false (.s 32) (.s 39)),oo 41 (.pick (.s 28) (.c (.bool true)) (.s 40))]) [1,2,5,41] (jC 41 (jq (jr [jv 4 jf]) [4] .ret) .skip))) [1,2,5] (jr [om 21 5,jb 22 .add 21 1,om 5 22]))))) [] (jq (jr [oo 4 (.mov (.c (.bool true)))]) [4] .ret)))⟩
def tf8 : TFn := ⟨15,[.tmp 4],jq (jr [jo 2 24 0,jv 4 jf]) [1,2,900000] (jq (jr [oL 5 1 2,om 6 1,jc 7 6 [.s 5,.s 6,.s 900000],om 8 7,jL 9 8 1 2,jT 10 8 1,oT 11 8 (.call 11 [.s 9,.s 10,.s 900000]),oT 12 8 (.len (.s 11)),jY 13 8 .eql 12 0,jp 14 8 13,om 4 14]) [4] .ret)⟩
def tf9 : TFn := ⟨15,[.tmp 4],jq (jr [jo 2 24 0,jv 4 jf]) [1,2] (jq (jr [oL 5 1 2,om 6 1,jc 7 7 [.s 5,.s 6],om 8 7,jL 9 8 1 2,jT 10 8 1,oT 11 8 (.call 12 [.s 9,.s 10]),oT 12 8 (.len (.s 11)),jY 13 8 .eql 12 0,jp 14 8 13,om 4 14]) [4] .ret)⟩
def tf10 : TFn := ⟨26,[.tmp 4],jq (jr [jv 4 jf]) [0,1] (jq (jq (jr [om 6 0,jn 7 6,om 8 1,jn 9 8,jB 10 .neq 7 9]) [0,1,10] (jC 10 (jq (jr [jv 4 jf]) [4] .ret) .skip)) [0,1] (jq (jq (jr [jw 5 0]) [0,1,5] (jk 0 (jq (jq (jr [om 11 5,om 12 0,jn 13 12,jB 14 .lss 11 13]) [0,1,5,14] (jC 14 .skip (.exit 0))) [0,1,5] (jq (.block 1 (jq (jR [om 17 0,om 18 5,jx 19 3 17 18,oL 20 3 19,om 21 1,om 22 5,jx 23 3 21 22,oL 24 3 23,oo 25 (.eqs true [0,0,0] (.s 20) (.s 24))]) [0,1,5,25] (jC 25 (jq (jr [jv 4 jf]) [4] .ret) .skip))) [0,1,5] (jr [om 15 5,jb 16 .add 15 1,om 5 16]))))) [] (jq (jr [oo 4 (.mov (.c (.bool true)))]) [4] .ret)))⟩
def tf11 : TFn := ⟨84,[.tmp 4],jq (jr [jo 2 24 0,jv 4 je]) [1,2,900000] (jq (jq (jr [oL 13 1 2,om 14 1,jc 15 6 [.s 13,.s 14,.s 900000],oo 16 (.un .not (.s 15))]) [1,2,16,900000] (jC 16 (jq (jr [jv 4 je]) [4] .ret) .skip)) [1,2,900000] (jq (jr [jv 5 je]) [1,2,5,900000] (jq (jq (jr [om 17 1,oo 18 (.indexAddr 1 (.s 17) (jI 0)),ol 19 1 18,jb 20 .lss 19 0]) [1,2,5,20,900000] (jC 20 (jr [om 21 5,oo 22 (.build [(.int .i64 0),(.int .i64 0),(.int .i64 0)] [(0,1,(jI 1))]),oo 23 (.buildSlice 3 53 [.s 22]),oo 24 (.append 3 53 24 (.s 21) (.s 23)),om 5 24]) .skip)) [1,2,5,900000] (jq (jq (jr [om 25 1,jn 26 25,jw 27 0]) [1,2,5,25,26,27,900000] (jk 0 (jq (jr [jB 28 .lss 27 26]) [1,2,5,25,26,27,28,900000] (jq (jC 28 .skip (.exit 0)) [1,2,5,25,26,27,900000] (jq (.block 1 (jq (jr [om 29 27,jx 30 1 25 27,ol 31 1 30,om 6 29,om 7 31]) [1,2,5,6,7,25,26,27,900000] (jq (jq (jr [om 32 7,jb 33 .lss 32 0]) [1,2,5,6,7,25,26,27,33,900000] (jC 33 (.exit 1) .skip)) [1,2,5,6,7,25,26,27,900000] (jq (jr [oA 34 0 2,ol 35 1 34,om 36 6,jx 37 3 35 36,oA 38 2 37,ol 39 1 38,om 40 7,jx 41 8 39 40,oL 42 8 41,oo 8 (.alloc 45 [(.int .i64 0),(.int .i64 0),(.int .i64 0),(.str []),(.str []),(.int .i64 0),(.fsl []),(.fsl [])]),jS 8 8 42]) [1,2,5,6,8,25,26,27,900000] (jq (jq (jr [oA 43 6 8,ol 44 1 43,jn 45 44,jw 46 0]) [1,2,5,6,8,25,26,27,44,45,46,900000] (jk 2 (jq (jr [jB 47 .lss 46 45]) [1,2,5,6,8,25,26,27,44,45,46,47,900000] (jq (jC 47 .skip (.exit 2)) [1,2,5,6,8,25,26,27,44,45,46,900000] (jq (.block 3 (jq (jr [om 48 46,jx 49 1 44 46,ol 50 1 49,om 9 48,om 10 50]) [1,2,5,6,8,9,10,25,26,27,44,45,46,900000] (jq (jr [oL 51 1 2,om 52 1,om 53 10,jc 54 23 [.s 51,.s 52,.s 53,.s 900000],oo 55 (.un .not (.s 54))]) [1,2,5,6,8,9,25,26,27,44,45,46,55,900000] (jC 55 (jr [om 56 5,om 57 6,om 58 9,oo 59 (.build [(.int .i64 0),(.int .i64 0),(.int .i64 0)] [(0,1,(jI 2)),(1,1,(.s 57)),(2,1,(.s 58))]),oo 60 (.buildSlice 3 53 [.s 59]),oo 61 (.append 3 53 24 (.s 56) (.s 60)),om 5 61]) .skip)))) [1,2,5,6,8,25,26,27,44,45,46,900000] (jr [jb 62 .add 46 1,om 46 62])))))) [1,2,5,6,8,25,26,27,900000] (jq (jr [oA 63 7 8,ol 64 1 63,jn 65 64,jw 66 0]) [1,2,5,6,25,26,27,64,65,66,900000] (jk 4 (jq (jr [jB 67 .lss 66 65]) [1,2,5,6,25,26,27,64,65,66,67,900000] (jq (jC 67 .skip (.exit 4)) [1,2,5,6,25,26,27,64,65,66,900000] (jq (.block 5 (jq (jr [om 68 66,jx 69 3 64 66,oL 70 3 69,oo 12 (.alloc 51 [(.int .i64 0),(.fsl []),(.fsl [])]),om 11 68,jS 3 12 70]) [1,2,5,6,11,12,25,26,27,64,65,66,900000] (jq (jr [oL 71 1 2,om 72 1,oL 73 3 12,jc 74 24 [.s 71,.s 72,.s 73,.s 900000]]) [1,2,5,6,11,25,26,27,64,65,66,74,900000] (jC 74 (jr [om 75 5,om 76 6,om 77 11,oo 78 (.build [(.int .i64 0),(.int .i64 0),(.int .i64 0)] [(0,1,(jI 3)),(1,1,(.s 76)),(2,1,(.s 77))]),oo 79 (.buildSlice 3 53 [.s 78]),oo 80 (.append 3 53 24 (.s 75) (.s 79)),om 5 80]) .skip)))) [1,2,5,6,25,26,27,64,65,66,900000] (jr [jb 81 .add 66 1,om 66 81]))))))))))) [1,2,5,25,26,27,900000] (jr [jb 82 .add 27 1,om 27 82])))))) [5] (jq (jr [om 83 5,om 4 83]) [4] .ret)))))⟩
def tf12 : TFn := ⟨37,[.tmp 4],jq (jr [jo 2 24 0,jv 4 je]) [1,2] (jq (jr [jv 5 je]) [1,2,5] (jq (jq (jr [oL 7 1 2,om 8 1,jc 9 7 [.s 7,.s 8],oo 10 (.un .not (.s 9))]) [1,2,5,10] (jC 10 (jq (jr [jv 4 je]) [4] .ret) .skip)) [1,2,5] (jq (jq (jr [om 11 1,oo 12 (.indexAddr 1 (.s 11) (jI 0)),ol 13 1 12,jb 14 .lss 13 0]) [1,2,5,14] (jC 14 (jr [om 15 5,oo 16 (.build [(.int .i64 0),(.int .i64 0),(.int .i64 0)] [(0,1,(jI 1))]),oo 17 (.buildSlice 3 53 [.s 16]),oo 18 (.append 3 53 24 (.s 15) (.s 17)),om 5 18]) .skip)) [1,2,5] (jq (jq (jr [jw 6 0]) [1,2,5,6] (jk 0 (jq (jq (jr [om 19 6,om 20 1,jn 21 20,jB 22 .lss 19 21]) [1,2,5,6,22] (jC 22 .skip (.exit 0))) [1,2,5,6] (jq (.block 1 (jq (jr [om 25 1,om 26 6,jx 27 1 25 26,ol 28 1 27,jb 29 .geq 28 0]) [1,2,5,6,29] (jC 29 (jr [om 30 5,oL 31 1 2,om 32 1,om 33 6,jc 34 25 [.s 31,.s 32,.s 33],oo 35 (.append 3 53 24 (.s 30) (.s 34)),om 5 35]) .skip))) [1,2,5,6] (jr [om 23 6,jb 24 .add 23 1,om 6 24]))))) [5] (jq (jr [om 36 5,om 4 36]) [4] .ret)))))⟩
def tf13 : TFn := ⟨26,[.tmp 4],jq (jr [jv 4 jf]) [0,1] (jq (jq (jr [om 6 0,jn 7 6,om 8 1,jn 9 8,jB 10 .neq 7 9]) [0,1,10] (jC 10 (jq (jr [jv 4 jf]) [4] .ret) .skip)) [0,1] (jq (jq (jr [jw 5 0]) [0,1,5] (jk 0 (jq (jq (jr [om 11 5,om 12 0,jn 13 12,jB 14 .lss 11 13]) [0,1,5,14] (jC 14 .skip (.exit 0))) [0,1,5] (jq (.block 1 (jq (jR [om 17 0,om 18 5,jx 19 1 17 18,ol 20 1 19,om 21 1,om 22 5,jx 23 1 21 22,ol 24 1 23,oo 25 (.bin .neq true (.s 20) (.s 24))]) [0,1,5,25] (jC 25 (jq (jr [jv 4 jf]) [4] .ret) .skip))) [0,1,5] (jr [om 15 5,jb 16 .add 15 1,om 5 16]))))) [] (jq (jr [oo 4 (.mov (.c (.bool true)))]) [4] .ret)))⟩
def tf14 : TFn := ⟨82,[.tmp 4],jq (jr [jo 2 24 0,jv 4 je]) [1,2,900000] (jq (jq (jr [oL 13 1 2,om 14 1,jc 15 6 [.s 13,.s 14,.s 900000],oo 16 (.un .not (.s 15))]) [1,2,16,900000] (jC 16 (jq (jr [jv 4 je]) [4] .ret) .skip)) [1,2,900000] (jq (jr [om 17 1,jn 18 17,oo 19 (.makeSlice 1 4 1 [(.bool false)] (.s 18) (.s 18)),om 5 19]) [1,2,5,900000] (jq (jr [oo 6 (.alloc 58 [(.fsl [])])]) [1,2,5,6,900000] (jq (jq (jr [om 20 1,oo 21 (.indexAddr 1 (.s 20) (jI 0)),ol 22 1 21,jb 23 .geq 22 0]) [1,2,5,6,23,900000] (jC 23 (jq (jr [om 24 5,oo 25 (.indexAddr 1 (.s 24) (jI 0)),⟨none,.store 1 (.s 25) (.c (.bool true)),none⟩]) [1,2,5,6,900000] (jr [jc 26 26 [.s 6,jI 0]])) .skip)) [1,2,5,6,900000] (jq (jq (jr [jc 28 27 [.s 6],om 27 28,oe 29 0 27,oe 30 1 27,om 7 29,om 8 30]) [1,2,5,6,7,8,900000] (jk 0 (jq (jq (jr [om 31 8]) [1,2,5,6,7,31,900000] (jC 31 .skip (.exit 0))) [1,2,5,6,7,900000] (jq (.block 1 (jq (jR [oA 36 0 2,ol 37 1 36,om 38 7,jx 39 3 37 38,oA 40 2 39,ol 41 1 40,om 42 1,om 43 7,jx 44 1 42 43,ol 45 1 44,jx 46 8 41 45,oA 47 6 46,ol 48 1 47,jn 49 48,jw 50 0]) [1,2,5,6,48,49,50,900000] (jk 2 (jq (jr [jB 51 .lss 50 49]) [1,2,5,6,48,49,50,51,900000] (jq (jC 51 .skip (.exit 2)) [1,2,5,6,48,49,50,900000] (jq (.block 3 (jq (jr [jx 52 1 48 50,ol 53 1 52,om 10 53]) [1,2,5,6,10,48,49,50,900000] (jq (jr [om 54 10,jn 55 54,jw 56 0]) [1,2,5,6,48,49,50,54,55,56,900000] (jk 4 (jq (jr [jB 57 .lss 56 55]) [1,2,5,6,48,49,50,54,55,56,57,900000] (jq (jC 57 .skip (.exit 4)) [1,2,5,6,48,49,50,54,55,56,900000] (jq (.block 5 (jq (jr [jx 58 3 54 56,oL 59 3 58,oo 12 (.alloc 51 [(.int .i64 0),(.fsl []),(.fsl [])]),jS 3 12 59]) [1,2,5,6,12,48,49,50,54,55,56,900000] (jq (jr [om 60 5,oA 61 0 12,ol 62 1 61,jx 63 1 60 62,ol 64 1 63,oo 65 (.un .not (.s 64)),om 66 65,jL 67 66 1 2,jT 68 66 1,jL 69 66 3 12,oT 70 66 (.call 24 [.s 67,.s 68,.s 69,.s 900000]),jp 71 66 70]) [1,2,5,6,12,48,49,50,54,55,56,71,900000] (jC 71 (jq (jr [om 72 5,oA 73 0 12,ol 74 1 73,jx 75 1 72 74,⟨none,.store 1 (.s 75) (.c (.bool true)),none⟩]) [1,2,5,6,12,48,49,50,54,55,56,900000] (jr [oA 76 0 12,ol 77 1 76,jc 78 26 [.s 6,.s 77]])) .skip)))) [1,2,5,6,48,49,50,54,55,56,900000] (jr [jb 79 .add 56 1,om 56 79])))))))) [1,2,5,6,48,49,50,900000] (jr [jb 80 .add 50 1,om 50 80]))))))) [1,2,5,6,900000] (jr [jc 33 27 [.s 6],om 32 33,oe 34 0 32,oe 35 1 32,om 7 34,om 8 35]))))) [5] (jq (jr [om 81 5,om 4 81]) [4] .ret))))))⟩
def tf15 : TFn := ⟨84,[.tmp 4],jq (jr [jo 2 24 0,jv 4 je]) [1,2] (jq (jq (jr [oL 12 1 2,om 13 1,jc 14 7 [.s 12,.s 13],oo 15 (.un .not (.s 14))]) [1,2,15] (jC 15 (jq (jr [jv 4 je]) [4] .ret) .skip)) [1,2] (jq (jr [om 16 1,jn 17 16,oo 18 (.makeSlice 1 4 1 [(.bool false)] (.s 17) (.s 17)),om 5 18]) [1,2,5] (jq (jr [om 19 5,om 20 1,oo 21 (.indexAddr 1 (.s 20) (jI 0)),ol 22 1 21,jb 23 .geq 22 0,oo 24 (.indexAddr 1 (.s 19) (jI 0)),jS 1 24 23]) [1,2,5] (jq (jq (jr [jw 6 0]) [1,2,5,6] (jk 0 (jq (jq (jr [om 25 6,om 26 1,jn 27 26,jB 28 .lss 25 27]) [1,2,5,6,28] (jC 28 .skip (.exit 0))) [1,2,5,6] (jq (.block 1 (jq (jr [jw 7 0]) [1,2,5,6,7] (jk 2 (jq (jq (jr [om 31 7,om 32 1,jn 33 32,jB 34 .lss 31 33]) [1,2,5,6,7,34] (jC 34 .skip (.exit 2))) [1,2,5,6,7] (jq (.block 3 (jq (jq (jr [om 37 5,om 38 7,jx 39 1 37 38,ol 40 1 39,oo 41 (.un .not (.s 40))]) [1,2,5,6,7,41] (jC 41 (.exit 3) .skip)) [1,2,5,6,7] (jq (jR [oA 42 0 2,ol 43 1 42,om 44 7,jx 45 3 43 44,oA 46 2 45,ol 47 1 46,om 48 1,om 49 7,jx 50 1 48 49,ol 51 1 50,jx 52 8 47 51,oA 53 6 52,ol 54 1 53,jn 55 54,jw 56 0]) [1,2,5,6,7,54,55,56] (jk 4 (jq (jr [jB 57 .lss 56 55]) [1,2,5,6,7,54,55,56,57] (jq (jC 57 .skip (.exit 4)) [1,2,5,6,7,54,55,56] (jq (.block 5 (jq (jr [jx 58 1 54 56,ol 59 1 58,om 9 59]) [1,2,5,6,7,9,54,55,56] (jq (jr [om 60 9,jn 61 60,jw 62 0]) [1,2,5,6,7,54,55,56,60,61,62] (jk 6 (jq (jr [jB 63 .lss 62 61]) [1,2,5,6,7,54,55,56,60,61,62,63] (jq (jC 63 .skip (.exit 6)) [1,2,5,6,7,54,55,56,60,61,62] (jq (.block 7 (jq (jr [jx 64 3 60 62,oL 65 3 64,oo 11 (.alloc 51 [(.int .i64 0),(.fsl []),(.fsl [])]),jS 3 11 65]) [1,2,5,6,7,11,54,55,56,60,61,62] (jR [om 66 5,oA 67 0 11,ol 68 1 67,om 69 5,oA 70 0 11,ol 71 1 70,jx 72 1 69 71,ol 73 1 72,om 74 73,jM 75 74 1 2,jF 76 74 1,jM 77 74 3 11,oF 78 74 (.call 28 [.s 75,.s 76,.s 77]),oo 79 (.pick (.s 74) (.c (.bool true)) (.s 78)),jx 80 1 66 68,jS 1 80 79]))) [1,2,5,6,7,54,55,56,60,61,62] (jr [jb 81 .add 62 1,om 62 81])))))))) [1,2,5,6,7,54,55,56] (jr [jb 82 .add 56 1,om 56 82])))))))) [1,2,5,6,7] (jr [om 35 7,jb 36 .add 35 1,om 7 36])))))) [1,2,5,6] (jr [om 29 6,jb 30 .add 29 1,om 6 30]))))) [5] (jq (jr [om 83 5,om 4 83]) [4] .ret)))))⟩
def tf16 : TFn := ⟨26,[.tmp 4],jq (jr [jv 4 jf]) [0,1] (jq (jq (jr [om 6 0,jn 7 6,om 8 1,jn 9 8,jB 10 .neq 7 9]) [0,1,10] (jC 10 (jq (jr [jv 4 jf]) [4] .ret) .skip)) [0,1] (jq (jq (jr [jw 5 0]) [0,1,5] (jk 0 (jq (jq (jr [om 11 5,om 12 0,jn 13 12,jB 14 .lss 11 13]) [0,1,5,14] (jC 14 .skip (.exit 0))) [0,1,5] (jq (.block 1 (jq (jR [om 17 0,om 18 5,jx 19 1 17 18,ol 20 1 19,om 21 1,om 22 5,jx 23 1 21 22,ol 24 1 23,jB 25 .neq 20 24]) [0,1,5,25] (jC 25 (jq (jr [jv 4 jf]) [4] .ret) .skip))) [0,1,5] (jr [om 15 5,jb 16 .add 15 1,om 5 16]))))) [] (jq (jr [oo 4 (.mov (.c (.bool true)))]) [4] .ret)))⟩
def tf17 : TFn := ⟨37,[.tmp 4],jq (jr [jo 2 24 0,jv 4 je]) [1,2,900000] (jq (jq (jr [oL 8 1 2,om 9 1,jc 10 6 [.s 8,.s 9,.s 900000],oo 11 (.un .not (.s 10))]) [1,2,11,900000] (jC 11 (jq (jr [jv 4 je]) [4] .ret) .skip)) [1,2,900000] (jq (jr [om 12 1,jn 13 12,oo 14 (.makeSlice 1 3 8 [(.int .i64 0)] (.s 13) (.s 13)),om 5 14]) [1,2,5,900000] (jq (jq (jr [oL 15 1 2,om 16 1,jc 17 14 [.s 15,.s 16,.s 900000],jn 18 17,jw 19 0]) [1,5,17,18,19] (jk 0 (jq (jr [jB 20 .lss 19 18]) [1,5,17,18,19,20] (jq (jC 20 .skip (.exit 0)) [1,5,17,18,19] (jq (.block 1 (jq (jr [om 21 19,jx 22 1 17 19,ol 23 1 22,om 6 21,om 7 23]) [1,5,6,7,17,18,19] (jq (jr [om 24 5,om 25 6,jx 26 1 24 25,⟨none,.store 1 (.s 26) (.c (.int .i64 (-1))),none⟩]) [1,5,6,7,17,18,19] (jq (jr [om 27 7]) [1,5,6,17,18,19,27] (jC 27 (jr [om 28 5,om 29 6,om 30 1,om 31 6,jx 32 1 30 31,ol 33 1 32,jx 34 1 28 29,jS 1 34 33]) .skip))))) [1,5,17,18,19] (jr [jb 35 .add 19 1,om 19 35])))))) [5] (jq (jr [om 36 5,om 4 36]) [4] .ret))))⟩
def tf18 : TFn := ⟨32,[.tmp 4],jq (jr [jo 2 24 0,jv 4 je]) [1,2] (jq (jr [jv 5 je]) [1,2,5] (jq (jr [oL 9 1 2,om 10 1,jc 11 15 [.s 9,.s 10],om 6 11]) [1,5,6] (jq (jq (jr [jw 7 0]) [1,5,6,7] (jk 0 (jq (jq (jr [om 12 7,om 13 6,jn 14 13,jB 15 .lss 12 14]) [1,5,6,7,15] (jC 15 .skip (.exit 0))) [1,5,6,7] (jq (.block 1 (jq (jr [om 18 1,om 19 7,jx 20 1 18 19,ol 21 1 20,om 8 21]) [1,5,6,7,8] (jq (jq (jr [om 22 6,om 23 7,jx 24 1 22 23,ol 25 1 24,oo 26 (.un .not (.s 25))]) [1,5,6,7,8,26] (jC 26 (jr [oo 8 (.mov (.c (.int .i64 (-1))))]) .skip)) [1,5,6,7,8] (jr [om 27 5,om 28 8,oo 29 (.buildSlice 1 3 [.s 28]),oo 30 (.append 1 3 8 (.s 27) (.s 29)),om 5 30])))) [1,5,6,7] (jr [om 16 7,jb 17 .add 16 1,om 7 17]))))) [5] (jq (jr [om 31 5,om 4 31]) [4] .ret))))⟩
def tf19 : TFn := ⟨4,[.cell 0 true 2],jq (jr [oo 0 (.alloc 48 [(.fsl []),(.fsl [])])]) [0] (jq (jr [jc 1 29 [],jc 2 29 [],oo 3 (.build [(.fsl []),(.fsl [])] [(0,1,(.s 1)),(1,1,(.s 2))]),jS 2 0 3]) [0] .ret)⟩
def tf20 : TFn := ⟨128,[.tmp 2],jq (jr [jo 1 24 0,jv 2 jf]) [1,900000] (jq (jr [oA 8 0 1,ol 9 1 8,jn 10 9,om 3 10]) [1,3,900000] (jq (jq (jr [om 11 3,jb 12 .lss 11 1,om 13 12,jF 14 13 3,jy 15 13 .gtr 14 48,oo 16 (.pick (.s 13) (.c (.bool true)) (.s 15)),om 17 16,ja 18 17 0 1,jm 19 17 1 18,oF 20 17 (.indexAddr 3 (.s 19) (jI 0)),ja 21 17 0 20,jm 22 17 1 21,oF 23 17 (.bin .neq false (.s 22) (.c (.str []))),oo 24 (.pick (.s 17) (.c (.bool true)) (.s 23)),om 25 24,ja 26 25 0 1,jm 27 25 1 26,oF 28 25 (.indexAddr 3 (.s 27) (jI 0)),ja 29 25 1 28,jm 30 25 1 29,oF 31 25 (.bin .neq false (.s 30) (.c (.str []))),oo 32 (.pick (.s 25) (.c (.bool true)) (.s 31)),om 33 32,ja 34 33 0 1,jm 35 33 1 34,oF 36 33 (.indexAddr 3 (.s 35) (jI 0)),ja 37 33 2 36,jm 38 33 1 37,oF 39 33 (.len (.s 38)),jy 40 33 .neq 39 1,oo 41 (.pick (.s 33) (.c (.bool true)) (.s 40))]) [1,3,41,900000] (jC 41 (jq (jr [jv 2 jf]) [2] .ret) .skip)) [1,3,900000] (jq (jq (jr [oA 42 0 1,ol 43 1 42,jn 44 43,jw 45 0]) [1,3,43,44,45,900000] (jk 0 (jq (jr [jB 46 .lss 45 44]) [1,3,43,44,45,46,900000] (jq (jC 46 .skip (.exit 0)) [1,3,43,44,45,900000] (jq (.block 1 (jq (jr [om 47 45,jx 48 3 43 45,oL 49 3 48,oo 5 (.alloc 39 [(.str []),(.str []),(.fsl [])]),om 4 47,jS 3 5 49]) [1,3,4,5,43,44,45,900000] (jq (jq (jR [om 50 4,jb 51 .gtr 50 0,om 52 51,jA 53 52 0 5,jl 54 52 1 53,oT 55 52 (.bin .eql false (.s 54) (.c (.str []))),jp 56 52 55,om 57 56,jF 58 57 4,jy 59 57 .gtr 58 1,jF 60 57 59,jA 61 60 0 1,jl 62 60 1 61,jT 63 60 4,jY 64 60 .sub 63 1,oT 65 60 (.indexAddr 3 (.s 62) (.s 64)),jA 66 60 0 65,jl 67 60 1 66,jA 68 60 0 1,jl 69 60 1 68,jT 70 60 4,jY 71 60 .sub 70 1,oT 72 60 (.indexAddr 3 (.s 69) (.s 71)),jA 73 60 1 72,jl 74 60 1 73,oT 75 60 (.build [(.str []),(.str [])] [(0,1,(.s 67)),(1,1,(.s 74))]),jA 76 60 0 5,jl 77 60 1 76,jA 78 60 1 5,jl 79 60 1 78,oT 80 60 (.build [(.str []),(.str [])] [(0,1,(.s 77)),(1,1,(.s 79))]),oT 81 60 (.call 30 [.s 75,.s 80]),jY 82 60 .geq 81 0,oF 83 57 (.pick (.s 60) (.s 82) jf),oo 84 (.pick (.s 57) (.c (.bool true)) (.s 83)),om 85 84,ja 86 85 2 5,jm 87 85 1 86,oF 88 85 (.len (.s 87)),jy 89 85 .gtr 88 16,oo 90 (.pick (.s 85) (.c (.bool true)) (.s 89))]) [1,3,5,43,44,45,90,900000] (jC 90 (jq (jr [jv 2 jf]) [2] .ret) .skip)) [1,3,5,43,44,45,900000] (jq (jr [oA 91 2 5,ol 92 1 91,jn 93 92,jw 94 0]) [1,3,5,43,44,45,92,93,94,900000] (jk 2 (jq (jr [jB 95 .lss 94 93]) [1,3,5,43,44,45,92,93,94,95,900000] (jq (jC 95 .skip (.exit 2)) [1,3,5,43,44,45,92,93,94,900000] (jq (.block 3 (jq (jr [om 96 94,jx 97 8 92 94,oL 98 8 97,oo 7 (.alloc 45 [(.int .i64 0),(.int .i64 0),(.int .i64 0),(.str []),(.str []),(.int .i64 0),(.fsl []),(.fsl [])]),om 6 96,jS 8 7 98]) [1,3,5,6,7,43,44,45,92,93,94,900000] (jq (jR [oA 99 0 7,oL 100 5 99,jc 101 31 [.s 100],oo 102 (.un .not (.s 101)),om 103 102,jF 104 103 6,jy 105 103 .gtr 104 0,jF 106 103 105,jA 107 106 2 5,jl 108 106 1 107,jT 109 106 6,jY 110 106 .sub 109 1,oT 111 106 (.indexAddr 8 (.s 108) (.s 110)),jA 112 106 0 111,jL 113 106 5 112,jA 114 106 0 7,jL 115 106 5 114,oT 116 106 (.call 32 [.s 113,.s 115]),jY 117 106 .geq 116 0,oF 118 103 (.pick (.s 106) (.s 117) jf),oo 119 (.pick (.s 103) (.c (.bool true)) (.s 118)),om 120 119,jM 121 120 8 7,jF 122 120 3,oF 123 120 (.call 33 [.s 121,.s 122,.s 900000]),oF 124 120 (.un .not (.s 123)),oo 125 (.pick (.s 120) (.c (.bool true)) (.s 124))]) [1,3,5,43,44,45,92,93,94,125,900000] (jC 125 (jq (jr [jv 2 jf]) [2] .ret) .skip)))) [1,3,5,43,44,45,92,93,94,900000] (jr [jb 126 .add 94 1,om 94 126]))))))))) [1,3,43,44,45,900000] (jr [jb 127 .add 45 1,om 45 127])))))) [] (jq (jr [oo 2 (.mov (.c (.bool true)))]) [2] .ret))))⟩
def tf21 : TFn := ⟨34,[.tmp 4],jq (jr [jo 2 24 0,jv 4 jf]) [1,2] (jq (jq (jr [om 7 1,jn 8 7,oA 9 0 2,ol 10 1 9,jn 11 10,jB 12 .neq 8 11]) [1,2,12] (jC 12 (jq (jr [jv 4 jf]) [4] .ret) .skip)) [1,2] (jq (jq (jr [om 13 1,jn 14 13,jw 15 0]) [2,13,14,15] (jk 0 (jq (jr [jB 16 .lss 15 14]) [2,13,14,15,16] (jq (jC 16 .skip (.exit 0)) [2,13,14,15] (jq (.block 1 (jq (jr [om 17 15,jx 18 1 13 15,ol 19 1 18,om 5 17,om 6 19]) [2,5,6,13,14,15] (jq (jr [om 20 6,oo 21 (.bin .lss false (.s 20) (.c (.int .i64 (-1)))),om 22 21,jF 23 22 6,ja 24 22 0 2,jm 25 22 1 24,jF 26 22 5,oF 27 22 (.indexAddr 3 (.s 25) (.s 26)),ja 28 22 2 27,jm 29 22 1 28,oF 30 22 (.len (.s 29)),oF 31 22 (.bin .geq false (.s 23) (.s 30)),oo 32 (.pick (.s 22) (.c (.bool true)) (.s 31))]) [2,13,14,15,32] (jC 32 (jq (jr [jv 4 jf]) [4] .ret) .skip)))) [2,13,14,15] (jr [jb 33 .add 15 1,om 15 33])))))) [] (jq (jr [oo 4 (.mov (.c (.bool true)))]) [4] .ret)))⟩
def tf22 : TFn := ⟨25,[.tmp 2],jq (jr [jo 1 24 0,jv 2 jf]) [1] (jq (jq (jr [oA 4 0 1,ol 5 1 4,jn 6 5,jb 7 .lss 6 1,om 8 7,ja 9 8 0 1,jm 10 8 1 9,oF 11 8 (.len (.s 10)),jy 12 8 .gtr 11 48,oo 13 (.pick (.s 8) (.c (.bool true)) (.s 12))]) [1,13] (jC 13 (jq (jr [jv 2 jf]) [2] .ret) .skip)) [1] (jq (jq (jr [jw 3 0]) [1,3] (jk 0 (jq (jq (jr [om 14 3,oA 15 0 1,ol 16 1 15,jn 17 16,jB 18 .lss 14 17]) [1,3,18] (jC 18 .skip (.exit 0))) [1,3] (jq (.block 1 (jq (jr [oL 21 1 1,om 22 3,jc 23 34 [.s 21,.s 22],oo 24 (.un .not (.s 23))]) [1,3,24] (jC 24 (jq (jr [jv 2 jf]) [2] .ret) .skip))) [1,3] (jr [om 19 3,jb 20 .add 19 1,om 3 20]))))) [] (jq (jr [oo 2 (.mov (.c (.bool true)))]) [2] .ret)))⟩
def tf23 : TFn := ⟨20,[.tmp 6],jq (jr [jo 3 24 0,jv 6 jf]) [1,2,3,900000] (jq (jq (jr [om 9 2,jn 10 9,jw 11 0]) [1,3,9,10,11,900000] (jk 0 (jq (jr [jB 12 .lss 11 10]) [1,3,9,10,11,12,900000] (jq (jC 12 .skip (.exit 0)) [1,3,9,10,11,900000] (jq (.block 1 (jq (jr [jx 13 3 9 11,oL 14 3 13,oo 8 (.alloc 51 [(.int .i64 0),(.fsl []),(.fsl [])]),jS 3 8 14]) [1,3,8,9,10,11,900000] (jq (jr [oL 15 1 3,om 16 1,oL 17 3 8,jc 18 24 [.s 15,.s 16,.s 17,.s 900000]]) [1,3,9,10,11,18,900000] (jC 18 (jq (jr [oo 6 (.mov (.c (.bool true)))]) [6] .ret) .skip)))) [1,3,9,10,11,900000] (jr [jb 19 .add 11 1,om 11 19])))))) [] (jq (jr [jv 6 jf]) [6] .ret))⟩
def tf24 : TFn := ⟨31,[.tmp 6],jq (jr [jo 3 24 0,jo 5 51 2,jv 6 jf]) [1,3,5,900000] (jq (jr [om 8 1,oA 9 0 5,ol 10 1 9,jx 11 1 8 10,ol 12 1 11,om 7 12]) [3,5,7,900000] (jq (jR [om 13 7,jb 14 .geq 13 0,om 15 14,jA 16 15 1 5,jL 17 15 2 16,jA 18 15 0 3,jl 19 15 1 18,jA 20 15 0 5,jl 21 15 1 20,oT 22 15 (.indexAddr 3 (.s 19) (.s 21)),jA 23 15 2 22,jl 24 15 1 23,jT 25 15 7,oT 26 15 (.indexAddr 8 (.s 24) (.s 25)),jA 27 15 0 26,jL 28 15 5 27,oT 29 15 (.call 35 [.s 17,.s 28,.s 900000]),jp 30 15 29,om 6 30]) [6] .ret))⟩
def tf25 : TFn := ⟨67,[.tmp 6],jq (jr [jo 3 24 0,jv 6 je]) [1,2,3] (jq (jr [jv 7 je]) [1,2,3,7] (jq (jR [oA 11 0 3,ol 12 1 11,om 13 2,jx 14 3 12 13,oA 15 2 14,ol 16 1 15,om 17 1,om 18 2,jx 19 1 17 18,ol 20 1 19,jx 21 8 16 20,oL 22 8 21,oo 8 (.alloc 45 [(.int .i64 0),(.int .i64 0),(.int .i64 0),(.str []),(.str []),(.int .i64 0),(.fsl []),(.fsl [])]),jS 8 8 22]) [1,2,3,7,8] (jq (jq (jr [jw 9 0]) [1,2,3,7,8,9] (jk 0 (jq (jq (jr [om 23 9,oA 24 6 8,ol 25 1 24,jn 26 25,jB 27 .lss 23 26]) [1,2,3,7,8,9,27] (jC 27 .skip (.exit 0))) [1,2,3,7,8,9] (jq (.block 1 (jq (jR [oL 30 1 3,om 31 1,oA 32 6 8,ol 33 1 32,om 34 9,jx 35 1 33 34,ol 36 1 35,jc 37 36 [.s 30,.s 31,.s 36],oo 38 (.un .not (.s 37))]) [1,2,3,7,8,9,38] (jC 38 (jr [om 39 7,om 40 2,om 41 9,oo 42 (.build [(.int .i64 0),(.int .i64 0),(.int .i64 0)] [(0,1,(jI 2)),(1,1,(.s 40)),(2,1,(.s 41))]),oo 43 (.buildSlice 3 53 [.s 42]),oo 44 (.append 3 53 24 (.s 39) (.s 43)),om 7 44]) .skip))) [1,2,3,7,8,9] (jr [om 28 9,jb 29 .add 28 1,om 9 29]))))) [1,2,3,7,8] (jq (jq (jr [jw 10 0]) [1,2,3,7,8,10] (jk 2 (jq (jq (jr [om 45 10,oA 46 7 8,ol 47 1 46,jn 48 47,jB 49 .lss 45 48]) [1,2,3,7,8,10,49] (jC 49 .skip (.exit 2))) [1,2,3,7,8,10] (jq (.block 3 (jq (jR [oL 52 1 3,om 53 1,oA 54 7 8,ol 55 1 54,om 56 10,jx 57 3 55 56,oL 58 3 57,jc 59 28 [.s 52,.s 53,.s 58]]) [1,2,3,7,8,10,59] (jC 59 (jr [om 60 7,om 61 2,om 62 10,oo 63 (.build [(.int .i64 0),(.int .i64 0),(.int .i64 0)] [(0,1,(jI 3)),(1,1,(.s 61)),(2,1,(.s 62))]),oo 64 (.buildSlice 3 53 [.s 63]),oo 65 (.append 3 53 24 (.s 60) (.s 64)),om 7 65]) .skip))) [1,2,3,7,8,10] (jr [om 50 10,jb 51 .add 50 1,om 10 51]))))) [7] (jq (jr [om 66 7,om 6 66]) [6] .ret)))))⟩
def tf26 : TFn := ⟨14,[],jr [om 4 0,om 5 0,jh 6 5,oA 7 0 6,ol 8 1 7,om 9 1,oo 10 (.buildSlice 1 3 [.s 9]),oo 11 (.append 1 3 8 (.s 8) (.s 10)),jh 12 4,oA 13 0 12,jS 1 13 11]⟩
def tf27 : TFn := ⟨27,[.tmp 2,.tmp 3],jq (jr [jw 2 0,jv 3 jf]) [0] (jq (jr [jw 4 0]) [0,4] (jq (jq (jr [om 5 0,jh 6 5,oA 7 0 6,ol 8 1 7,jn 9 8,jb 10 .eql 9 0]) [0,4,10] (jC 10 (jq (jr [om 11 4,om 2 11,jv 3 jf]) [2,3] .ret) .skip)) [0] (jq (jR [om 12 0,om 13 0,jh 14 13,oA 15 0 14,ol 16 1 15,oo 17 (.indexAddr 1 (.s 16) (jI 0)),ol 18 1 17,om 19 0,jh 20 19,oA 21 0 20,ol 22 1 21,oo 23 (.slice 1 (.s 22) (some (jI 1)) none none),om 4 18,jh 24 12,oA 25 0 24,jS 1 25 23]) [4] (jq (jr [om 26 4,om 2 26,oo 3 (.mov (.c (.bool true)))]) [2,3] .ret))))⟩
def tf28 : TFn := ⟨33,[.tmp 6],jq (jr [jo 3 24 0,jo 5 51 2,jv 6 jf]) [1,3,5] (jq (jR [om 7 1,oA 8 0 5,ol 9 1 8,jx 10 1 7 9,ol 11 1 10,jb 12 .geq 11 0,om 13 12,jA 14 13 1 5,jL 15 13 2 14,jA 16 13 0 3,jl 17 13 1 16,jA 18 13 0 5,jl 19 13 1 18,oT 20 13 (.indexAddr 3 (.s 17) (.s 19)),jA 21 13 2 20,jl 22 13 1 21,jT 23 13 1,jA 24 13 0 5,jl 25 13 1 24,oT 26 13 (.indexAddr 1 (.s 23) (.s 25)),jl 27 13 1 26,oT 28 13 (.indexAddr 8 (.s 22) (.s 27)),jA 29 13 0 28,jL 30 13 5 29,oT 31 13 (.call 37 [.s 15,.s 30]),jp 32 13 31,om 6 32]) [6] .ret)⟩
def tf29 : TFn := ⟨5,[.tmp 0],jq (jr [jv 0 je]) [] (jq (jr [jc 1 38 [],jc 2 39 [],oo 3 (.build [(.int .i64 0),(.int .i64 0),(.int .i64 0),(.int .i64 0),(.str []),(.str []),(.bool false),(.int .i64 0),(.int .i64 0),(.int .i64 0),(.int .i64 0),(.str []),(.str []),(.bool false)] [(0,7,(.s 1)),(7,7,(.s 2))]),oo 4 (.buildSlice 14 76 [.s 3]),om 0 4]) [0] .ret)⟩
def tf30 : TFn := ⟨17,[.tmp 4],jq (jr [jo 2 65 0,jo 3 65 1,jw 4 0]) [2,3] (jq (jR [oA 5 0 2,ol 6 1 5,oA 7 0 3,ol 8 1 7,jc 9 41 [.s 6,.s 8],oA 10 1 2,ol 11 1 10,oA 12 1 3,ol 13 1 12,jc 14 41 [.s 11,.s 13],oo 15 (.buildSlice 1 3 [.s 9,.s 14]),jc 16 40 [.s 15],om 4 16]) [4] .ret)⟩
def tf31 : TFn := ⟨36,[.tmp 2],jq (jr [jo 1 41 0,jv 2 jf]) [1] (jq (jr [oA 3 0 1,ol 4 1 3,jc 5 42 [.s 4],om 6 5,jA 7 6 1 1,jl 8 6 1 7,oT 9 6 (.call 42 [.s 8]),jp 10 6 9,om 11 10,jA 12 11 2 1,jl 13 11 1 12,oT 14 11 (.call 42 [.s 13]),jp 15 11 14,om 16 15,jA 17 16 3 1,jl 18 16 1 17,oT 19 16 (.bin .eql false (.s 18) (.c (.str []))),jT 20 16 19,ja 21 20 3 1,jm 22 20 1 21,oF 23 20 (.call 43 [.s 22]),oT 24 16 (.pick (.s 20) (.c (.bool true)) (.s 23)),jp 25 16 24,om 26 25,jA 27 26 4 1,jl 28 26 1 27,oT 29 26 (.bin .eql false (.s 28) (.c (.str []))),jT 30 26 29,ja 31 30 4 1,jm 32 30 1 31,oF 33 30 (.call 44 [.s 32]),oT 34 26 (.pick (.s 30) (.c (.bool true)) (.s 33)),jp 35 26 34,om 2 35]) [2] .ret)⟩
def tf32 : TFn := ⟨86,[.tmp 4],jq (jr [jo 2 41 0,jo 3 41 1,jw 4 0]) [2,3] (jq (jq (jR [oL 10 5 2,jc 11 31 [.s 10],oo 12 (.un .not (.s 11)),om 13 12,jM 14 13 5 3,oF 15 13 (.call 31 [.s 14]),oF 16 13 (.un .not (.s 15)),oo 17 (.pick (.s 13) (.c (.bool true)) (.s 16)),om 18 17,jM 19 18 5 2,oF 20 18 (.call 45 [.s 19]),jM 21 18 5 3,oF 22 18 (.call 45 [.s 21]),oF 23 18 (.eqs false [0,0,0,2,2] (.s 20) (.s 22)),oo 24 (.pick (.s 18) (.c (.bool true)) (.s 23))]) [2,3,24] (jC 24 (jq (jr [jw 4 0]) [4] .ret) .skip)) [2,3] (jq (jq (jR [oA 25 0 2,ol 26 1 25,oA 27 0 3,ol 28 1 27,jc 29 46 [.s 26,.s 28],oA 30 1 2,ol 31 1 30,oA 32 1 3,ol 33 1 32,jc 34 46 [.s 31,.s 33],oA 35 2 2,ol 36 1 35,oA 37 2 3,ol 38 1 37,jc 39 46 [.s 36,.s 38],oo 40 (.buildSlice 1 3 [.s 29,.s 34,.s 39]),jc 41 40 [.s 40],om 5 41]) [2,3,5] (jq (jr [om 42 5,jb 43 .neq 42 0]) [2,3,5,43] (jC 43 (jq (jr [om 44 5,om 4 44]) [4] .ret) .skip))) [2,3] (jq (jq (jr [oA 45 3 2,ol 46 1 45,oo 47 (.bin .eql false (.s 46) (.c (.str [])))]) [2,3,47] (jC 47 (jq (jr [jw 4 1]) [4] .ret) .skip)) [2,3] (jq (jq (jr [oA 48 3 3,ol 49 1 48,oo 50 (.bin .eql false (.s 49) (.c (.str [])))]) [2,3,50] (jC 50 (jq (jr [oo 4 (.mov (.c (.int .i64 (-1))))]) [4] .ret) .skip)) [2,3] (jq (jR [oA 51 3 2,ol 52 1 51,jc 53 47 [.s 52,(.c (.int .u8 46))],oA 54 3 3,ol 55 1 54,jc 56 47 [.s 55,(.c (.int .u8 46))],om 6 53,om 7 56]) [6,7] (jq (jq (jr [jw 8 0]) [6,7,8] (jk 0 (jq (jq (jr [om 57 8,om 58 6,jn 59 58,jB 60 .lss 57 59,om 61 60,jT 62 61 8,jT 63 61 7,oT 64 61 (.len (.s 63)),oT 65 61 (.bin .lss false (.s 62) (.s 64)),jp 66 61 65]) [6,7,8,66] (jC 66 .skip (.exit 0))) [6,7,8] (jq (.block 1 (jq (jR [om 69 6,om 70 8,jx 71 1 69 70,ol 72 1 71,om 73 7,om 74 8,jx 75 1 73 74,ol 76 1 75,jc 77 48 [.s 72,.s 76],om 9 77]) [6,7,8,9] (jq (jr [om 78 9,jb 79 .neq 78 0]) [6,7,8,9,79] (jC 79 (jq (jr [om 80 9,om 4 80]) [4] .ret) .skip)))) [6,7,8] (jr [om 67 8,jb 68 .add 67 1,om 8 68]))))) [6,7] (jq (jr [om 81 6,jn 82 81,om 83 7,jn 84 83,jc 85 46 [.s 82,.s 84],om 4 85]) [4] .ret)))))))⟩
def tf33 : TFn := ⟨43,[.tmp 4],jq (jr [jo 2 45 0,jv 4 jf]) [1,2,900000] (jq (jq (jr [oA 7 6 2,ol 8 1 7,jn 9 8,jb 10 .gtr 9 24,om 11 10,ja 12 11 7 2,jm 13 11 1 12,oF 14 11 (.len (.s 13)),jy 15 11 .gtr 14 24,oo 16 (.pick (.s 11) (.c (.bool true)) (.s 15))]) [1,2,16,900000] (jC 16 (jq (jr [jv 4 jf]) [4] .ret) .skip)) [1,2,900000] (jq (jq (jr [oA 17 6 2,ol 18 1 17,jn 19 18,jw 20 0]) [1,2,18,19,20,900000] (jk 0 (jq (jr [jB 21 .lss 20 19]) [1,2,18,19,20,21,900000] (jq (jC 21 .skip (.exit 0)) [1,2,18,19,20,900000] (jq (.block 1 (jq (jr [jx 22 1 18 20,ol 23 1 22,om 6 23]) [1,2,6,18,19,20,900000] (jq (jr [om 24 6,jn 25 24,jb 26 .lss 25 1,om 27 26,jF 28 27 6,oF 29 27 (.len (.s 28)),jy 30 27 .gtr 29 24,oo 31 (.pick (.s 27) (.c (.bool true)) (.s 30)),om 32 31,jF 33 32 6,jF 34 32 1,oF 35 32 (.call 49 [.s 33,.s 34,.s 900000]),oF 36 32 (.un .not (.s 35)),oo 37 (.pick (.s 32) (.c (.bool true)) (.s 36))]) [1,2,18,19,20,37,900000] (jC 37 (jq (jr [jv 4 jf]) [4] .ret) .skip)))) [1,2,18,19,20,900000] (jr [jb 38 .add 20 1,om 20 38])))))) [1,2,900000] (jq (jr [oA 39 7 2,ol 40 1 39,om 41 1,jc 42 49 [.s 40,.s 41,.s 900000],om 4 42]) [4] .ret)))⟩
def tf34 : TFn := ⟨94,[.tmp 4],jq (jr [jo 2 24 0,jv 4 jf]) [1,2] (jq (jr [oA 7 0 2,ol 8 1 7,om 9 1,jx 10 3 8 9,oL 11 3 10,oo 5 (.alloc 39 [(.str []),(.str []),(.fsl [])]),jS 3 5 11]) [1,2,5] (jq (jq (jr [oA 12 2 5,ol 13 1 12,jn 14 13,jb 15 .gtr 14 16]) [1,2,5,15] (jC 15 (jq (jr [jv 4 jf]) [4] .ret) .skip)) [1,2,5] (jq (jq (jr [om 16 1,jb 17 .eql 16 0,om 18 17,jA 19 18 0 5,jl 20 18 1 19,oT 21 18 (.bin .neq false (.s 20) (.c (.str []))),jT 22 18 21,ja 23 22 1 5,jm 24 22 1 23,oF 25 22 (.bin .neq false (.s 24) (.c (.str []))),oT 26 18 (.pick (.s 22) (.c (.bool true)) (.s 25)),jT 27 18 26,ja 28 27 2 5,jm 29 27 1 28,oF 30 27 (.len (.s 29)),jy 31 27 .neq 30 1,oT 32 18 (.pick (.s 27) (.c (.bool true)) (.s 31)),jp 33 18 32]) [1,2,5,33] (jC 33 (jq (jr [jv 4 jf]) [4] .ret) .skip)) [1,2,5] (jq (jq (jR [om 34 1,jb 35 .gtr 34 0,om 36 35,jA 37 36 0 5,jl 38 36 1 37,oT 39 36 (.bin .eql false (.s 38) (.c (.str []))),jp 40 36 39,om 41 40,jF 42 41 1,jy 43 41 .gtr 42 1,jF 44 41 43,jA 45 44 0 2,jl 46 44 1 45,jT 47 44 1,jY 48 44 .sub 47 1,oT 49 44 (.indexAddr 3 (.s 46) (.s 48)),jL 50 44 3 49,jL 51 44 3 5,oT 52 44 (.call 50 [.s 50,.s 51]),oT 53 44 (.un .not (.s 52)),oF 54 41 (.pick (.s 44) (.s 53) jf),oo 55 (.pick (.s 41) (.c (.bool true)) (.s 54))]) [2,5,55] (jC 55 (jq (jr [jv 4 jf]) [4] .ret) .skip)) [2,5] (jq (jq (jr [jw 6 0]) [2,5,6] (jk 0 (jq (jq (jr [om 56 6,oA 57 2 5,ol 58 1 57,jn 59 58,jB 60 .lss 56 59]) [2,5,6,60] (jC 60 .skip (.exit 0))) [2,5,6] (jq (.block 1 (jq (jR [oA 63 2 5,ol 64 1 63,om 65 6,jx 66 8 64 65,oL 67 8 66,oA 68 0 2,ol 69 1 68,jn 70 69,jc 71 51 [.s 67,.s 70],oo 72 (.un .not (.s 71)),om 73 72,jF 74 73 6,jy 75 73 .gtr 74 0,jF 76 73 75,jA 77 76 2 5,jl 78 76 1 77,jT 79 76 6,jY 80 76 .sub 79 1,oT 81 76 (.indexAddr 8 (.s 78) (.s 80)),jA 82 76 0 81,jL 83 76 5 82,jA 84 76 2 5,jl 85 76 1 84,jT 86 76 6,oT 87 76 (.indexAddr 8 (.s 85) (.s 86)),jA 88 76 0 87,jL 89 76 5 88,oT 90 76 (.call 52 [.s 83,.s 89]),jY 91 76 .geq 90 0,oF 92 73 (.pick (.s 76) (.s 91) jf),oo 93 (.pick (.s 73) (.c (.bool true)) (.s 92))]) [2,5,6,93] (jC 93 (jq (jr [jv 4 jf]) [4] .ret) .skip))) [2,5,6] (jr [om 61 6,jb 62 .add 61 1,om 6 62]))))) [] (jq (jr [oo 4 (.mov (.c (.bool true)))]) [4] .ret))))))⟩
def tf35 : TFn := ⟨24,[.tmp 4],jq (jr [jo 2 48 0,jo 3 41 1,jv 4 jf]) [2,3,900000] (jq (jq (jr [oL 5 2 2,jc 6 53 [.s 5,.s 900000],oo 7 (.un .not (.s 6)),om 8 7,jM 9 8 5 3,oF 10 8 (.call 31 [.s 9]),oF 11 8 (.un .not (.s 10)),oo 12 (.pick (.s 8) (.c (.bool true)) (.s 11))]) [2,3,12] (jC 12 (jq (jr [jv 4 jf]) [4] .ret) .skip)) [2,3] (jq (jq (jr [oA 13 3 3,ol 14 1 13,oo 15 (.bin .eql false (.s 14) (.c (.str [])))]) [2,3,15] (jC 15 (jq (jr [oA 16 0 2,ol 17 1 16,oL 18 5 3,jc 19 54 [.s 17,.s 18],om 4 19]) [4] .ret) .skip)) [2,3] (jq (jr [oA 20 1 2,ol 21 1 20,oL 22 5 3,jc 23 54 [.s 21,.s 22],om 4 23]) [4] .ret)))⟩
def tf36 : TFn := ⟨21,[.tmp 6],jq (jr [jo 3 24 0,jv 6 jf]) [1,2,3] (jq (jq (jr [jw 7 0]) [1,2,3,7] (jk 0 (jq (jq (jr [om 8 7,om 9 2,jn 10 9,jB 11 .lss 8 10]) [1,2,3,7,11] (jC 11 .skip (.exit 0))) [1,2,3,7] (jq (.block 1 (jq (jR [oL 14 1 3,om 15 1,om 16 2,om 17 7,jx 18 3 16 17,oL 19 3 18,jc 20 28 [.s 14,.s 15,.s 19]]) [1,2,3,7,20] (jC 20 (jq (jr [oo 6 (.mov (.c (.bool true)))]) [6] .ret) .skip))) [1,2,3,7] (jr [om 12 7,jb 13 .add 12 1,om 7 13]))))) [] (jq (jr [jv 6 jf]) [6] .ret))⟩
def tf37 : TFn := ⟨24,[.tmp 4],jq (jr [jo 2 48 0,jo 3 41 1,jv 4 jf]) [2,3] (jq (jq (jr [oL 5 2 2,jc 6 55 [.s 5],oo 7 (.un .not (.s 6)),om 8 7,jM 9 8 5 3,oF 10 8 (.call 56 [.s 9]),oF 11 8 (.un .not (.s 10)),oo 12 (.pick (.s 8) (.c (.bool true)) (.s 11))]) [2,3,12] (jC 12 (jq (jr [jv 4 jf]) [4] .ret) .skip)) [2,3] (jq (jq (jr [oA 13 3 3,ol 14 1 13,oo 15 (.bin .eql false (.s 14) (.c (.str [])))]) [2,3,15] (jC 15 (jq (jr [oA 16 0 2,ol 17 1 16,oL 18 5 3,jc 19 57 [.s 17,.s 18],om 4 19]) [4] .ret) .skip)) [2,3] (jq (jr [oA 20 1 2,ol 21 1 20,oL 22 5 3,jc 23 57 [.s 21,.s 22],om 4 23]) [4] .ret)))⟩
def tf38 : TFn := ⟨2,[.cell 0 true 7],jq (jr [oo 0 (.alloc 73 [(.int .i64 0),(.int .i64 0),(.int .i64 0),(.int .i64 0),(.str []),(.str []),(.bool false)])]) [0] (jq (jr [oo 1 (.build [(.int .i64 0),(.int .i64 0),(.int .i64 0),(.int .i64 0),(.str []),(.str []),(.bool false)] [(0,1,(.c (.int .i64 (-1))))]),jS 7 0 1]) [0] .ret)⟩
def tf39 : TFn := ⟨2,[.cell 0 true 7],jq (jr [oo 0 (.alloc 73 [(.int .i64 0),(.int .i64 0),(.int .i64 0),(.int .i64 0),(.str []),(.str []),(.bool false)])]) [0] (jq (jr [oo 1 (.build [(.int .i64 0),(.int .i64 0),(.int .i64 0),(.int .i64 0),(.str []),(.str []),(.bool false)] [(0,1,(jI 1))]),jS 7 0 1]) [0] .ret)⟩
def tf40 : TFn := ⟨18,[.tmp 2],jq (jr [jw 2 0]) [0] (jq (jr [jw 3 0]) [0,3] (jq (jq (jr [om 6 0,jn 7 6,jw 8 0]) [3,6,7,8] (jk 0 (jq (jr [jB 9 .lss 8 7]) [3,6,7,8,9] (jq (jC 9 .skip (.exit 0)) [3,6,7,8] (jq (.block 1 (jq (jr [jx 10 1 6 8,ol 11 1 10,om 5 11]) [3,5,6,7,8] (jq (jr [om 12 5,om 13 3,jB 14 .neq 12 13]) [3,5,6,7,8,14] (jC 14 (jq (jr [om 15 5,om 2 15]) [2] .ret) .skip)))) [3,6,7,8] (jr [jb 16 .add 8 1,om 8 16])))))) [3] (jq (jr [om 17 3,om 2 17]) [2] .ret)))⟩
def tf41 : TFn := ⟨20,[.tmp 4],jq (jr [jw 4 0]) [0,1] (jq (jr [om 7 0,jc 8 58 [.s 7],om 5 8]) [0,1,5] (jq (jr [om 9 1,jc 10 58 [.s 9],om 6 10]) [0,1,5,6] (jq (jq (jr [om 11 5]) [0,1,6,11] (jC 11 (jq (jq (jr [om 12 6]) [12] (jC 12 (jq (jr [jw 4 0]) [4] .ret) .skip)) [] (jq (jr [oo 4 (.mov (.c (.int .i64 (-1))))]) [4] .ret)) .skip)) [0,1,6] (jq (jq (jr [om 13 6]) [0,1,13] (jC 13 (jq (jr [jw 4 1]) [4] .ret) .skip)) [0,1] (jq (jq (jr [om 14 0,om 15 1,jB 16 .lss 14 15]) [0,1,16] (jC 16 (jq (jr [oo 4 (.mov (.c (.int .i64 (-1))))]) [4] .ret) .skip)) [0,1] (jq (jq (jr [om 17 0,om 18 1,jB 19 .gtr 17 18]) [19] (jC 19 (jq (jr [jw 4 1]) [4] .ret) .skip)) [] (jq (jr [jw 4 0]) [4] .ret)))))))⟩
def tf42 : TFn := ⟨9,[.tmp 2],jq (jr [jv 2 jf]) [0] (jq (jr [om 3 0,jb 4 .geq 3 0,om 5 4,jT 6 5 0,jY 7 5 .leq 6 9999,jp 8 5 7,om 2 8]) [2] .ret)⟩
def tf43 : TFn := ⟨29,[.tmp 2],jq (jr [jv 2 jf]) [0] (jq (jq (jr [om 7 0,jc 8 44 [.s 7],oo 9 (.un .not (.s 8))]) [0,9] (jC 9 (jq (jr [jv 2 jf]) [2] .ret) .skip)) [0] (jq (jq (jr [om 10 0,jc 11 47 [.s 10,(.c (.int .u8 46))],jn 12 11,jw 13 0]) [11,12,13] (jk 0 (jq (jr [jB 14 .lss 13 12]) [11,12,13,14] (jq (jC 14 .skip (.exit 0)) [11,12,13] (jq (.block 1 (jq (jr [jx 15 1 11 13,ol 16 1 15,om 4 16]) [4,11,12,13] (jq (jr [om 18 4,jc 19 59 [.s 18],om 17 19,oe 20 0 17,oe 21 1 17,om 5 20,om 6 21]) [4,6,11,12,13] (jq (jr [om 22 4,jc 23 60 [.s 22],om 24 23,jT 25 24 6,oT 26 24 (.un .not (.s 25)),jp 27 24 26]) [11,12,13,27] (jC 27 (jq (jr [jv 2 jf]) [2] .ret) .skip))))) [11,12,13] (jr [jb 28 .add 13 1,om 13 28])))))) [] (jq (jr [oo 2 (.mov (.c (.bool true)))]) [2] .ret)))⟩
def tf44 : TFn := ⟨52,[.tmp 2],jq (jr [jv 2 jf]) [0] (.scope (jq (jr [om 9 0,jc 10 47 [.s 9,(.c (.int .u8 46))],om 3 10]) [3] (jq (jr [om 11 3,jn 12 11,jb 13 .leq 12 4,om 4 13]) [3,4] (.seq .skip [3,4] (jq (jq (jr [om 14 3,jn 15 14,jw 16 0]) [4,14,15,16] (jk 0 (jq (jr [jB 17 .lss 16 15]) [4,14,15,16,17] (jq (jC 17 .skip (.exit 0)) [4,14,15,16] (jq (.block 1 (jq (jr [jx 18 1 14 16,ol 19 1 18,om 6 19]) [4,6,14,15,16] (jq (jq (jr [om 20 6,oo 21 (.bin .eql false (.s 20) (.c (.str []))),om 22 21,jF 23 22 6,oF 24 22 (.lenStr (.s 23)),jy 25 22 .gtr 24 8,oo 26 (.pick (.s 22) (.c (.bool true)) (.s 25))]) [4,6,14,15,16,26] (jC 26 (jq (jr [jv 4 jf]) [4] (.exit 0)) .skip)) [4,6,14,15,16] (jq (jr [om 27 6,oo 28 (.range (.s 27))]) [4,14,15,16,28] (jk 2 (jq (jr [oo 29 (.next (.s 28)),oe 30 0 29]) [4,14,15,16,28,29,30] (jq (jC 30 .skip (.exit 2)) [4,14,15,16,28,29] (.block 3 (jq (jr [oe 31 2 29,om 8 31]) [4,8,14,15,16,28] (jq (jr [om 32 8,oo 33 (.bin .lss false (.s 32) (.c (.int .i32 97))),om 34 33,jF 35 34 8,oF 36 34 (.bin .gtr false (.s 35) (.c (.int .i32 122))),oo 37 (.pick (.s 34) (.c (.bool true)) (.s 36)),om 38 37,jT 39 38 8,oT 40 38 (.bin .lss false (.s 39) (.c (.int .i32 48))),jT 41 38 40,jF 42 41 8,oF 43 41 (.bin .gtr false (.s 42) (.c (.int .i32 57))),oT 44 38 (.pick (.s 41) (.c (.bool true)) (.s 43)),jp 45 38 44,om 46 45,jT 47 46 8,oT 48 46 (.bin .neq false (.s 47) (.c (.int .i32 45))),jp 49 46 48]) [4,14,15,16,28,49] (jC 49 (jq (jr [jv 4 jf]) [4] (.exit 0)) .skip))))))))))) [4,14,15,16] (jr [jb 50 .add 16 1,om 16 50])))))) [4] (jq (jr [om 51 4,om 2 51]) [2] .ret))))))⟩
def tf45 : TFn := ⟨5,[.cell 2 true 5],jq (jr [jo 1 41 0,oo 2 (.alloc 41 [(.int .i64 0),(.int .i64 0),(.int .i64 0),(.str []),(.str [])])]) [1,2] (jq (jr [oA 3 4 1,⟨none,.store 1 (.s 3) (.c (.str [])),none⟩]) [1,2] (jq (jr [oL 4 5 1,jS 5 2 4]) [2] .ret))⟩
def tf46 : TFn := ⟨20,[.tmp 4],jq (jr [jw 4 0]) [0,1] (jq (jr [om 7 0,jc 8 61 [.s 7],om 5 8]) [0,1,5] (jq (jr [om 9 1,jc 10 61 [.s 9],om 6 10]) [0,1,5,6] (jq (jq (jr [om 11 5]) [0,1,6,11] (jC 11 (jq (jq (jr [om 12 6]) [12] (jC 12 (jq (jr [jw 4 0]) [4] .ret) .skip)) [] (jq (jr [oo 4 (.mov (.c (.int .i64 (-1))))]) [4] .ret)) .skip)) [0,1,6] (jq (jq (jr [om 13 6]) [0,1,13] (jC 13 (jq (jr [jw 4 1]) [4] .ret) .skip)) [0,1] (jq (jq (jr [om 14 0,om 15 1,jB 16 .lss 14 15]) [0,1,16] (jC 16 (jq (jr [oo 4 (.mov (.c (.int .i64 (-1))))]) [4] .ret) .skip)) [0,1] (jq (jq (jr [om 17 0,om 18 1,jB 19 .gtr 17 18]) [19] (jC 19 (jq (jr [jw 4 1]) [4] .ret) .skip)) [] (jq (jr [jw 4 0]) [4] .ret)))))))⟩
def tf47 : TFn := ⟨34,[.tmp 4],jq (jr [jv 4 je]) [0,1] (jq (jr [jv 5 je]) [0,1,5] (jq (jr [jw 6 0]) [0,1,5,6] (jq (jq (jr [om 8 0,oo 9 (.lenStr (.s 8)),jw 10 0]) [0,1,5,6,9,10] (jk 0 (jq (jr [jB 11 .lss 10 9]) [0,1,5,6,9,10,11] (jq (jC 11 .skip (.exit 0)) [0,1,5,6,9,10] (jq (.block 1 (jq (jr [om 12 10,om 7 12]) [0,1,5,6,7,9,10] (jq (jr [om 13 0,om 14 7,oo 15 (.indexStr (.s 13) (.s 14)),om 16 1,jB 17 .eql 15 16]) [0,1,5,6,7,9,10,17] (jC 17 (jq (jr [om 18 5,om 19 0,om 20 6,om 21 7,oo 22 (.sliceStr (.s 19) (some (.s 20)) (some (.s 21))),oo 23 (.buildSlice 1 9 [.s 22]),oo 24 (.append 1 9 16 (.s 18) (.s 23)),om 5 24]) [0,1,5,7,9,10] (jr [om 25 7,jb 26 .add 25 1,om 6 26])) .skip)))) [0,1,5,6,9,10] (jr [jb 27 .add 10 1,om 10 27])))))) [0,5,6] (jq (jr [om 28 5,om 29 0,om 30 6,oo 31 (.sliceStr (.s 29) (some (.s 30)) none),oo 32 (.buildSlice 1 9 [.s 31]),oo 33 (.append 1 9 16 (.s 28) (.s 32)),om 4 33]) [4] .ret))))⟩
def tf48 : TFn := ⟨39,[.tmp 4],jq (jr [jw 4 0]) [0,1] (jq (jr [om 11 0,jc 12 60 [.s 11],om 13 1,jc 14 60 [.s 13],om 5 12,om 6 14]) [0,1,5,6] (jq (jq (jr [om 15 5,om 16 15,jT 17 16 6,jp 18 16 17]) [0,1,5,6,18] (jC 18 (jq (jr [om 20 0,jc 21 59 [.s 20],om 19 21,oe 22 0 19,oe 23 1 19,om 7 22,om 8 23]) [1,7] (jq (jr [om 25 1,jc 26 59 [.s 25],om 24 26,oe 27 0 24,oe 28 1 24,om 9 27,om 10 28]) [7,9] (jq (jr [om 29 7,om 30 9,jc 31 46 [.s 29,.s 30],om 4 31]) [4] .ret))) .skip)) [0,1,5,6] (jq (jq (jr [om 32 5,om 33 6,oo 34 (.bin .neq true (.s 32) (.s 33))]) [0,1,5,34] (jC 34 (jq (jq (jr [om 35 5]) [35] (jC 35 (jq (jr [oo 4 (.mov (.c (.int .i64 (-1))))]) [4] .ret) .skip)) [] (jq (jr [jw 4 1]) [4] .ret)) .skip)) [0,1] (jq (jr [om 36 0,om 37 1,jc 38 41 [.s 36,.s 37],om 4 38]) [4] .ret))))⟩
def tf49 : TFn := ⟨29,[.tmp 4],jq (jr [jv 4 jf]) [0,1,900000] (jq (jq (jr [om 7 0,jn 8 7,jw 9 0]) [1,7,8,9,900000] (jk 0 (jq (jr [jB 10 .lss 9 8]) [1,7,8,9,10,900000] (jq (jC 10 .skip (.exit 0)) [1,7,8,9,900000] (jq (.block 1 (jq (jr [jx 11 3 7 9,oL 12 3 11,oo 6 (.alloc 51 [(.int .i64 0),(.fsl []),(.fsl [])]),jS 3 6 12]) [1,6,7,8,9,900000] (jq (jr [oA 13 0 6,ol 14 1 13,jb 15 .lss 14 1,om 16 15,ja 17 16 0 6,jm 18 16 1 17,jF 19 16 1,oF 20 16 (.bin .geq false (.s 18) (.s 19)),oo 21 (.pick (.s 16) (.c (.bool true)) (.s 20)),om 22 21,ja 23 22 1 6,jM 24 22 2 23,oF 25 22 (.call 53 [.s 24,.s 900000]),oF 26 22 (.un .not (.s 25)),oo 27 (.pick (.s 22) (.c (.bool true)) (.s 26))]) [1,7,8,9,27,900000] (jC 27 (jq (jr [jv 4 jf]) [4] .ret) .skip)))) [1,7,8,9,900000] (jr [jb 28 .add 9 1,om 9 28])))))) [] (jq (jr [oo 4 (.mov (.c (.bool true)))]) [4] .ret))⟩
def tf50 : TFn := ⟨24,[.tmp 4],jq (jr [jo 2 39 0,jo 3 39 1,jv 4 jf]) [2,3] (jq (jr [oA 5 0 2,ol 6 1 5,oA 7 0 3,ol 8 1 7,jB 9 .lss 6 8,om 10 9,ja 11 10 0 2,jm 12 10 1 11,ja 13 10 0 3,jm 14 10 1 13,oF 15 10 (.bin .eql false (.s 12) (.s 14)),jF 16 10 15,jA 17 16 1 2,jl 18 16 1 17,jA 19 16 1 3,jl 20 16 1 19,oT 21 16 (.bin .lss false (.s 18) (.s 20)),oF 22 10 (.pick (.s 16) (.s 21) jf),oo 23 (.pick (.s 10) (.c (.bool true)) (.s 22)),om 4 23]) [4] .ret)⟩
def tf51 : TFn := ⟨53,[.tmp 4],jq (jr [jo 2 45 0,jv 4 jf]) [1,2] (jq (jq (jr [oA 7 0 2,oL 8 5 7,jc 9 56 [.s 8],oo 10 (.un .not (.s 9)),om 11 10,ja 12 11 6 2,jm 13 11 1 12,oF 14 11 (.len (.s 13)),jy 15 11 .gtr 14 24,oo 16 (.pick (.s 11) (.c (.bool true)) (.s 15)),om 17 16,ja 18 17 7 2,jm 19 17 1 18,oF 20 17 (.len (.s 19)),jy 21 17 .gtr 20 24,oo 22 (.pick (.s 17) (.c (.bool true)) (.s 21))]) [1,2,22] (jC 22 (jq (jr [jv 4 jf]) [4] .ret) .skip)) [1,2] (jq (jq (jr [jw 5 0]) [1,2,5] (jk 0 (jq (jq (jr [om 23 5,oA 24 6 2,ol 25 1 24,jn 26 25,jB 27 .lss 23 26]) [1,2,5,27] (jC 27 .skip (.exit 0))) [1,2,5] (jq (.block 1 (jq (jr [oA 30 6 2,ol 31 1 30,om 32 5,jx 33 1 31 32,ol 34 1 33,om 35 1,jc 36 62 [.s 34,.s 35],oo 37 (.un .not (.s 36))]) [1,2,5,37] (jC 37 (jq (jr [jv 4 jf]) [4] .ret) .skip))) [1,2,5] (jr [om 28 5,jb 29 .add 28 1,om 5 29]))))) [1,2] (jq (jq (jr [jw 6 0]) [1,2,6] (jk 2 (jq (jq (jr [om 38 6,oA 39 7 2,ol 40 1 39,jn 41 40,jB 42 .lss 38 41]) [1,2,6,42] (jC 42 .skip (.exit 2))) [1,2,6] (jq (.block 3 (jq (jr [oA 45 7 2,ol 46 1 45,om 47 6,jx 48 3 46 47,oL 49 3 48,om 50 1,jc 51 63 [.s 49,.s 50],oo 52 (.un .not (.s 51))]) [1,2,6,52] (jC 52 (jq (jr [jv 4 jf]) [4] .ret) .skip))) [1,2,6] (jr [om 43 6,jb 44 .add 43 1,om 6 44]))))) [] (jq (jr [oo 4 (.mov (.c (.bool true)))]) [4] .ret))))⟩
def tf52 : TFn := ⟨45,[.tmp 4],jq (jr [jo 2 41 0,jo 3 41 1,jw 4 0]) [2,3] (jq (jq (jr [oL 8 5 2,jc 9 56 [.s 8],oo 10 (.un .not (.s 9)),om 11 10,jM 12 11 5 3,oF 13 11 (.call 56 [.s 12]),oF 14 11 (.un .not (.s 13)),oo 15 (.pick (.s 11) (.c (.bool true)) (.s 14))]) [2,3,15] (jC 15 (jq (jr [jw 4 0]) [4] .ret) .skip)) [2,3] (jq (jq (jr [oA 16 0 2,ol 17 1 16,oA 18 0 3,ol 19 1 18,jc 20 64 [.s 17,.s 19],om 5 20]) [2,3,5] (jq (jr [om 21 5,jb 22 .neq 21 0]) [2,3,5,22] (jC 22 (jq (jr [om 23 5,om 4 23]) [4] .ret) .skip))) [2,3] (jq (jq (jr [oA 24 1 2,ol 25 1 24,oA 26 1 3,ol 27 1 26,jc 28 64 [.s 25,.s 27],om 6 28]) [2,3,6] (jq (jr [om 29 6,jb 30 .neq 29 0]) [2,3,6,30] (jC 30 (jq (jr [om 31 6,om 4 31]) [4] .ret) .skip))) [2,3] (jq (jq (jr [oA 32 2 2,ol 33 1 32,oA 34 2 3,ol 35 1 34,jc 36 64 [.s 33,.s 35],om 7 36]) [2,3,7] (jq (jr [om 37 7,jb 38 .neq 37 0]) [2,3,7,38] (jC 38 (jq (jr [om 39 7,om 4 39]) [4] .ret) .skip))) [2,3] (jq (jr [oA 40 3 2,ol 41 1 40,oA 42 3 3,ol 43 1 42,jc 44 65 [.s 41,.s 43],om 4 44]) [4] .ret)))))⟩
def tf53 : TFn := ⟨31,[.tmp 2],jq (jr [jo 1 48 0,jv 2 jf]) [1,900000] (jq (jq (jr [oA 5 0 1,ol 6 1 5,jn 7 6,jw 8 0]) [1,6,7,8,900000] (jk 0 (jq (jr [jB 9 .lss 8 7]) [1,6,7,8,9,900000] (jq (jC 9 .skip (.exit 0)) [1,6,7,8,900000] (jq (.block 1 (jq (jr [jx 10 14 6 8,oL 11 14 10,oo 4 (.alloc 76 [(.int .i64 0),(.int .i64 0),(.int .i64 0),(.int .i64 0),(.str []),(.str []),(.bool false),(.int .i64 0),(.int .i64 0),(.int .i64 0),(.int .i64 0),(.str []),(.str []),(.bool false)]),jS 14 4 11]) [1,4,6,7,8,900000] (jq (jr [oA 12 0 4,oL 13 7 12,jc 14 66 [.s 13,.s 900000],oo 15 (.un .not (.s 14)),om 16 15,ja 17 16 7 4,jM 18 16 7 17,oF 19 16 (.call 66 [.s 18,.s 900000]),oF 20 16 (.un .not (.s 19)),oo 21 (.pick (.s 16) (.c (.bool true)) (.s 20))]) [1,6,7,8,21,900000] (jC 21 (jq (jr [jv 2 jf]) [2] .ret) .skip)))) [1,6,7,8,900000] (jr [jb 22 .add 8 1,om 8 22])))))) [1] (jq (jr [oA 23 0 1,ol 24 1 23,jc 25 67 [.s 24],om 26 25,jA 27 26 1 1,jl 28 26 1 27,oT 29 26 (.call 67 [.s 28]),jp 30 26 29,om 2 30]) [2] .ret))⟩
def tf54 : TFn := ⟨20,[.tmp 4],jq (jr [jo 3 41 1,jv 4 jf]) [0,3] (jq (jq (jr [om 7 0,jc 8 67 [.s 7],oo 9 (.un .not (.s 8))]) [0,3,9] (jC 9 (jq (jr [jv 4 jf]) [4] .ret) .skip)) [0,3] (jq (jq (jr [om 10 0,jn 11 10,jw 12 0]) [3,10,11,12] (jk 0 (jq (jr [jB 13 .lss 12 11]) [3,10,11,12,13] (jq (jC 13 .skip (.exit 0)) [3,10,11,12] (jq (.block 1 (jq (jr [jx 14 14 10 12,oL 15 14 14,oo 6 (.alloc 76 [(.int .i64 0),(.int .i64 0),(.int .i64 0),(.int .i64 0),(.str []),(.str []),(.bool false),(.int .i64 0),(.int .i64 0),(.int .i64 0),(.int .i64 0),(.str []),(.str []),(.bool false)]),jS 14 6 15]) [3,6,10,11,12] (jq (jr [oL 16 14 6,oL 17 5 3,jc 18 68 [.s 16,.s 17]]) [3,10,11,12,18] (jC 18 (jq (jr [oo 4 (.mov (.c (.bool true)))]) [4] .ret) .skip)))) [3,10,11,12] (jr [jb 19 .add 12 1,om 12 19])))))) [] (jq (jr [jv 4 jf]) [4] .ret)))⟩
def tf55 : TFn := ⟨39,[.tmp 2],jq (jr [jo 1 48 0,jv 2 jf]) [1] (jq (jq (jr [oA 4 0 1,ol 5 1 4,jc 6 69 [.s 5],oo 7 (.un .not (.s 6)),om 8 7,ja 9 8 1 1,jm 10 8 1 9,oF 11 8 (.call 69 [.s 10]),oF 12 8 (.un .not (.s 11)),oo 13 (.pick (.s 8) (.c (.bool true)) (.s 12))]) [1,13] (jC 13 (jq (jr [jv 2 jf]) [2] .ret) .skip)) [1] (jq (jq (jr [jw 3 0]) [1,3] (jk 0 (jq (jq (jr [om 14 3,oA 15 0 1,ol 16 1 15,jn 17 16,jB 18 .lss 14 17]) [1,3,18] (jC 18 .skip (.exit 0))) [1,3] (jq (.block 1 (jq (jr [oA 21 0 1,ol 22 1 21,om 23 3,jx 24 14 22 23,oA 25 0 24,oL 26 7 25,jc 27 70 [.s 26],oo 28 (.un .not (.s 27)),om 29 28,ja 30 29 0 1,jm 31 29 1 30,jF 32 29 3,oF 33 29 (.indexAddr 14 (.s 31) (.s 32)),ja 34 29 7 33,jM 35 29 7 34,oF 36 29 (.call 70 [.s 35]),oF 37 29 (.un .not (.s 36)),oo 38 (.pick (.s 29) (.c (.bool true)) (.s 37))]) [1,3,38] (jC 38 (jq (jr [jv 2 jf]) [2] .ret) .skip))) [1,3] (jr [om 19 3,jb 20 .add 19 1,om 3 20]))))) [] (jq (jr [oo 2 (.mov (.c (.bool true)))]) [2] .ret)))⟩
def tf56 : TFn := ⟨26,[.tmp 2],jq (jr [jo 1 41 0,jv 2 jf]) [1] (jq (jr [oA 3 0 1,ol 4 1 3,jc 5 71 [.s 4],om 6 5,jA 7 6 1 1,jl 8 6 1 7,oT 9 6 (.call 71 [.s 8]),jp 10 6 9,om 11 10,jA 12 11 2 1,jl 13 11 1 12,oT 14 11 (.call 71 [.s 13]),jp 15 11 14,om 16 15,jA 17 16 3 1,jl 18 16 1 17,oT 19 16 (.call 72 [.s 18,(.c (.bool true))]),jp 20 16 19,om 21 20,jA 22 21 4 1,jl 23 21 1 22,oT 24 21 (.call 72 [.s 23,jf]),jp 25 21 24,om 2 25]) [2] .ret)⟩
def tf57 : TFn := ⟨22,[.tmp 4],jq (jr [jo 3 41 1,jv 4 jf]) [0,3] (jq (jq (jr [jw 5 0]) [0,3,5] (jk 0 (jq (jq (jr [om 6 5,om 7 0,jn 8 7,jB 9 .lss 6 8,om 10 9,jT 11 10 0,oT 12 10 (.call 69 [.s 11]),jp 13 10 12]) [0,3,5,13] (jC 13 .skip (.exit 0))) [0,3,5] (jq (.block 1 (jq (jR [om 16 0,om 17 5,jx 18 14 16 17,oL 19 14 18,oL 20 5 3,jc 21 73 [.s 19,.s 20]]) [0,3,5,21] (jC 21 (jq (jr [oo 4 (.mov (.c (.bool true)))]) [4] .ret) .skip))) [0,3,5] (jr [om 14 5,jb 15 .add 14 1,om 5 15]))))) [] (jq (jr [jv 4 jf]) [4] .ret))⟩
def tf58 : TFn := ⟨6,[.tmp 2],jq (jr [jv 2 jf]) [0] (jq (jr [om 3 0,om 4 0,jB 5 .neq 3 4,om 2 5]) [2] .ret)⟩
def tf59 : TFn := ⟨45,[.tmp 2,.tmp 3],jq (jr [jw 2 0,jv 3 jf]) [0] (jq (jq (jr [om 7 0,oo 8 (.bin .eql false (.s 7) (.c (.str []))),om 9 8,jF 10 9 0,oF 11 9 (.lenStr (.s 10)),jy 12 9 .gtr 11 4,oo 13 (.pick (.s 9) (.c (.bool true)) (.s 12)),om 14 13,jF 15 14 0,oF 16 14 (.indexStr (.s 15) (jI 0)),oF 17 14 (.bin .eql false (.s 16) (.c (.int .u8 48))),jF 18 14 17,jT 19 18 0,oT 20 18 (.lenStr (.s 19)),jY 21 18 .gtr 20 1,oF 22 14 (.pick (.s 18) (.s 21) jf),oo 23 (.pick (.s 14) (.c (.bool true)) (.s 22))]) [0,23] (jC 23 (jq (jr [jw 2 0,jv 3 jf]) [2,3] .ret) .skip)) [0] (jq (jr [jw 4 0]) [0,4] (jq (jq (jr [om 24 0,oo 25 (.range (.s 24))]) [4,25] (jk 0 (jq (jr [oo 26 (.next (.s 25)),oe 27 0 26]) [4,25,26,27] (jq (jC 27 .skip (.exit 0)) [4,25,26] (.block 1 (jq (jr [oe 28 2 26,om 6 28]) [4,6,25] (.block 2 (jq (jr [om 30 6,oo 31 (.bin .geq false (.s 30) (.c (.int .i32 48))),om 32 31,jT 33 32 6,oT 34 32 (.bin .leq false (.s 33) (.c (.int .i32 57))),jp 35 32 34,om 29 35]) [4,6,25,29] (jC 29 (jr [om 36 4,oo 37 (.bin .mul false (jI 10) (.s 36)),om 38 6,oo 39 (.bin .sub false (.s 38) (.c (.int .i32 48))),oo 40 (.conv .i64 (.s 39)),jB 41 .add 37 40,om 4 41]) (jq (jr [jw 2 0,jv 3 jf]) [2,3] .ret)))))))))) [4] (jq (jr [om 42 4,om 43 4,jb 44 .leq 43 9999,om 2 42,om 3 44]) [2,3] .ret))))⟩
def tf60 : TFn := ⟨22,[.tmp 2],jq (jr [jv 2 jf]) [0] (jq (jq (jr [om 4 0,oo 5 (.lenStr (.s 4)),jw 6 0]) [0,5,6] (jk 0 (jq (jr [jB 7 .lss 6 5]) [0,5,6,7] (jq (jC 7 .skip (.exit 0)) [0,5,6] (jq (.block 1 (jq (jr [om 8 6,om 3 8]) [0,3,5,6] (jq (jr [om 9 0,om 10 3,oo 11 (.indexStr (.s 9) (.s 10)),oo 12 (.bin .lss false (.s 11) (.c (.int .u8 48))),om 13 12,jF 14 13 0,jF 15 13 3,oF 16 13 (.indexStr (.s 14) (.s 15)),oF 17 13 (.bin .gtr false (.s 16) (.c (.int .u8 57))),oo 18 (.pick (.s 13) (.c (.bool true)) (.s 17))]) [0,5,6,18] (jC 18 (jq (jr [jv 2 jf]) [2] .ret) .skip)))) [0,5,6] (jr [jb 19 .add 6 1,om 6 19])))))) [0] (jq (jr [om 20 0,oo 21 (.bin .neq false (.s 20) (.c (.str []))),om 2 21]) [2] .ret))⟩
def tf61 : TFn := ⟨6,[.tmp 2],jq (jr [jv 2 jf]) [0] (jq (jr [om 3 0,om 4 0,jB 5 .neq 3 4,om 2 5]) [2] .ret)⟩
def tf62 : TFn := ⟨27,[.tmp 4],jq (jr [jv 4 jf]) [0,1] (jq (jq (jr [jw 5 0]) [0,1,5] (jk 0 (jq (jq (jr [om 6 5,om 7 0,jn 8 7,jB 9 .lss 6 8]) [0,1,5,9] (jC 9 .skip (.exit 0))) [0,1,5] (jq (.block 1 (jq (jr [om 12 0,om 13 5,jx 14 3 12 13,oL 15 3 14,om 16 1,jc 17 63 [.s 15,.s 16],oo 18 (.un .not (.s 17))]) [0,1,5,18] (jC 18 (jq (jr [jv 4 jf]) [4] .ret) .skip))) [0,1,5] (jr [om 10 5,jb 11 .add 10 1,om 5 11]))))) [0] (jq (jr [om 19 0,jn 20 19,jb 21 .gtr 20 0,om 22 21,jT 23 22 0,oT 24 22 (.len (.s 23)),jY 25 22 .leq 24 24,jp 26 22 25,om 4 26]) [4] .ret))⟩
def tf63 : TFn := ⟨19,[.tmp 4],jq (jr [jo 2 51 0,jv 4 jf]) [1,2] (jq (jr [oA 5 0 2,ol 6 1 5,jb 7 .gtr 6 0,om 8 7,jA 9 8 0 2,jl 10 8 1 9,jT 11 8 1,oT 12 8 (.bin .lss false (.s 10) (.s 11)),jp 13 8 12,om 14 13,jA 15 14 1 2,jL 16 14 2 15,oT 17 14 (.call 55 [.s 16]),jp 18 14 17,om 4 18]) [4] .ret)⟩
def tf64 : TFn := ⟨13,[.tmp 4],jq (jr [jw 4 0]) [0,1] (jq (.block 0 (jq (jr [om 6 0,om 7 1,jB 8 .lss 6 7,om 5 8]) [0,1,5] (jC 5 (jq (jr [oo 4 (.mov (.c (.int .i64 (-1))))]) [4] .ret) (jq (jr [om 10 0,om 11 1,jB 12 .gtr 10 11,om 9 12]) [9] (jC 9 (jq (jr [jw 4 1]) [4] .ret) .skip))))) [] (jq (jr [jw 4 0]) [4] .ret))⟩
def tf65 : TFn := ⟨52,[.tmp 4],jq (jr [jw 4 0]) [0,1] (jq (.block 0 (jq (jr [om 10 0,om 11 1,jB 12 .eql 10 11,om 9 12]) [0,1,9] (jC 9 (jq (jr [jw 4 0]) [4] .ret) (jq (jr [om 14 0,oo 15 (.bin .eql false (.s 14) (.c (.str []))),om 13 15]) [0,1,13] (jC 13 (jq (jr [jw 4 1]) [4] .ret) (jq (jr [om 17 1,oo 18 (.bin .eql false (.s 17) (.c (.str []))),om 16 18]) [0,1,16] (jC 16 (jq (jr [oo 4 (.mov (.c (.int .i64 (-1))))]) [4] .ret) .skip))))))) [0,1] (jq (jr [om 19 0,jc 20 74 [.s 19,(.c (.int .u8 46))],om 21 1,jc 22 74 [.s 21,(.c (.int .u8 46))],om 5 20,om 6 22]) [5,6] (jq (jq (jr [jw 7 0]) [5,6,7] (jk 1 (jq (jq (jr [om 23 7,om 24 5,jn 25 24,jB 26 .lss 23 25,om 27 26,jT 28 27 7,jT 29 27 6,oT 30 27 (.len (.s 29)),oT 31 27 (.bin .lss false (.s 28) (.s 30)),jp 32 27 31]) [5,6,7,32] (jC 32 .skip (.exit 1))) [5,6,7] (jq (.block 2 (jq (jR [om 35 5,om 36 7,jx 37 1 35 36,ol 38 1 37,om 39 6,om 40 7,jx 41 1 39 40,ol 42 1 41,jc 43 75 [.s 38,.s 42],om 8 43]) [5,6,7,8] (jq (jr [om 44 8,jb 45 .neq 44 0]) [5,6,7,8,45] (jC 45 (jq (jr [om 46 8,om 4 46]) [4] .ret) .skip)))) [5,6,7] (jr [om 33 7,jb 34 .add 33 1,om 7 34]))))) [5,6] (jq (jr [om 47 5,jn 48 47,om 49 6,jn 50 49,jc 51 64 [.s 48,.s 50],om 4 51]) [4] .ret))))⟩
def tf66 : TFn := ⟨23,[.tmp 2],jq (jr [jo 1 73 0,jv 2 jf]) [1,900000] (jq (jr [oA 3 0 1,ol 4 1 3,jb 5 .neq 4 0,om 6 5,ja 7 6 6 1,jm 8 6 1 7,oF 9 6 (.un .not (.s 8)),jF 10 6 9,jA 11 10 1 1,jA 12 10 3 11,jl 13 10 1 12,oT 14 10 (.bin .eql false (.s 13) (.c (.str []))),oF 15 6 (.pick (.s 10) (.s 14) jf),jF 16 6 15,jA 17 16 1 1,jL 18 16 5 17,jL 19 16 5 900000,oT 20 16 (.eqs true [0,0,0,2,2] (.s 18) (.s 19)),oF 21 6 (.pick (.s 16) (.s 20) jf),oo 22 (.pick (.s 6) (.c (.bool true)) (.s 21)),om 2 22]) [2] .ret)⟩
def tf67 : TFn := ⟨32,[.tmp 2],jq (jr [jv 2 jf]) [0] (jq (jq (jr [om 5 0,jn 6 5,jw 7 0]) [0,5,6,7] (jk 0 (jq (jr [jB 8 .lss 7 6]) [0,5,6,7,8] (jq (jC 8 .skip (.exit 0)) [0,5,6,7] (jq (.block 1 (jq (jr [om 9 7,jx 10 14 5 7,oL 11 14 10,oo 4 (.alloc 76 [(.int .i64 0),(.int .i64 0),(.int .i64 0),(.int .i64 0),(.str []),(.str []),(.bool false),(.int .i64 0),(.int .i64 0),(.int .i64 0),(.int .i64 0),(.str []),(.str []),(.bool false)]),om 3 9,jS 14 4 11]) [0,3,4,5,6,7] (jq (jR [oL 12 14 4,jc 13 76 [.s 12],oo 14 (.un .not (.s 13)),om 15 14,jF 16 15 3,jy 17 15 .gtr 16 0,jF 18 15 17,jT 19 18 0,jT 20 18 3,jY 21 18 .sub 20 1,oT 22 18 (.indexAddr 14 (.s 19) (.s 21)),jA 23 18 7 22,jL 24 18 7 23,jA 25 18 0 4,jL 26 18 7 25,oT 27 18 (.call 77 [.s 24,.s 26]),jY 28 18 .geq 27 0,oF 29 15 (.pick (.s 18) (.s 28) jf),oo 30 (.pick (.s 15) (.c (.bool true)) (.s 29))]) [0,5,6,7,30] (jC 30 (jq (jr [jv 2 jf]) [2] .ret) .skip)))) [0,5,6,7] (jr [jb 31 .add 7 1,om 7 31])))))) [] (jq (jr [oo 2 (.mov (.c (.bool true)))]) [2] .ret))⟩
def tf68 : TFn := ⟨24,[.tmp 4],jq (jr [jo 2 76 0,jo 3 41 1,jv 4 jf]) [2,3] (jq (jr [oL 5 14 2,jc 6 76 [.s 5],om 7 6,jL 8 7 5 3,oT 9 7 (.call 31 [.s 8]),jp 10 7 9,om 11 10,jA 12 11 0 2,jL 13 11 7 12,jL 14 11 5 3,oT 15 11 (.call 78 [.s 13,.s 14]),jp 16 11 15,om 17 16,jA 18 17 7 2,jL 19 17 7 18,jL 20 17 5 3,oT 21 17 (.call 78 [.s 19,.s 20]),oT 22 17 (.un .not (.s 21)),jp 23 17 22,om 4 23]) [4] .ret)⟩
def tf69 : TFn := ⟨35,[.tmp 2],jq (jr [jv 2 jf]) [0] (jq (jq (jr [jw 3 0]) [0,3] (jk 0 (jq (jq (jr [om 4 3,om 5 0,jn 6 5,jB 7 .lss 4 6]) [0,3,7] (jC 7 .skip (.exit 0))) [0,3] (jq (.block 1 (jq (jR [om 10 0,om 11 3,jx 12 14 10 11,oL 13 14 12,jc 14 79 [.s 13],oo 15 (.un .not (.s 14)),om 16 15,jF 17 16 3,jy 18 16 .gtr 17 0,jF 19 16 18,jT 20 19 0,jT 21 19 3,jY 22 19 .sub 21 1,oT 23 19 (.indexAddr 14 (.s 20) (.s 22)),jA 24 19 7 23,jL 25 19 7 24,jT 26 19 0,jT 27 19 3,oT 28 19 (.indexAddr 14 (.s 26) (.s 27)),jA 29 19 0 28,jL 30 19 7 29,oT 31 19 (.call 80 [.s 25,.s 30]),jY 32 19 .geq 31 0,oF 33 16 (.pick (.s 19) (.s 32) jf),oo 34 (.pick (.s 16) (.c (.bool true)) (.s 33))]) [0,3,34] (jC 34 (jq (jr [jv 2 jf]) [2] .ret) .skip))) [0,3] (jr [om 8 3,jb 9 .add 8 1,om 3 9]))))) [] (jq (jr [oo 2 (.mov (.c (.bool true)))]) [2] .ret))⟩
def tf70 : TFn := ⟨23,[.tmp 2],jq (jr [jo 1 73 0,jv 2 jf]) [1] (jq (jr [oA 3 0 1,ol 4 1 3,jb 5 .neq 4 0,om 6 5,ja 7 6 6 1,jm 8 6 1 7,oF 9 6 (.un .not (.s 8)),jF 10 6 9,jA 11 10 1 1,jA 12 10 3 11,jl 13 10 1 12,oT 14 10 (.bin .eql false (.s 13) (.c (.str []))),oF 15 6 (.pick (.s 10) (.s 14) jf),jF 16 6 15,jA 17 16 1 1,jL 18 16 5 17,oT 19 16 (.call 81 [.s 18]),oT 20 16 (.un .not (.s 19)),oF 21 6 (.pick (.s 16) (.s 20) jf),oo 22 (.pick (.s 6) (.c (.bool true)) (.s 21)),om 2 22]) [2] .ret)⟩
def tf71 : TFn := ⟨9,[.tmp 2],jq (jr [jv 2 jf]) [0] (jq (jr [om 3 0,jb 4 .geq 3 0,om 5 4,jT 6 5 0,jY 7 5 .leq 6 9999,jp 8 5 7,om 2 8]) [2] .ret)⟩
def tf72 : TFn := ⟨48,[.tmp 4],jq (jr [jv 4 jf]) [0,1] (jq (jq (jr [om 9 0,oo 10 (.bin .eql false (.s 9) (.c (.str [])))]) [0,1,10] (jC 10 (jq (jr [oo 4 (.mov (.c (.bool true)))]) [4] .ret) .skip)) [0,1] (jq (jr [om 11 0,jc 12 74 [.s 11,(.c (.int .u8 46))],om 5 12]) [1,5] (jq (jq (jr [om 13 5,jn 14 13,jb 15 .gtr 14 4]) [1,5,15] (jC 15 (jq (jr [jv 4 jf]) [4] .ret) .skip)) [1,5] (jq (jq (jr [jw 6 0]) [1,5,6] (jk 0 (jq (jq (jr [om 16 6,om 17 5,jn 18 17,jB 19 .lss 16 18]) [1,5,6,19] (jC 19 .skip (.exit 0))) [1,5,6] (jq (.block 1 (jq (jq (jr [om 22 5,om 23 6,jx 24 1 22 23,ol 25 1 24,jc 26 82 [.s 25],oo 27 (.un .not (.s 26))]) [1,5,6,27] (jC 27 (jq (jr [jv 4 jf]) [4] .ret) .skip)) [1,5,6] (jq (jr [om 29 5,om 30 6,jx 31 1 29 30,ol 32 1 31,jc 33 83 [.s 32],om 28 33,oe 34 0 28,oe 35 1 28,om 7 34,om 8 35]) [1,5,6,8] (jq (jr [om 36 1,om 37 36,jT 38 37 5,jT 39 37 6,oT 40 37 (.indexAddr 1 (.s 38) (.s 39)),jl 41 37 1 40,oT 42 37 (.call 84 [.s 41]),jp 43 37 42,om 44 43,jT 45 44 8,oT 46 44 (.un .not (.s 45)),jp 47 44 46]) [1,5,6,47] (jC 47 (jq (jr [jv 4 jf]) [4] .ret) .skip))))) [1,5,6] (jr [om 20 6,jb 21 .add 20 1,om 6 21]))))) [] (jq (jr [oo 4 (.mov (.c (.bool true)))]) [4] .ret)))))⟩
def tf73 : TFn := ⟨24,[.tmp 4],jq (jr [jo 2 76 0,jo 3 41 1,jv 4 jf]) [2,3] (jq (jr [oL 5 14 2,jc 6 79 [.s 5],om 7 6,jL 8 7 5 3,oT 9 7 (.call 56 [.s 8]),jp 10 7 9,om 11 10,jA 12 11 0 2,jL 13 11 7 12,jL 14 11 5 3,oT 15 11 (.call 85 [.s 13,.s 14]),jp 16 11 15,om 17 16,jA 18 17 7 2,jL 19 17 7 18,jL 20 17 5 3,oT 21 17 (.call 85 [.s 19,.s 20]),oT 22 17 (.un .not (.s 21)),jp 23 17 22,om 4 23]) [4] .ret)⟩
def tf74 : TFn := ⟨34,[.tmp 4],jq (jr [jv 4 je]) [0,1] (jq (jr [jv 5 je]) [0,1,5] (jq (jr [jw 6 0]) [0,1,5,6] (jq (jq (jr [jw 7 0]) [0,1,5,6,7] (jk 0 (jq (jq (jr [om 8 7,om 9 0,oo 10 (.lenStr (.s 9)),jB 11 .lss 8 10]) [0,1,5,6,7,11] (jC 11 .skip (.exit 0))) [0,1,5,6,7] (jq (.block 1 (jq (jr [om 14 0,om 15 7,oo 16 (.indexStr (.s 14) (.s 15)),om 17 1,jB 18 .eql 16 17]) [0,1,5,6,7,18] (jC 18 (jq (jr [om 19 5,om 20 0,om 21 6,om 22 7,oo 23 (.sliceStr (.s 20) (some (.s 21)) (some (.s 22))),oo 24 (.buildSlice 1 9 [.s 23]),oo 25 (.append 1 9 16 (.s 19) (.s 24)),om 5 25]) [0,1,5,7] (jr [om 26 7,jb 27 .add 26 1,om 6 27])) .skip))) [0,1,5,6,7] (jr [om 12 7,jb 13 .add 12 1,om 7 13]))))) [0,5,6] (jq (jr [om 28 5,om 29 0,om 30 6,oo 31 (.sliceStr (.s 29) (some (.s 30)) none),oo 32 (.buildSlice 1 9 [.s 31]),oo 33 (.append 1 9 16 (.s 28) (.s 32)),om 4 33]) [4] .ret))))⟩
def tf75 : TFn := ⟨40,[.tmp 4],jq (jr [jw 4 0]) [0,1] (jq (jr [om 11 0,jc 12 84 [.s 11],om 13 1,jc 14 84 [.s 13],om 5 12,om 6 14]) [0,1,5,6] (jq (.block 0 (jq (jr [om 16 5,om 17 16,jT 18 17 6,jp 19 17 18,om 15 19]) [0,1,5,6,15] (jC 15 (jq (jr [om 21 0,jc 22 83 [.s 21],om 20 22,oe 23 0 20,oe 24 1 20,om 7 23,om 8 24]) [1,7] (jq (jr [om 26 1,jc 27 83 [.s 26],om 25 27,oe 28 0 25,oe 29 1 25,om 9 28,om 10 29]) [7,9] (jq (jr [om 30 7,om 31 9,jc 32 64 [.s 30,.s 31],om 4 32]) [4] .ret))) (jq (jr [om 34 5,om 33 34]) [0,1,6,33] (jC 33 (jq (jr [oo 4 (.mov (.c (.int .i64 (-1))))]) [4] .ret) (jq (jr [om 36 6,om 35 36]) [0,1,35] (jC 35 (jq (jr [jw 4 1]) [4] .ret) .skip))))))) [0,1] (jq (jr [om 37 0,om 38 1,jc 39 86 [.s 37,.s 38],om 4 39]) [4] .ret)))⟩
def tf76 : TFn := ⟨19,[.tmp 2],jq (jr [jo 1 76 0,jv 2 jf]) [1] (jq (jr [oA 3 0 1,oL 4 7 3,jc 5 87 [.s 4],om 6 5,jA 7 6 7 1,jL 8 6 7 7,oT 9 6 (.call 87 [.s 8]),jp 10 6 9,om 11 10,jA 12 11 0 1,jL 13 11 7 12,jA 14 11 7 1,jL 15 11 7 14,oT 16 11 (.call 77 [.s 13,.s 15]),jY 17 11 .lss 16 0,jp 18 11 17,om 2 18]) [2] .ret)⟩
def tf77 : TFn := ⟨42,[.tmp 4],jq (jr [jo 2 73 0,jo 3 73 1,jw 4 0]) [2,3] (jq (jq (jr [oL 6 7 2,jc 7 87 [.s 6],oo 8 (.un .not (.s 7)),om 9 8,jM 10 9 7 3,oF 11 9 (.call 87 [.s 10]),oF 12 9 (.un .not (.s 11)),oo 13 (.pick (.s 9) (.c (.bool true)) (.s 12))]) [2,3,13] (jC 13 (jq (jr [jw 4 0]) [4] .ret) (jq (jr [oA 14 0 2,ol 15 1 14,jb 16 .neq 15 0,om 17 16,ja 18 17 0 3,jm 19 17 1 18,jy 20 17 .neq 19 0,oo 21 (.pick (.s 17) (.c (.bool true)) (.s 20))]) [2,3,21] (jC 21 (jq (jr [oA 22 0 2,ol 23 1 22,oA 24 0 3,ol 25 1 24,jc 26 46 [.s 23,.s 25],om 4 26]) [4] .ret) (jq (jr [oA 27 1 2,oL 28 5 27,oA 29 1 3,oL 30 5 29,jc 31 32 [.s 28,.s 30],om 5 31]) [2,3,5] (jq (jr [om 32 5,jb 33 .neq 32 0]) [2,3,5,33] (jC 33 (jq (jr [om 34 5,om 4 34]) [4] .ret) (jq (jr [oA 35 6 2,ol 36 1 35,oA 37 6 3,ol 38 1 37,oo 39 (.bin .eql true (.s 36) (.s 38))]) [3,39] (jC 39 (jq (jr [jw 4 0]) [4] .ret) (jq (jr [oA 40 6 3,ol 41 1 40]) [41] (jC 41 (jq (jr [oo 4 (.mov (.c (.int .i64 (-1))))]) [4] .ret) .skip))))))))))) [] (jq (jr [jw 4 1]) [4] .ret))⟩
def tf78 : TFn := ⟨35,[.tmp 4],jq (jr [jo 2 73 0,jo 3 41 1,jv 4 jf]) [2,3] (jq (jq (jr [oL 6 7 2,jc 7 87 [.s 6],oo 8 (.un .not (.s 7)),om 9 8,jM 10 9 5 3,oF 11 9 (.call 31 [.s 10]),oF 12 9 (.un .not (.s 11)),oo 13 (.pick (.s 9) (.c (.bool true)) (.s 12))]) [2,3,13] (jC 13 (jq (jr [jv 4 jf]) [4] .ret) (jq (jr [oA 14 0 2,ol 15 1 14,jb 16 .neq 15 0]) [2,3,16] (jC 16 (jq (jr [oA 17 0 2,ol 18 1 17,jb 19 .lss 18 0,om 4 19]) [4] .ret) .skip)))) [2,3] (jq (jr [oA 20 1 2,oL 21 5 20,oL 22 5 3,jc 23 32 [.s 21,.s 22],om 5 23]) [2,5] (jq (jr [om 24 5,jb 25 .lss 24 0,om 26 25,jF 27 26 5,jy 28 26 .eql 27 0,jF 29 26 28,jA 30 29 6 2,jl 31 29 1 30,oT 32 29 (.un .not (.s 31)),oF 33 26 (.pick (.s 29) (.s 32) jf),oo 34 (.pick (.s 26) (.c (.bool true)) (.s 33)),om 4 34]) [4] .ret)))⟩
def tf79 : TFn := ⟨19,[.tmp 2],jq (jr [jo 1 76 0,jv 2 jf]) [1] (jq (jr [oA 3 0 1,oL 4 7 3,jc 5 88 [.s 4],om 6 5,jA 7 6 7 1,jL 8 6 7 7,oT 9 6 (.call 88 [.s 8]),jp 10 6 9,om 11 10,jA 12 11 0 1,jL 13 11 7 12,jA 14 11 7 1,jL 15 11 7 14,oT 16 11 (.call 80 [.s 13,.s 15]),jY 17 11 .lss 16 0,jp 18 11 17,om 2 18]) [2] .ret)⟩
def tf80 : TFn := ⟨46,[.tmp 4],jq (jr [jo 2 73 0,jo 3 73 1,jw 4 0]) [2,3] (jq (jq (jr [oL 6 7 2,jc 7 88 [.s 6],oo 8 (.un .not (.s 7)),om 9 8,jM 10 9 7 3,oF 11 9 (.call 88 [.s 10]),oF 12 9 (.un .not (.s 11)),oo 13 (.pick (.s 9) (.c (.bool true)) (.s 12))]) [2,3,13] (jC 13 (jq (jr [jw 4 0]) [4] .ret) .skip)) [2,3] (jq (jq (jr [oA 14 0 2,ol 15 1 14,oA 16 0 3,ol 17 1 16,jB 18 .neq 15 17,om 19 18,ja 20 19 0 2,jm 21 19 1 20,jy 22 19 .neq 21 0,oo 23 (.pick (.s 19) (.c (.bool true)) (.s 22))]) [2,3,23] (jC 23 (jq (jr [oA 24 0 2,ol 25 1 24,oA 26 0 3,ol 27 1 26,jc 28 64 [.s 25,.s 27],om 4 28]) [4] .ret) .skip)) [2,3] (jq (jq (jr [oA 29 1 2,oL 30 5 29,oA 31 1 3,oL 32 5 31,jc 33 52 [.s 30,.s 32],om 5 33]) [2,3,5] (jq (jr [om 34 5,jb 35 .neq 34 0]) [2,3,5,35] (jC 35 (jq (jr [om 36 5,om 4 36]) [4] .ret) .skip))) [2,3] (jq (.block 0 (jq (jr [oA 38 6 2,ol 39 1 38,oA 40 6 3,ol 41 1 40,oo 42 (.bin .eql true (.s 39) (.s 41)),om 37 42]) [3,37] (jC 37 (jq (jr [jw 4 0]) [4] .ret) (jq (jr [oA 44 6 3,ol 45 1 44,om 43 45]) [43] (jC 43 (jq (jr [oo 4 (.mov (.c (.int .i64 (-1))))]) [4] .ret) .skip))))) [] (jq (jr [jw 4 1]) [4] .ret)))))⟩
def tf81 : TFn := ⟨16,[.tmp 2],jq (jr [jo 1 41 0,jv 2 jf]) [1] (jq (jr [oA 3 0 1,ol 4 1 3,jb 5 .eql 4 0,om 6 5,jA 7 6 1 1,jl 8 6 1 7,jY 9 6 .eql 8 0,jp 10 6 9,om 11 10,jA 12 11 2 1,jl 13 11 1 12,jY 14 11 .eql 13 0,jp 15 11 14,om 2 15]) [2] .ret)⟩
def tf82 : TFn := ⟨40,[.tmp 2],jq (jr [jv 2 jf]) [0] (jq (jq (jr [om 5 0,oo 6 (.lenStr (.s 5)),jb 7 .lss 6 1,om 8 7,jF 9 8 0,oF 10 8 (.lenStr (.s 9)),jy 11 8 .gtr 10 8,oo 12 (.pick (.s 8) (.c (.bool true)) (.s 11))]) [0,12] (jC 12 (jq (jr [jv 2 jf]) [2] .ret) .skip)) [0] (jq (jq (jr [jw 3 0]) [0,3] (jk 0 (jq (jq (jr [om 13 3,om 14 0,oo 15 (.lenStr (.s 14)),jB 16 .lss 13 15]) [0,3,16] (jC 16 .skip (.exit 0))) [0,3] (jq (.block 1 (jq (jr [om 19 0,om 20 3,oo 21 (.indexStr (.s 19) (.s 20)),om 4 21]) [0,3,4] (jq (jr [om 22 4,oo 23 (.bin .lss false (.s 22) (.c (.int .u8 97))),om 24 23,jF 25 24 4,oF 26 24 (.bin .gtr false (.s 25) (.c (.int .u8 122))),oo 27 (.pick (.s 24) (.c (.bool true)) (.s 26)),om 28 27,jT 29 28 4,oT 30 28 (.bin .lss false (.s 29) (.c (.int .u8 48))),jT 31 28 30,jF 32 31 4,oF 33 31 (.bin .gtr false (.s 32) (.c (.int .u8 57))),oT 34 28 (.pick (.s 31) (.c (.bool true)) (.s 33)),jp 35 28 34,om 36 35,jT 37 36 4,oT 38 36 (.bin .neq false (.s 37) (.c (.int .u8 45))),jp 39 36 38]) [0,3,39] (jC 39 (jq (jr [jv 2 jf]) [2] .ret) .skip)))) [0,3] (jr [om 17 3,jb 18 .add 17 1,om 3 18]))))) [] (jq (jr [oo 2 (.mov (.c (.bool true)))]) [2] .ret)))⟩
def tf83 : TFn := ⟨46,[.tmp 2,.tmp 3],jq (jr [jw 2 0,jv 3 jf]) [0] (jq (jq (jr [om 6 0,oo 7 (.lenStr (.s 6)),jb 8 .lss 7 1,om 9 8,jF 10 9 0,oF 11 9 (.lenStr (.s 10)),jy 12 9 .gtr 11 9,oo 13 (.pick (.s 9) (.c (.bool true)) (.s 12)),om 14 13,jF 15 14 0,oF 16 14 (.lenStr (.s 15)),jy 17 14 .gtr 16 1,jF 18 14 17,jT 19 18 0,oT 20 18 (.indexStr (.s 19) (jI 0)),oT 21 18 (.bin .eql false (.s 20) (.c (.int .u8 48))),oF 22 14 (.pick (.s 18) (.s 21) jf),oo 23 (.pick (.s 14) (.c (.bool true)) (.s 22))]) [0,23] (jC 23 (jq (jr [jw 2 0,jv 3 jf]) [2,3] .ret) .skip)) [0] (jq (jr [jw 4 0]) [0,4] (jq (jq (jr [jw 5 0]) [0,4,5] (jk 0 (jq (jq (jr [om 24 5,om 25 0,oo 26 (.lenStr (.s 25)),jB 27 .lss 24 26]) [0,4,5,27] (jC 27 .skip (.exit 0))) [0,4,5] (jq (.block 1 (jq (jq (jr [om 30 0,om 31 5,oo 32 (.indexStr (.s 30) (.s 31)),jc 33 89 [.s 32],oo 34 (.un .not (.s 33))]) [0,4,5,34] (jC 34 (jq (jr [jw 2 0,jv 3 jf]) [2,3] .ret) .skip)) [0,4,5] (jr [om 35 4,jb 36 .mul 35 10,om 37 0,om 38 5,oo 39 (.indexStr (.s 37) (.s 38)),oo 40 (.bin .sub false (.s 39) (.c (.int .u8 48))),oo 41 (.conv .i64 (.s 40)),jB 42 .add 36 41,om 4 42]))) [0,4,5] (jr [om 28 5,jb 29 .add 28 1,om 5 29]))))) [4] (jq (jq (jr [om 43 4,jb 44 .gtr 43 9999]) [4,44] (jC 44 (jq (jr [jw 2 0,jv 3 jf]) [2,3] .ret) .skip)) [4] (jq (jr [om 45 4,om 2 45,oo 3 (.mov (.c (.bool true)))]) [2,3] .ret)))))⟩
def tf84 : TFn := ⟨23,[.tmp 2],jq (jr [jv 2 jf]) [0] (jq (jq (jr [jw 3 0]) [0,3] (jk 0 (jq (jq (jr [om 4 3,om 5 0,oo 6 (.lenStr (.s 5)),jB 7 .lss 4 6]) [0,3,7] (jC 7 .skip (.exit 0))) [0,3] (jq (.block 1 (jq (jr [om 10 0,om 11 3,oo 12 (.indexStr (.s 10) (.s 11)),oo 13 (.bin .lss false (.s 12) (.c (.int .u8 48))),om 14 13,jF 15 14 0,jF 16 14 3,oF 17 14 (.indexStr (.s 15) (.s 16)),oF 18 14 (.bin .gtr false (.s 17) (.c (.int .u8 57))),oo 19 (.pick (.s 14) (.c (.bool true)) (.s 18))]) [0,3,19] (jC 19 (jq (jr [jv 2 jf]) [2] .ret) .skip))) [0,3] (jr [om 8 3,jb 9 .add 8 1,om 3 9]))))) [0] (jq (jr [om 20 0,oo 21 (.lenStr (.s 20)),jb 22 .gtr 21 0,om 2 22]) [2] .ret))⟩
def tf85 : TFn := ⟨35,[.tmp 4],jq (jr [jo 2 73 0,jo 3 41 1,jv 4 jf]) [2,3] (jq (jq (jr [oL 6 7 2,jc 7 88 [.s 6],oo 8 (.un .not (.s 7)),om 9 8,jM 10 9 5 3,oF 11 9 (.call 56 [.s 10]),oF 12 9 (.un .not (.s 11)),oo 13 (.pick (.s 9) (.c (.bool true)) (.s 12))]) [2,3,13] (jC 13 (jq (jr [jv 4 jf]) [4] .ret) .skip)) [2,3] (jq (jq (jr [oA 14 0 2,ol 15 1 14,jb 16 .neq 15 0]) [2,3,16] (jC 16 (jq (jr [oA 17 0 2,ol 18 1 17,jb 19 .lss 18 0,om 4 19]) [4] .ret) .skip)) [2,3] (jq (jr [oA 20 1 2,oL 21 5 20,oL 22 5 3,jc 23 52 [.s 21,.s 22],om 5 23]) [2,5] (jq (jr [om 24 5,jb 25 .lss 24 0,om 26 25,jF 27 26 5,jy 28 26 .eql 27 0,jF 29 26 28,jA 30 29 6 2,jl 31 29 1 30,oT 32 29 (.un .not (.s 31)),oF 33 26 (.pick (.s 29) (.s 32) jf),oo 34 (.pick (.s 26) (.c (.bool true)) (.s 33)),om 4 34]) [4] .ret))))⟩
def tf86 : TFn := ⟨13,[.tmp 4],jq (jr [jw 4 0]) [0,1] (jq (.block 0 (jq (jr [om 6 0,om 7 1,jB 8 .lss 6 7,om 5 8]) [0,1,5] (jC 5 (jq (jr [oo 4 (.mov (.c (.int .i64 (-1))))]) [4] .ret) (jq (jr [om 10 0,om 11 1,jB 12 .gtr 10 11,om 9 12]) [9] (jC 9 (jq (jr [jw 4 1]) [4] .ret) .skip))))) [] (jq (jr [jw 4 0]) [4] .ret))⟩
def tf87 : TFn := ⟨32,[.tmp 2],jq (jr [jo 1 73 0,jv 2 jf]) [1] (jq (jq (jr [oA 3 0 1,ol 4 1 3,oo 5 (.bin .eql false (.s 4) (.c (.int .i64 (-1)))),om 6 5,ja 7 6 0 1,jm 8 6 1 7,jy 9 6 .eql 8 1,oo 10 (.pick (.s 6) (.c (.bool true)) (.s 9))]) [1,10] (jC 10 (jq (jr [oA 11 1 1,oL 12 5 11,oo 13 (.build [(.int .i64 0),(.int .i64 0),(.int .i64 0),(.str []),(.str [])] []),oo 14 (.eqs false [0,0,0,2,2] (.s 12) (.s 13)),om 15 14,jA 16 15 6 1,jl 17 15 1 16,oT 18 15 (.un .not (.s 17)),jp 19 15 18,om 2 19]) [2] .ret) (jq (jr [oA 20 0 1,ol 21 1 20,jb 22 .neq 21 0]) [1,22] (jC 22 (jq (jr [jv 2 jf]) [2] .ret) .skip)))) [1] (jq (jr [oA 23 1 1,oL 24 5 23,jc 25 31 [.s 24],om 26 25,jA 27 26 1 1,jA 28 26 4 27,jl 29 26 1 28,oT 30 26 (.bin .eql false (.s 29) (.c (.str []))),jp 31 26 30,om 2 31]) [2] .ret))⟩
def tf88 : TFn := ⟨34,[.tmp 2],jq (jr [jo 1 73 0,jv 2 jf]) [1] (jq (jq (jr [oA 3 0 1,ol 4 1 3,jb 5 .eql 4 0]) [1,5] (jC 5 (jq (jr [oA 6 1 1,oL 7 5 6,jc 8 56 [.s 7],om 9 8,jA 10 9 1 1,jA 11 9 4 10,jl 12 9 1 11,oT 13 9 (.bin .eql false (.s 12) (.c (.str []))),jp 14 9 13,om 2 14]) [2] .ret) .skip)) [1] (jq (jr [oA 15 0 1,ol 16 1 15,oo 17 (.bin .eql false (.s 16) (.c (.int .i64 (-1)))),om 18 17,ja 19 18 0 1,jm 20 18 1 19,jy 21 18 .eql 20 1,oo 22 (.pick (.s 18) (.c (.bool true)) (.s 21)),om 23 22,jA 24 23 1 1,jL 25 23 5 24,oT 26 23 (.build [(.int .i64 0),(.int .i64 0),(.int .i64 0),(.str []),(.str [])] []),oT 27 23 (.eqs false [0,0,0,2,2] (.s 25) (.s 26)),jp 28 23 27,om 29 28,jA 30 29 6 1,jl 31 29 1 30,oT 32 29 (.un .not (.s 31)),jp 33 29 32,om 2 33]) [2] .ret))⟩
def tf89 : TFn := ⟨9,[.tmp 2],jq (jr [jv 2 jf]) [0] (jq (jr [om 3 0,oo 4 (.bin .geq false (.s 3) (.c (.int .u8 48))),om 5 4,jT 6 5 0,oT 7 5 (.bin .leq false (.s 6) (.c (.int .u8 57))),jp 8 5 7,om 2 8]) [2] .ret)⟩
theorem tp3 : QO Tryd.prog Tryd.f3 = some tf3.erase := by kernel_rfl
theorem tp4 : QO Tryd.prog Tryd.f4 = some tf4.erase := by kernel_rfl
theorem tp5 : QO Tryd.prog Tryd.f5 = some tf5.erase := by kernel_rfl
theorem tp6 : QO Tryd.prog Tryd.f6 = some tf6.erase := by kernel_rfl
theorem tp7 : QO Tryd.prog Tryd.f7 = some tf7.erase := by kernel_rfl
theorem tp8 : QO Tryd.prog Tryd.f8 = some tf8.erase := by kernel_rfl
theorem tp9 : QO Tryd.prog Tryd.f9 = some tf9.erase := by kernel_rfl
theorem Bi : QO Tryd.prog Tryd.f10 = some tf10.erase := by kernel_rfl
theorem Bj : QO Tryd.prog Tryd.f11 = some tf11.erase := by kernel_rfl
theorem Bk : QO Tryd.prog Tryd.f12 = some tf12.erase := by kernel_rfl
theorem Bl : QO Tryd.prog Tryd.f13 = some tf13.erase := by kernel_rfl
theorem Bm : QO Tryd.prog Tryd.f14 = some tf14.erase := by kernel_rfl
theorem Bn : QO Tryd.prog Tryd.f15 = some tf15.erase := by kernel_rfl
theorem Bo : QO Tryd.prog Tryd.f16 = some tf16.erase := by kernel_rfl
theorem Bp : QO Tryd.prog Tryd.f17 = some tf17.erase := by kernel_rfl
theorem Bq : QO Tryd.prog Tryd.f18 = some tf18.erase := by kernel_rfl
theorem Br : QO Tryd.prog Tryd.f19 = some tf19.erase := by kernel_rfl
theorem Bs : QO Tryd.prog Tryd.f20 = some tf20.erase := by kernel_rfl
theorem Bt : QO Tryd.prog Tryd.f21 = some tf21.erase := by kernel_rfl
theorem Bu : QO Tryd.prog Tryd.f22 = some tf22.erase := by kernel_rfl
theorem Bv : QO Tryd.prog Tryd.f23 = some tf23.erase := by kernel_rfl
theorem Bw : QO Tryd.prog Tryd.f24 = some tf24.erase := by kernel_rfl
theorem Bx : QO Tryd.prog Tryd.f25 = some tf25.erase := by kernel_rfl
theorem By : QO Tryd.prog Tryd.f26 = some tf26.erase := by kernel_rfl
theorem C5 : QO Tryd.prog Tryd.f27 = some tf27.erase := by kernel_rfl
theorem Bz : QO Tryd.prog Tryd.f28 = some tf28.erase := by kernel_rfl
theorem BA : QO Tryd.prog Tryd.f29 = some tf29.erase := by kernel_rfl
theorem BB : QO Tryd.prog Tryd.f30 = some tf30.erase := by kernel_rfl
theorem BC : QO Tryd.prog Tryd.f31 = some tf31.erase := by kernel_rfl
theorem BD : QO Tryd.prog Tryd.f32 = some tf32.erase := by kernel_rfl
theorem BE : QO Tryd.prog Tryd.f33 = some tf33.erase := by kernel_rfl
theorem BF : QO Tryd.prog Tryd.f34 = some tf34.erase := by kernel_rfl
theorem BG : QO Tryd.prog Tryd.f35 = some tf35.erase := by kernel_rfl
theorem BH : QO Tryd.prog Tryd.f36 = some tf36.erase := by kernel_rfl
theorem BI : QO Tryd.prog Tryd.f37 = some tf37.erase := by kernel_rfl
theorem BJ : QO Tryd.prog Tryd.f38 = some tf38.erase := by kernel_rfl
theorem BK : QO Tryd.prog Tryd.f39 = some tf39.erase := by kernel_rfl
theorem BL : QO Tryd.prog Tryd.f40 = some tf40.erase := by kernel_rfl
theorem BM : QO Tryd.prog Tryd.f41 = some tf41.erase := by kernel_rfl
theorem BN : QO Tryd.prog Tryd.f42 = some tf42.erase := by kernel_rfl
theorem BO : QO Tryd.prog Tryd.f43 = some tf43.erase := by kernel_rfl
theorem BP : QO Tryd.prog Tryd.f44 = some tf44.erase := by kernel_rfl
theorem BQ : QO Tryd.prog Tryd.f45 = some tf45.erase := by kernel_rfl
theorem BR : QO Tryd.prog Tryd.f46 = some tf46.erase := by kernel_rfl
theorem BS : QO Tryd.prog Tryd.f47 = some tf47.erase := by kernel_rfl
theorem BT : QO Tryd.prog Tryd.f48 = some tf48.erase := by kernel_rfl
theorem BU : QO Tryd.prog Tryd.f49 = some tf49.erase := by kernel_rfl
theorem BV : QO Tryd.prog Tryd.f50 = some tf50.erase := by kernel_rfl
theorem BW : QO Tryd.prog Tryd.f51 = some tf51.erase := by kernel_rfl
theorem BX : QO Tryd.prog Tryd.f52 = some tf52.erase := by kernel_rfl
theorem BY : QO Tryd.prog Tryd.f53 = some tf53.erase := by kernel_rfl
theorem BZ : QO Tryd.prog Tryd.f54 = some tf54.erase := by kernel_rfl
theorem B4 : QO Tryd.prog Tryd.f55 = some tf55.erase := by kernel_rfl
theorem B5 : QO Tryd.prog Tryd.f56 = some tf56.erase := by kernel_rfl
theorem B6 : QO Tryd.prog Tryd.f57 = some tf57.erase := by kernel_rfl
theorem B7 : QO Tryd.prog Tryd.f58 = some tf58.erase := by kernel_rfl
theorem B8 : QO Tryd.prog Tryd.f59 = some tf59.erase := by kernel_rfl
theorem B9 : QO Tryd.prog Tryd.f60 = some tf60.erase := by kernel_rfl
theorem Qaa : QO Tryd.prog Tryd.f61 = some tf61.erase := by kernel_rfl
theorem Qab : QO Tryd.prog Tryd.f62 = some tf62.erase := by kernel_rfl
theorem Qac : QO Tryd.prog Tryd.f63 = some tf63.erase := by kernel_rfl
theorem Qad : QO Tryd.prog Tryd.f64 = some tf64.erase := by kernel_rfl
theorem Qae : QO Tryd.prog Tryd.f65 = some tf65.erase := by kernel_rfl
theorem Qaf : QO Tryd.prog Tryd.f66 = some tf66.erase := by kernel_rfl
theorem Qag : QO Tryd.prog Tryd.f67 = some tf67.erase := by kernel_rfl
theorem Qah : QO Tryd.prog Tryd.f68 = some tf68.erase := by kernel_rfl
theorem Qai : QO Tryd.prog Tryd.f69 = some tf69.erase := by kernel_rfl
theorem Qaj : QO Tryd.prog Tryd.f70 = some tf70.erase := by kernel_rfl
theorem Qak : QO Tryd.prog Tryd.f71 = some tf71.erase := by kernel_rfl
theorem Qal : QO Tryd.prog Tryd.f72 = some tf72.erase := by kernel_rfl
theorem Qam : QO Tryd.prog Tryd.f73 = some tf73.erase := by kernel_rfl
theorem Qan : QO Tryd.prog Tryd.f74 = some tf74.erase := by kernel_rfl
theorem Qao : QO Tryd.prog Tryd.f75 = some tf75.erase := by kernel_rfl
theorem Qap : QO Tryd.prog Tryd.f76 = some tf76.erase := by kernel_rfl
theorem Qaq : QO Tryd.prog Tryd.f77 = some tf77.erase := by kernel_rfl
theorem Qar : QO Tryd.prog Tryd.f78 = some tf78.erase := by kernel_rfl
theorem Qas : QO Tryd.prog Tryd.f79 = some tf79.erase := by kernel_rfl
theorem Qat : QO Tryd.prog Tryd.f80 = some tf80.erase := by kernel_rfl
theorem Qau : QO Tryd.prog Tryd.f81 = some tf81.erase := by kernel_rfl
theorem Qav : QO Tryd.prog Tryd.f82 = some tf82.erase := by kernel_rfl
theorem Qaw : QO Tryd.prog Tryd.f83 = some tf83.erase := by kernel_rfl
theorem Qax : QO Tryd.prog Tryd.f84 = some tf84.erase := by kernel_rfl
theorem Qay : QO Tryd.prog Tryd.f85 = some tf85.erase := by kernel_rfl
theorem Qaz : QO Tryd.prog Tryd.f86 = some tf86.erase := by kernel_rfl
theorem QaA : QO Tryd.prog Tryd.f87 = some tf87.erase := by kernel_rfl
theorem QaB : QO Tryd.prog Tryd.f88 = some tf88.erase := by kernel_rfl
theorem QaC : QO Tryd.prog Tryd.f89 = some tf89.erase := by kernel_rfl
theorem ZS : Tryd.prog.follows .mixedOrders = true := by kernel_rfl
end Go.Proofs
namespace M3
open Go Go.Abs
def NH (n : Int) : Bool := decide (0 <= n) && decide (n <= 9999)
def ZD (m n : Int) : Int := if m < n then -1 else if n < m then 1 else 0
def Z2 (c : UInt8) : Bool := decide (48 <= c.toNat) && decide (c.toNat <= 57)
def Yv (s : List UInt8) : Bool := s.all Z2 && !decide (s = [])
theorem Ki {s : List UInt8} {i : Nat} (h : i < s.length) (hd : Z2 s[i] = false) : Yv s = false := by
 have : s.all Z2 = false := by
  rw [Bool.eq_false_iff]
  intro ha
  rw [QaQ] at ha
  rw [ha _ (QaL h)] at hd
  cases hd
 rw [Yv, this]; rfl
theorem Fw {s : List UInt8} {i : Nat} (hi : s.length <= i) (h : (s.take i).all Z2 = true) : Yv s = !decide (s = []) := by
 rw [QaW hi] at h
 rw [Yv, h]; rfl
def Zn (l : List Int) : D := .sl (l.map fun x => [.int .i64 x])
end M3
namespace M3
open Go Go.Abs
def Ja (c : Int) : List UInt8 -> List UInt8 -> List (List UInt8)
 | [], cur => [cur]
 | x :: xs, cur => if (x.toNat : Int) = c then cur :: Ja c xs [] else Ja c xs (cur ++ [x])
def Q0 (s : List UInt8) (c : Int) : List (List UInt8) := Ja c s []
def YH (l : List (List UInt8)) : List (List D) := l.map fun x => [.str x]
def SplitI (s : List UInt8) (c : Int) (i k : Nat) (acc : List (List UInt8)) : Prop :=
 i <= s.length /\ k <= i /\ acc.length <= i /\ Q0 s c = acc ++ Ja c (s.drop i) ((s.take i).drop k)
theorem SplitI.zero {s : List UInt8} {c : Int} : SplitI s c 0 0 [] := ⟨QaS _, Nat.le_refl _, Nat.le_refl _, by simp [Q0]⟩
theorem SplitI.hit {s : List UInt8} {c : Int} {i k : Nat} {acc : List (List UInt8)} (h : SplitI s c i k acc) (hi : i < s.length) (he : ((s[i]).toNat : Int) = c) : SplitI s c (i + 1) (i + 1) (acc ++ [(s.take i).drop k]) := by
 obtain ⟨h1, h2, h3, h4⟩ := h
 refine ⟨hi, Nat.le_refl _, by simp; omega, ?_⟩
 rw [QaX hi] at h4
 simp only [Ja, he, if_true] at h4
 rw [h4, List.append_assoc]
 simp
theorem SplitI.miss {s : List UInt8} {c : Int} {i k : Nat} {acc : List (List UInt8)} (h : SplitI s c i k acc) (hi : i < s.length) (he : ¬ ((s[i]).toNat : Int) = c) : SplitI s c (i + 1) k acc := by
 obtain ⟨h1, h2, h3, h4⟩ := h
 refine ⟨hi, Wa, Wa, ?_⟩
 rw [QaX hi] at h4
 simp only [Ja, he, if_false] at h4
 rw [h4, List.take_succ_eq_append_getElem hi, List.drop_append_of_le_length Wh]
theorem SplitI.done {s : List UInt8} {c : Int} {i k : Nat} {acc : List (List UInt8)} (h : SplitI s c i k acc) (hi : s.length <= i) : Q0 s c = acc ++ [s.drop k] := by
 obtain ⟨h1, h2, h3, h4⟩ := h
 rw [h4, Qa1 hi, QaW hi]
 rfl
end M3
namespace M3
open Go Go.Abs
def YN (a b : List UInt8) : Int := if Op.bytesLess a b = true then -1 else if a = b then 0 else 1
def Xc (c : Int) : Bool := decide (48 <= c) && decide (c <= 57)
def Zx (c : UInt8) : Bool := (decide (97 <= c.toNat) && decide (c.toNat <= 122)) || (decide (48 <= c.toNat) && decide (c.toNat <= 57)) || decide (c.toNat = 45)
def JJ (s : List UInt8) : Bool := decide (1 <= s.length) && decide (s.length <= 8) && s.all Zx
def val (s : List UInt8) : Nat := s.foldl (fun n c => 10 * n + (c.toNat - 48)) 0
def ZU (s : List UInt8) : Int × Bool :=
 if s.length < 1 \/ 9 < s.length \/ (1 < s.length /\ s.head? = some 48) \/ s.all Z2 = false \/ 9999 < val s then (0, false) else ((val s : Int), true)
def FU (a b : List UInt8) : Int :=
 if Yv a = true /\ Yv b = true then ZD (ZU a).1 (ZU b).1
 else if Yv a = true then -1 else if Yv b = true then 1 else YN a b
def P5 : List (List UInt8) -> List (List UInt8) -> Int
 | [], [] => 0
 | [], _ :: _ => -1
 | _ :: _, [] => 1
 | a :: l, b :: m => if FU a b ≠ 0 then FU a b else P5 l m
def KW (a b : List UInt8) : Int := if a = b then 0 else if a = [] then 1 else if b = [] then -1 else P5 (Q0 a 46) (Q0 b 46)
def KC (pre : Bool) (t : List UInt8) : Bool := JJ t && !(pre && Yv t && !(ZU t).2)
def X7 (s : List UInt8) (pre : Bool) : Bool := decide (s = []) || (decide ((Q0 s 46).length <= 4) && (Q0 s 46).all (KC pre))
def JZ (a b c : Int) (p q : List UInt8) : Bool := NH a && NH b && NH c && X7 p true && X7 q false
def KI (a b c : Int) (p q : List UInt8) (a' b' c' : Int) (p' q' : List UInt8) : Int :=
 if JZ a b c p q = false \/ JZ a' b' c' p' q' = false then 0
 else if ZD a a' ≠ 0 then ZD a a' else if ZD b b' ≠ 0 then ZD b b' else if ZD c c' ≠ 0 then ZD c c' else KW p p'
theorem Yg {α : Type} {s : List α} {p : α -> Bool} {i : Nat} (h : i < s.length) (hd : p s[i] = false) : s.all p = false := by
 rw [Bool.eq_false_iff]
 intro ha
 rw [QaQ] at ha
 rw [ha _ (QaL h)] at hd
 cases hd
theorem Y1 {α : Type} {s : List α} {p : α -> Bool} {i : Nat} (hi : s.length <= i) (h : (s.take i).all p = true) : s.all p = true := by rwa [QaW hi] at h
theorem GQ {s : List UInt8} {i : Nat} (h : i < s.length) : val (s.take (i + 1)) = 10 * val (s.take i) + (s[i].toNat - 48) := by
 rw [List.take_succ_eq_append_getElem h]; simp only [val, List.foldl_append, List.foldl_cons, List.foldl_nil]
theorem S0 : ∀ {s : List UInt8}, s.all Z2 = true -> val s < 10 ^ s.length := by
 intro s
 rw [<- List.reverse_reverse s]
 generalize s.reverse = r
 induction r with
 | nil => intro _; decide
 | cons c r ih =>
  intro h
  rw [List.reverse_cons, List.all_append, QaK] at h
  have h1 := ih h.1
  have h2 : Z2 c = true := by simpa using h.2
  simp only [Z2, QaK, decide_eq_true_eq] at h2
  rw [List.reverse_cons]
  simp only [val, List.foldl_append, List.foldl_cons, List.foldl_nil, List.length_append, List.length_cons, List.length_nil] at h1 ⊢
  rw [Nat.pow_succ]
  omega
theorem MC {l m : List (List UInt8)} {i : Nat} (h1 : i < l.length) (h2 : i < m.length) (h : FU l[i] m[i] = 0) : P5 (l.drop i) (m.drop i) = P5 (l.drop (i + 1)) (m.drop (i + 1)) := by
 rw [QaX h1, QaX h2]
 simp [P5, h]
theorem Z7 {l m : List (List UInt8)} {i : Nat} (h1 : i < l.length) (h2 : i < m.length) (h : FU l[i] m[i] ≠ 0) : P5 (l.drop i) (m.drop i) = FU l[i] m[i] := by
 rw [QaX h1, QaX h2]
 simp [P5, h]
theorem Z6 {l m : List (List UInt8)} {i : Nat} (hl : i <= l.length) (hm : i <= m.length) (h : l.length <= i \/ m.length <= i) : P5 (l.drop i) (m.drop i) = ZD l.length m.length := by
 rcases Qa3 i l.length with h1 | h1 <;> rcases Qa3 i m.length with h2 | h2
 ·omega
 ·rw [QaX h1, Qa1 h2]
  simp only [P5, ZD]
  rw [if_neg Wa, if_pos Wa]
 ·rw [QaX h2, Qa1 h1]
  simp only [P5, ZD]
  rw [if_pos Wa]
 ·rw [Qa1 h1, Qa1 h2]
  simp only [P5, ZD]
  rw [if_neg Wa, if_neg Wa]
end M3
namespace M3
end M3
namespace M3
theorem DQ {s : List UInt8} (h : 0 < s.length) (e : ((s[0]).toNat : Int) = 48) : s.head? = some 48 := by
 cases s with
 | nil => simp at h
 | cons x r =>
  simp only [List.getElem_cons_zero] at e
  have : x = 48 := UInt8.toNat_inj.1 (by simpa using (by omega : x.toNat = 48))
  simp [this]
theorem NE {s : List UInt8} (h : 0 < s.length) (e : ¬ ((s[0]).toNat : Int) = 48) : s.head? ≠ some 48 := by
 cases s with
 | nil => simp at h
 | cons x r =>
  simp only [List.getElem_cons_zero] at e
  intro hh
  simp at hh
  subst hh
  exact e rfl
theorem Fv {s : List UInt8} {i : Nat} (h : ¬ (s.length < 1 \/ 9 < s.length \/ (1 < s.length /\ s.head? = some 48))) (hi : s.length <= i) (ha : (s.take i).all Z2 = true) (hv : val (s.take i) <= 9999) : ZU s = ((val (s.take i) : Int), true) := by
 have h1 := Y1 hi ha
 rw [QaW hi] at hv ⊢
 rw [ZU, if_neg]
 rintro (q | q | q | q | q)
 ·exact h (.inl q)
 ·exact h (.inr (.inl q))
 ·exact h (.inr (.inr q))
 ·rw [h1] at q; cases q
 ·omega
theorem H5 {s : List UInt8} {i : Nat} (hi : s.length <= i) (hv : 9999 < val (s.take i)) : ZU s = (0, false) := by
 rw [QaW hi] at hv
 rw [ZU, if_pos (.inr (.inr (.inr (.inr hv))))]
theorem YO {s : List UInt8} {i : Nat} (h : i < s.length) (hd : Z2 s[i] = false) : ZU s = (0, false) := by
 rw [ZU, if_pos (.inr (.inr (.inr (.inl (Yg h hd)))))]
theorem H6 {s : List UInt8} (h : s.length < 1 \/ 9 < s.length) : ZU s = (0, false) := by
 rw [ZU, if_pos (by rcases h with h | h; exact .inl h; exact .inr (.inl h))]
theorem Yf {s : List UInt8} (h : 1 < s.length) (e : ((s[0]).toNat : Int) = 48) : ZU s = (0, false) := by
 rw [ZU, if_pos (.inr (.inr (.inl ⟨h, DQ Wa e⟩)))]
end M3
namespace M3
open Go Go.Abs
theorem Qm (l : List (List UInt8)) : (YH l).length = l.length := by simp [YH]
theorem Xq {l : List (List UInt8)} {i : Nat} (h : i < l.length) : (YH l)[((i : Nat) : Int).toNat]? = some [.str l[i]] := by simp [YH, h]
theorem Jz {c : Int} : ∀ (s cur : List UInt8), (Ja c s cur).length <= s.length + 1 /\ ∀ x ∈ Ja c s cur, x.length <= s.length + cur.length
 | [], cur => by simp [Ja]
 | x :: xs, cur => by
  simp only [Ja]
  split
  ·obtain ⟨h1, h2⟩ := Jz (c := c) xs []
   refine ⟨by simp; omega, fun y hy => ?_⟩
   rcases QaI.1 hy with rfl | hy
   ·simp <;> omega
   ·have := h2 y hy; simp at this ⊢; omega
  ·obtain ⟨h1, h2⟩ := Jz (c := c) xs (cur ++ [x])
   refine ⟨by simp; omega, fun y hy => ?_⟩
   have := h2 y hy; simp at this ⊢; omega
theorem HO {s : List UInt8} {c : Int} : (Q0 s c).length <= s.length + 1 := (Jz s []).1
theorem Xt {s : List UInt8} {c : Int} {i : Nat} (h : i < (Q0 s c).length) (hl : s.length <= 1048576) : ((Q0 s c)[i]).length <= 1048576 := by
 have := (Jz (c := c) s []).2 _ (QaL h)
 simp only [List.length_nil, Nat.add_zero] at this
 exact QaZ this hl
end M3
namespace M3
open Go Go.Abs
theorem Hz {s : List UInt8} {pre : Bool} {i : Nat} (hs : s ≠ []) (h : i < (Q0 s 46).length) (hd : KC pre (Q0 s 46)[i] = false) : X7 s pre = false := by
 rw [X7, Yg h hd]; simp [hs]
theorem J1 {s : List UInt8} {pre : Bool} {i : Nat} (h4 : (Q0 s 46).length <= 4) (hi : (Q0 s 46).length <= i) (h : ((Q0 s 46).take i).all (KC pre) = true) : X7 s pre = true := by
 rw [X7, Y1 hi h]; simp [h4]
def ZK : List Int -> Int
 | [] => 0
 | x :: r => if x ≠ 0 then x else ZK r
theorem G9 {l : List Int} {i : Nat} (h : i < l.length) (e : ¬ l[i] = 0) : ZK (l.drop i) = l[i] := by
 rw [QaX h]; simp [ZK, e]
theorem Mt {l : List Int} {i : Nat} (h : i < l.length) (e : l[i] = 0) : ZK (l.drop i) = ZK (l.drop (i + 1)) := by
 rw [QaX h]; simp [ZK, e]
end M3
namespace M3
open Go Go.Abs
structure Cu where
 e : Int
 a : Int
 b : Int
 c : Int
 p : List UInt8
 q : List UInt8
 f : Bool
def Ys (e a b c : Int) (p q : List UInt8) (f : Bool) : Bool :=
 if e = 0 then JZ a b c p q && decide (q = [])
 else (decide (e = -1) || decide (e = 1)) && (decide (a = 0) && (decide (b = 0) && (decide (c = 0) && (decide (p = []) && (decide (q = []) && true))))) && !f
def Z9 (e a b c : Int) (p q : List UInt8) (f : Bool) (e' a' b' c' : Int) (p' q' : List UInt8) (f' : Bool) : Int :=
 if Ys e a b c p q f = false \/ Ys e' a' b' c' p' q' f' = false then 0
 else if e ≠ e' \/ e ≠ 0 then ZD e e'
 else if KI a b c p q a' b' c' p' q' ≠ 0 then KI a b c p q a' b' c' p' q'
 else if f = f' then 0 else if f' = true then -1 else 1
def ZV (e a b c : Int) (p q : List UInt8) (f : Bool) (a' b' c' : Int) (p' q' : List UInt8) : Bool :=
 if Ys e a b c p q f = false \/ JZ a' b' c' p' q' = false then false
 else if e ≠ 0 then decide (e < 0)
 else decide (KI a b c p q a' b' c' p' q' < 0) || (decide (KI a b c p q a' b' c' p' q' = 0) && !f)
end M3
namespace M3
def J0 (e a b c : Int) (p q : List UInt8) (f : Bool) (e' a' b' c' : Int) (p' q' : List UInt8) (f' : Bool) : Bool :=
 Ys e a b c p q f && Ys e' a' b' c' p' q' f' && decide (Z9 e a b c p q f e' a' b' c' p' q' f' < 0)
def YK (e a b c : Int) (p q : List UInt8) (f : Bool) (e' a' b' c' : Int) (p' q' : List UInt8) (f' : Bool) (x y z : Int) (r s : List UInt8) : Bool :=
 J0 e a b c p q f e' a' b' c' p' q' f' && JZ x y z r s && ZV e a b c p q f x y z r s && !ZV e' a' b' c' p' q' f' x y z r s
end M3
namespace M3
open Go Go.Abs
theorem XX {s : List UInt8} (h : s = [] \/ 4 < s.length) : ZU s = (0, false) := by
 rcases h with rfl | h
 ·rfl
 ·unfold ZU
  split
  ·rfl
  ·rename_i hn
   exfalso
   apply hn
   by_cases h1 : s.head? = some 48
   ·exact .inr (.inr (.inl ⟨Wa, h1⟩))
   ·cases hd : s.all Z2 with
    | false => exact .inr (.inr (.inr (.inl rfl)))
    | true =>
     refine .inr (.inr (.inr (.inr ?_)))
     cases s with
     | nil => simp at h
     | cons x r =>
      simp only [List.all_cons, QaK, Z2, decide_eq_true_eq] at hd
      simp only [List.head?_cons, QaJ] at h1
      have hx : 1 <= x.toNat - 48 := by
       have : x.toNat ≠ 48 := fun e => h1 (UInt8.toNat_inj.1 (by simpa using e))
       omega
      have key : ∀ (r : List UInt8) (n : Nat), n * 10 ^ r.length <= r.foldl (fun n c => 10 * n + (c.toNat - 48)) n := by
       intro r
       induction r with
       | nil => intro n; simp
       | cons c r ih =>
        intro n
        simp only [List.foldl_cons, List.length_cons]
        refine QaZ ?_ (ih _)
        rw [Nat.pow_succ, <- Nat.mul_assoc, Nat.mul_right_comm]
        exact Nat.mul_le_mul_right _ Wa
      have h2 := key r (10 * 0 + (x.toNat - 48))
      have h3 : 10 ^ 4 <= 10 ^ r.length := Nat.pow_le_pow_right Wa (by simp at h; omega)
      have h4 : 10 ^ r.length <= (10 * 0 + (x.toNat - 48)) * 10 ^ r.length := Nat.le_mul_of_pos_left _ Wa
      show 9999 < (x :: r).foldl (fun n c => 10 * n + (c.toNat - 48)) 0
      simp only [List.foldl_cons]
      omega
theorem J2 {s : List UInt8} {i : Nat} (h : ¬ (s = [] \/ 4 < s.length \/ (1 < s.length /\ s.head? = some 48))) (hi : s.length <= i) (ha : (s.take i).all Z2 = true) : ZU s = ((val (s.take i) : Int), true) := by
 have h1 := Y1 hi ha
 have hv := S0 h1
 have h4 : s.length <= 4 := Nat.le_of_not_lt fun q => h (.inr (.inl q))
 have hp : 10 ^ s.length <= 10 ^ 4 := Nat.pow_le_pow_right Wa h4
 refine Fv ?_ hi ha ?_
 ·rintro (q | q | q)
  ·exact h (.inl (List.eq_nil_of_length_eq_zero Wa))
  ·omega
  ·exact h (.inr (.inr q))
 ·rw [QaW hi]; omega
end M3
namespace M3
open Go Go.Abs
def KJ (s : List UInt8) : Bool := decide ((Q0 s 46).length <= 4) && (Q0 s 46).all JJ
theorem LX {t : List UInt8} (h0 : ¬ t = []) (h8 : t.length <= 8) (h : t.all Zx = true) : JJ t = true := by
 have : 1 <= t.length := List.length_pos_iff.2 h0
 simp [JJ, h, h8, this]
theorem YM {t : List UInt8} (h : t = [] \/ 8 < t.length) : JJ t = false := by
 rcases h with rfl | h
 ·rfl
 ·simp [JJ]; omega
theorem YL {t : List UInt8} (h : t.all Zx = false) : JJ t = false := by simp [JJ, h]
theorem ZB {s : List UInt8} {i : Nat} (h : i < (Q0 s 46).length) (hd : JJ (Q0 s 46)[i] = false) : KJ s = false := by
 rw [KJ, Yg h hd, Bool.and_false]
theorem Yp {s : List UInt8} {i : Nat} (hi : (Q0 s 46).length <= i) (h : ((Q0 s 46).take i).all JJ = true) : KJ s = decide ((Q0 s 46).length <= 4) := by
 rw [KJ, Y1 hi h, Bool.and_true]
theorem Ym (s : List UInt8) : X7 s false = (decide (s = []) || KJ s) := by
 have : KC false = JJ := by funext t; simp [KC]
 rw [X7, KJ, this]
end M3
namespace M3
open Go Go.Abs
def Gx (t : List UInt8) : Bool := !(Yv t && !(ZU t).2)
def FV (s : List UInt8) : Bool := KJ s && (Q0 s 46).all Gx
theorem Pu {s : List UInt8} {i : Nat} (h : i < (Q0 s 46).length) (hd : Gx (Q0 s 46)[i] = false) : FV s = false := by
 rw [FV, Yg h hd, Bool.and_false]
theorem NN {s : List UInt8} {i : Nat} (h1 : KJ s = true) (hi : (Q0 s 46).length <= i) (h : ((Q0 s 46).take i).all Gx = true) : FV s = true := by
 rw [FV, Y1 hi h, h1]; rfl
theorem YE (s : List UInt8) : X7 s true = (decide (s = []) || FV s) := by
 have : KC true = fun t => JJ t && Gx t := by funext t; simp [KC, Gx]
 rw [X7, FV, KJ, this, Bool.and_assoc]
 congr 2
 induction (Q0 s 46) with
 | nil => rfl
 | cons x xs ih => simp only [List.all_cons, ih]; cases JJ x <;> cases Gx x <;> simp
theorem F9 {a b : Int} : ZD a b = 0 ↔ a = b := by unfold ZD; (repeat' split) <;> omega
theorem Ho {a b c : Int} {p q : List UInt8} {a' b' c' : Int} {p' q' : List UInt8} (h1 : JZ a b c p q = true) (h2 : JZ a' b' c' p' q' = true)
  (h : (decide (a = a') && (decide (b = b') && (decide (c = c') && (decide (p = p') && (decide (([] : List UInt8) = []) && true))))) = true) : KI a b c p q a' b' c' p' q' = 0 := by
 simp only [QaK, decide_eq_true_eq, and_true] at h
 obtain ⟨rfl, rfl, rfl, rfl⟩ := h
 have e : ∀ x, ZD x x = 0 := fun x => F9.2 rfl
 simp [KI, h1, h2, e, KW]
theorem Jr {a b c : Int} {p q : List UInt8} {a' b' c' : Int} {p' q' : List UInt8} (h1 : JZ a b c p q = true) (h2 : JZ a' b' c' p' q' = true)
  (h : ¬ ZK [ZD a a', ZD b b', ZD c c'] = 0) : ZK [ZD a a', ZD b b', ZD c c'] = KI a b c p q a' b' c' p' q' := by
 simp only [ZK, KI, h1, h2] at h ⊢
 simp only [Bool.true_eq_false, or_self, if_false]
 repeat' split
 all_goals first | rfl | (exfalso; simp_all)
theorem G6 {a b c : Int} {p q : List UInt8} {a' b' c' : Int} {p' q' : List UInt8} (h1 : JZ a b c p q = true) (h2 : JZ a' b' c' p' q' = true) (h : ZK [ZD a a', ZD b b', ZD c c'] = 0) :
  KI a b c p q a' b' c' p' q' = KW p p' := by
 simp only [ZK] at h
 simp only [KI, h1, h2, Bool.true_eq_false, or_self, if_false]
 repeat' split
 all_goals first | rfl | (exfalso; simp_all)
theorem La {a b c : Int} {p : List UInt8} {a' b' c' : Int} {p' : List UInt8} (h : (decide (a = a') && (decide (b = b') && (decide (c = c') && (decide (p = p') && (decide (([] : List UInt8) = []) && true))))) = false)
  (h0 : ZK [ZD a a', ZD b b', ZD c c'] = 0) : p ≠ p' := by
 rintro rfl
 have e : ZD a a' = 0 /\ ZD b b' = 0 /\ ZD c c' = 0 := by
  simp only [ZK] at h0
  revert h0
  repeat' split
  all_goals simp_all
 simp only [F9] at e
 simp [e] at h
theorem Xn {a b c : Int} {p q : List UInt8} {a' b' c' : Int} {p' q' : List UInt8} (h1 : JZ a b c p q = true) (h2 : JZ a' b' c' p' q' = true)
  (h : (decide (a = a') && (decide (b = b') && (decide (c = c') && (decide (p = p') && (decide (([] : List UInt8) = []) && true))))) = false)
  (h0 : ZK [ZD a a', ZD b b', ZD c c'] = 0) (hp : p = []) : KI a b c p q a' b' c' p' q' = 1 := by
 rw [G6 h1 h2 h0, KW, if_neg (La h h0), if_pos hp]
theorem Xo {a b c : Int} {p q : List UInt8} {a' b' c' : Int} {p' q' : List UInt8} (h1 : JZ a b c p q = true) (h2 : JZ a' b' c' p' q' = true)
  (h0 : ZK [ZD a a', ZD b b', ZD c c'] = 0) (hp : ¬ p = []) (hp' : p' = []) : KI a b c p q a' b' c' p' q' = -1 := by
 have : p ≠ p' := fun e => hp (e.trans hp')
 rw [G6 h1 h2 h0, KW, if_neg this, if_neg hp, if_pos hp']
theorem LM {a b c : Int} {p q : List UInt8} {a' b' c' : Int} {p' q' : List UInt8} (h1 : JZ a b c p q = true) (h2 : JZ a' b' c' p' q' = true)
  (h : (decide (a = a') && (decide (b = b') && (decide (c = c') && (decide (p = p') && (decide (([] : List UInt8) = []) && true))))) = false)
  (h0 : ZK [ZD a a', ZD b b', ZD c c'] = 0) (hp : ¬ p = []) (hp' : ¬ p' = []) : KI a b c p q a' b' c' p' q' = P5 ((Q0 p 46).drop 0) ((Q0 p' 46).drop 0) := by
 rw [G6 h1 h2 h0, KW, if_neg (La h h0), if_neg hp, if_neg hp']; rfl
end M3
namespace M3
open Go Go.Abs
theorem XR {e a b c : Int} {p q : List UInt8} {f : Bool} {e' a' b' c' : Int} {p' q' : List UInt8} {f' : Bool} (h1 : Ys e a b c p q f = true) (h2 : Ys e' a' b' c' p' q' f' = true) (h : ¬ e = 0 \/ ¬ e' = 0) :
  Z9 e a b c p q f e' a' b' c' p' q' f' = ZD e e' := by
 rw [Z9, h1, h2, if_neg Wd, if_pos]
 by_cases h0 : e = 0
 ·exact .inl Wa
 ·exact .inr h0
end M3
namespace Go.Proofs
open Go Go.Abs M3
theorem X3 {n : Int} : Ok Tryd.prog 42 [.int .i64 n] (.bool (NH n)) := by
 refine Ok.ofT ZS Tryd.func42 BN (QaG Z) ?_
 show TW _ _ tf42.body _ _
 refine Qd fun K hK => Qa Z (kc1 hK Z ?_)
 refine Qd fun K hK => Qa Z (Nk Z Z (Qa Z ?_))
 refine Qo (g := 5) Z (fun h1 => ?_) (fun h1 => ?_)
 ·try rw [h1]
  try simp only [qB] at h1
  refine Qb Z (Qa Z (Qb Z (T4 Z Z (Qf Z Z (Qa Z (kc1 hK Z ?_))))))
  refine Qn (Qe Z ?_)
  (repeat clear hK K); simp_all [NH] <;> omega
 ·try rw [h1]
  try simp only [qB] at h1
  refine gn2 Z Z (Qf Z Z (Qa Z (kc1 hK Z ?_)))
  refine Qn (Qe Z ?_)
  (repeat clear hK K); simp_all [NH] <;> omega
theorem YI {n : Int} : Ok Tryd.prog 71 [.int .i64 n] (.bool (NH n)) := by
 refine Ok.ofT ZS Tryd.func71 Qak (QaG Z) ?_
 show TW _ _ tf71.body _ _
 refine Qd fun K hK => Qa Z (kc1 hK Z ?_)
 refine Qd fun K hK => Qa Z (Nk Z Z (Qa Z ?_))
 refine Qo (g := 5) Z (fun h1 => ?_) (fun h1 => ?_)
 ·try rw [h1]
  try simp only [qB] at h1
  refine Qb Z (Qa Z (Qb Z (T4 Z Z (Qf Z Z (Qa Z (kc1 hK Z ?_))))))
  refine Qn (Qe Z ?_)
  (repeat clear hK K); simp_all [NH] <;> omega
 ·try rw [h1]
  try simp only [qB] at h1
  refine gn2 Z Z (Qf Z Z (Qa Z (kc1 hK Z ?_)))
  refine Qn (Qe Z ?_)
  (repeat clear hK K); simp_all [NH] <;> omega
theorem JQ {n : Int} : Ok Tryd.prog 61 [.int .i64 n] (.bool false) := by
 refine Ok.ofT ZS Tryd.func61 Qaa (QaG Z) ?_
 show TW _ _ tf61.body _ _
 refine Qd fun K hK => Qa Z (kc1 hK Z ?_)
 refine Qd fun K hK => mv2 Z Z (Z3 Z Z (Qa Z (kc1 hK Z ?_)))
 refine Qn (Qe Z ?_)
 (repeat clear hK K); simp_all
theorem Zj {m n : Int} : Ok Tryd.prog 64 [.int .i64 m, .int .i64 n] (.int .i64 (ZD m n)) := by
 refine Ok.ofT ZS Tryd.func64 Qad (QaG Z) ?_
 show TW _ _ tf64.body _ _
 refine Qd fun K hK => Qa Z (kc2 hK Z Z ?_)
 refine Qz ?_ -- 0
 refine Qy (Qd fun K hK => mv2 Z Z (ZZ Z Z (Qa Z (kc3 hK Z Z Z ?_))))
 refine Qr Z (fun h1 => ?_) (fun h1 => ?_)
 ·try rw [h1]
  try simp only [qB] at h1
  refine Qd fun K hK => Qa Z (kc1 hK Z ?_)
  refine Qn (Qi (Qh (QG Z ?_)))
  (repeat clear hK K); simp_all [ZD] <;> omega
 ·try rw [h1]
  try simp only [qB] at h1
  refine Qd fun K hK => mv2 Z Z (Y9 Z Z (Qa Z (kc1 hK Z ?_)))
  refine Qr Z (fun h2 => ?_) (fun h2 => ?_)
  ·try rw [h2]
   try simp only [qB] at h2
   refine Qd fun K hK => Qa Z (kc1 hK Z ?_)
   refine Qn (Qi (Qh (QG Z ?_)))
   (repeat clear hK K); simp_all [ZD] <;> omega
  ·try rw [h2]
   try simp only [qB] at h2
   refine Qp (Qj (QM (QZ) (Qd fun K hK => Qa Z (kc1 hK Z ?_))))
   refine Qn (QG Z ?_)
   (repeat clear hK K); simp_all [ZD] <;> omega
theorem Zs {m n : Int} : Ok Tryd.prog 46 [.int .i64 m, .int .i64 n] (.int .i64 (ZD m n)) := by
 refine Ok.ofT ZS Tryd.func46 BR (QaG Z) ?_
 show TW _ _ tf46.body _ _
 refine Qd fun K hK => Qa Z (kc2 hK Z Z ?_)
 refine Qd fun K hK => Qa Z (QB (JQ) Z Z (.inr Z) (Qa Z (kc3 hK Z Z Z ?_)))
 refine Qd fun K hK => Qa Z (QB (JQ) Z Z (.inr Z) (Qa Z (kc4 hK Z Z Z Z ?_)))
 refine Qz ?_ -- 0
 refine Qd fun K hK => Qa Z (kc4 hK Z Z Z Z ?_)
 refine Qr Z (fun h1 => ?_) (fun h1 => ?_)
 ·try rw [h1]
  try simp only [qB] at h1
  refine Qz ?_ -- 1
  refine Qd fun K hK => Qa Z (kc1 hK Z ?_)
  refine Qr Z (fun h2 => ?_) (fun h2 => ?_)
  ·try rw [h2]
   try simp only [qB] at h2
   refine Qd fun K hK => Qa Z (kc1 hK Z ?_)
   refine Qn (Qh (Qh (QG Z ?_)))
   (repeat clear hK K); simp_all [ZD] <;> omega
  ·try rw [h2]
   try simp only [qB] at h2
   refine Qp (QM (QZ) (Qd fun K hK => Qa Z (kc1 hK Z ?_)))
   refine Qn (Qh (QG Z ?_))
   (repeat clear hK K); simp_all [ZD] <;> omega
 ·try rw [h1]
  try simp only [qB] at h1
  refine Qp (ks3 Z Z Z ?_)
  refine Qz ?_ -- 2
  refine Qd fun K hK => Qa Z (kc3 hK Z Z Z ?_)
  refine Qr Z (fun h3 => ?_) (fun h3 => ?_)
  ·try rw [h3]
   try simp only [qB] at h3
   refine Qd fun K hK => Qa Z (kc1 hK Z ?_)
   refine Qn (Qh (QG Z ?_))
   (repeat clear hK K); simp_all [ZD] <;> omega
  ·try rw [h3]
   try simp only [qB] at h3
   refine Qp (ks2 Z Z ?_)
   refine Qz ?_ -- 3
   refine Qd fun K hK => mv2 Z Z (ZZ Z Z (kc3 hK Z Z Z ?_))
   refine Qr Z (fun h4 => ?_) (fun h4 => ?_)
   ·try rw [h4]
    try simp only [qB] at h4
    refine Qd fun K hK => Qa Z (kc1 hK Z ?_)
    refine Qn (Qh (QG Z ?_))
    (repeat clear hK K); simp_all [ZD] <;> omega
   ·try rw [h4]
    try simp only [qB] at h4
    refine Qp (ks2 Z Z ?_)
    refine Qz ?_ -- 4
    refine Qd fun K hK => mv2 Z Z (Y9 Z Z (kc1 hK Z ?_))
    refine Qr Z (fun h5 => ?_) (fun h5 => ?_)
    ·try rw [h5]
     try simp only [qB] at h5
     refine Qd fun K hK => Qa Z (kc1 hK Z ?_)
     refine Qn (Qh (QG Z ?_))
     (repeat clear hK K); simp_all [ZD] <;> omega
    ·try rw [h5]
     try simp only [qB] at h5
     refine Qp (QM (QZ) (Qd fun K hK => Qa Z (kc1 hK Z ?_)))
     refine Qn (QG Z ?_)
     (repeat clear hK K); simp_all [ZD] <;> omega
theorem _root_.Wj {p : Prop} (h : p := by simp [Z2]; omega) : p := h
theorem _root_.Wb {p : Prop} (h : p := by first | exact Qv (by omega) (by omega) | exact QF (by omega) (by omega) | exact QN (by omega) (by omega) | rfl) : p := h
theorem Y3 {s : List UInt8} (hl : s.length <= 1048576) : Ok Tryd.prog 60 [.str s] (.bool (Yv s)) := by
 refine Ok.ofT ZS Tryd.func60 B9 (QaG Z) ?_
 show TW _ _ tf60.body _ _
 refine Qd fun K hK => Qa Z (kc1 hK Z ?_)
 refine Qz ?_ -- 0
 refine Qd fun K hK => Qa Z (ZJ Z (Qa Z (kc3 hK Z Z Z ?_)))
 refine Qy ?_
 refine Zd (ι := Nat) (fun i => ⟨[(0, .str s), (5, .int .i64 s.length), (6, .int .i64 i)], []⟩) (fun i => i <= s.length /\ (s.take i).all Z2 = true) (fun i => s.length - i) 0 ?_ ?_ ?_
 ·exact Q3 (kp3 rfl rfl rfl)
 ·exact ⟨QaS _, rfl⟩
 intro i hI
 try dsimp only
 refine Qd fun K hK => ZZ Z Z (kc4 hK Z Z Z Z ?_)
 refine Qz ?_ -- 1
 refine Qr Z (fun h1 => ?_) (fun h1 => ?_)
 ·try rw [h1]
  try simp only [qB] at h1
  refine Qp (ks3 Z Z Z ?_)
  refine Qz ?_ -- 2
  refine Qy (Qd fun K hK => mv2 Z Z (kc4 hK Z Z Z Z ?_))
  refine Qd fun K hK => mv2 Z Z (ZY Z Z Wa (JX Wa) (ZZ Z Z (Qa Z ?_)))
  refine Qo (g := 13) Z (fun h2 => ?_) (fun h2 => ?_)
  ·try rw [h2]
   try simp only [qB] at h2
   refine gn4 Z Z Z Z (Qf Z Z (kc4 hK Z Z Z Z ?_))
   refine QW Z (Qd fun K hK => Qa Z (kc1 hK Z ?_))
   refine Qn (Qi (Qh (QC (Qi (Qh (Qe Z ?_))))))
   exact (Ki (i := i) Wa Wj).symm
  ·try rw [h2]
   try simp only [qB] at h2
   refine Qb Z (Qa Z (Qb Z (Qa Z (Qb Z (ZY Z Z Wa (JX Wa) (Qb Z (Y9 Z Z (Qf Z Z (kc4 hK Z Z Z Z ?_)))))))))
   refine Qr Z (fun h3 => ?_) (fun h3 => ?_)
   ·try rw [h3]
    try simp only [qB] at h3
    refine Qd fun K hK => Qa Z (kc1 hK Z ?_)
    refine Qn (Qi (Qh (QC (Qi (Qh (Qe Z ?_))))))
    exact (Ki (i := i) Wa Wj).symm
   ·try rw [h3]
    try simp only [qB] at h3
    refine Qp (Qj (ks3 Z Z Z (QP fun K hK => Q9 Z Z Wb (Qa Z (hK _ ?_)))))
    refine Ql (i + 1) ?_ ?_ ?_
    ·exact Q3 (kp3 rfl rfl rfl)
    ·exact ⟨Wa, Q4 Wa hI.2 Wj⟩
    ·first | omega | (simp only; omega) | (dsimp only; omega)
 ·try rw [h1]
  try simp only [qB] at h1
  refine Q1 (QD (Qu (QE (ks1 Z (Qd fun K hK => Qa Z (M8 Z Z (Qa Z (kc1 hK Z ?_))))))))
  refine Qn (Qe Z ?_)
  exact (Fw (i := i) Wa hI.2).symm
theorem Yr {s : List UInt8} {c : Int} (hl : s.length <= 1048576) : Ok Tryd.prog 74 [.str s, .int .u8 c] (.sl (YH (Q0 s c))) := by
 refine Ok.ofT ZS Tryd.func74 Qan (QaG Z) ?_
 show TW _ _ tf74.body _ _
 refine Qd fun K hK => Qa Z (kc2 hK Z Z ?_)
 refine Qd fun K hK => Qa Z (kc3 hK Z Z Z ?_)
 refine Qd fun K hK => Qa Z (kc4 hK Z Z Z Z ?_)
 refine Qz ?_ -- 0
 refine Qd fun K hK => Qa Z (kc5 hK Z Z Z Z Z ?_)
 refine Qy ?_
 refine Zd (ι := Nat × Nat × List (List UInt8)) (fun ⟨i, k, acc⟩ => ⟨[(0, .str s), (1, .int .u8 c), (5, .osl 25 acc.length), (6, .int .i64 k), (7, .int .i64 i)], [(25, ⟨YH acc, 1, 9, true⟩)]⟩) (fun ⟨i, k, acc⟩ => SplitI s c i k acc) (fun ⟨i, k, acc⟩ => s.length - i) (0, 0, []) ?_ ?_ ?_
 ·exact le_trans (Jf 5 25 1 9 rfl rfl) (QQ (l := [0, 1, 5, 6, 7]) (lH := [25]) (kp5 rfl rfl rfl rfl rfl) (Qc rfl Qk) rfl rfl rfl)
 ·exact SplitI.zero
 intro ⟨i, k, acc⟩ hI
 have hI1 := hI.1
 have hI2 := hI.2.1
 have hI3 := hI.2.2.1
 try dsimp only
 refine Qz ?_ -- 1
 refine Qd fun K hK => mv2 Z Z (ZJ Z (ZZ Z Z (kc6 hK Z Z Z Z Z Z ?_)))
 refine Qr Z (fun h1 => ?_) (fun h1 => ?_)
 ·try rw [h1]
  try simp only [qB] at h1
  refine Qp (ks5 Z Z Z Z Z ?_)
  refine Qz ?_ -- 2
  refine Qy (Qd fun K hK => mv2 Z Z (ZY Z Z Wa (JX Wa) (Qa Z (Xy Z Z (kc6 hK Z Z Z Z Z Z ?_)))))
  refine Qr Z (fun h2 => ?_) (fun h2 => ?_)
  ·try rw [h2]
   try simp only [qB] at h2
   refine Qd fun K hK => mv2 Z Z (mv2 Z Z (J8 Z Z Z Wa Wa Wa Z (Zi Z Z (JC Z Z (fun _ h => JG Z Z Z h) Z (by simp [YH]) Z Z Z Wh Wh (Qa Z (kc4 hK Z Z Z Z ?_))))))
   refine QP fun K hK => Qa Z (Q9 Z Z Wb (Qa Z (hK _ ?_)))
   refine Qj (ks5 Z Z Z Z Z (QP fun K hK => Qa Z (Q9 Z Z Wb (Qa Z (hK _ ?_)))))
   refine Ql (i + 1, i + 1, acc ++ [(s.take i).drop k]) ?_ ?_ ?_
   ·exact QQ (l := [0, 1, 5, 6, 7]) (lH := [25]) (kp5 rfl rfl rfl rfl rfl) (Qc rfl Qk) (by simp [YH, D.scrub]) (by simp [YH, Box.scrub]) rfl
   ·exact hI.hit Wa Wc
   ·show s.length - (i + 1) < s.length - i; omega
  ·try rw [h2]
   try simp only [qB] at h2
   refine Qp (Qj (ks5 Z Z Z Z Z (QP fun K hK => Qa Z (Q9 Z Z Wb (Qa Z (hK _ ?_))))))
   refine Ql (i + 1, k, acc) ?_ ?_ ?_
   ·exact QQ (l := [0, 1, 5, 6, 7]) (lH := [25]) (kp5 rfl rfl rfl rfl rfl) (Qc rfl Qk) (by simp [YH, D.scrub]) (by simp [YH, Box.scrub]) rfl
   ·exact hI.miss Wa Wc
   ·show s.length - (i + 1) < s.length - i; omega
 ·try rw [h1]
  try simp only [qB] at h1
  refine Q1 (QD (Qu (QE (ks3 Z Z Z (Qd fun K hK => mv2 Z Z (Qa Z (J8 Z Z Z Wa Wa Wa Z (Zi Z Z (JC Z Z (fun _ h => JG Z Z Z h) Z (by simp [YH]) Z Z Z Wh Wh ?_)))))))))
  refine Qa Z (kc1 hK Z ?_)
  refine Qn (YP Z ?_)
  rw [hI.done Wa]; simp [JD, D.fz, D.fzS, FN, lk, D.can, D.canS, YH]
theorem Xm {s : List UInt8} {c : Int} (hl : s.length <= 1048576) : Ok Tryd.prog 47 [.str s, .int .u8 c] (.sl (YH (Q0 s c))) := by
 refine Ok.ofT ZS Tryd.func47 BS (QaG Z) ?_
 show TW _ _ tf47.body _ _
 refine Qd fun K hK => Qa Z (kc2 hK Z Z ?_)
 refine Qd fun K hK => Qa Z (kc3 hK Z Z Z ?_)
 refine Qd fun K hK => Qa Z (kc4 hK Z Z Z Z ?_)
 refine Qz ?_ -- 0
 refine Qd fun K hK => Qa Z (ZJ Z (Qa Z (kc6 hK Z Z Z Z Z Z ?_)))
 refine Qy ?_
 refine Zd (ι := Nat × Nat × List (List UInt8)) (fun ⟨i, k, acc⟩ => ⟨[(0, .str s), (1, .int .u8 c), (5, .osl 24 acc.length), (6, .int .i64 k), (9, .int .i64 s.length), (10, .int .i64 i)], [(24, ⟨YH acc, 1, 9, true⟩)]⟩) (fun ⟨i, k, acc⟩ => SplitI s c i k acc) (fun ⟨i, k, acc⟩ => s.length - i) (0, 0, []) ?_ ?_ ?_
 ·exact le_trans (Jf 5 24 1 9 rfl rfl) (QQ (l := [0, 1, 5, 6, 9, 10]) (lH := [24]) (kp6 rfl rfl rfl rfl rfl rfl) (Qc rfl Qk) rfl rfl rfl)
 ·exact SplitI.zero
 intro ⟨i, k, acc⟩ hI
 have hI1 := hI.1
 have hI2 := hI.2.1
 have hI3 := hI.2.2.1
 try dsimp only
 refine Qd fun K hK => ZZ Z Z (kc7 hK Z Z Z Z Z Z Z ?_)
 refine Qz ?_ -- 1
 refine Qr Z (fun h1 => ?_) (fun h1 => ?_)
 ·try rw [h1]
  try simp only [qB] at h1
  refine Qp (ks6 Z Z Z Z Z Z ?_)
  refine Qz ?_ -- 2
  refine Qy (Qd fun K hK => mv2 Z Z (kc7 hK Z Z Z Z Z Z Z ?_))
  refine Qd fun K hK => mv2 Z Z (ZY Z Z Wa (JX Wa) (Qa Z (Xy Z Z (kc8 hK Z Z Z Z Z Z Z Z ?_))))
  refine Qr Z (fun h2 => ?_) (fun h2 => ?_)
  ·try rw [h2]
   try simp only [qB] at h2
   refine Qd fun K hK => mv2 Z Z (mv2 Z Z (J8 Z Z Z Wa Wa Wa Z (Zi Z Z (JC Z Z (fun _ h => JG Z Z Z h) Z (by simp [YH]) Z Z Z Wh Wh (Qa Z (kc6 hK Z Z Z Z Z Z ?_))))))
   refine QP fun K hK => Qa Z (Q9 Z Z Wb (Qa Z (hK _ ?_)))
   refine Qj (ks6 Z Z Z Z Z Z (QP fun K hK => Q9 Z Z Wb (Qa Z (hK _ ?_))))
   refine Ql (i + 1, i + 1, acc ++ [(s.take i).drop k]) ?_ ?_ ?_
   ·exact QQ (l := [0, 1, 5, 6, 9, 10]) (lH := [24]) (kp6 rfl rfl rfl rfl rfl rfl) (Qc rfl Qk) (by simp [YH, D.scrub]) (by simp [YH, Box.scrub]) rfl
   ·exact hI.hit Wa Wc
   ·show s.length - (i + 1) < s.length - i; omega
  ·try rw [h2]
   try simp only [qB] at h2
   refine Qp (Qj (ks6 Z Z Z Z Z Z (QP fun K hK => Q9 Z Z Wb (Qa Z (hK _ ?_)))))
   refine Ql (i + 1, k, acc) ?_ ?_ ?_
   ·exact QQ (l := [0, 1, 5, 6, 9, 10]) (lH := [24]) (kp6 rfl rfl rfl rfl rfl rfl) (Qc rfl Qk) (by simp [YH, D.scrub]) (by simp [YH, Box.scrub]) rfl
   ·exact hI.miss Wa Wc
   ·show s.length - (i + 1) < s.length - i; omega
 ·try rw [h1]
  try simp only [qB] at h1
  refine Q1 (QD (Qu (QE (ks3 Z Z Z (Qd fun K hK => mv2 Z Z (Qa Z (J8 Z Z Z Wa Wa Wa Z (Zi Z Z (JC Z Z (fun _ h => JG Z Z Z h) Z (by simp [YH]) Z Z Z Wh Wh ?_)))))))))
  refine Qa Z (kc1 hK Z ?_)
  refine Qn (YP Z ?_)
  rw [hI.done Wa]; simp [JD, D.fz, D.fzS, FN, lk, D.can, D.canS, YH]
open Go Go.Abs M3
theorem XO {s : List UInt8} : Ok Tryd.prog 58 [.str s] (.bool false) := by
 refine Ok.ofT ZS Tryd.func58 B7 (QaG Z) ?_
 show TW _ _ tf58.body _ _
 refine Qd fun K hK => Qa Z (kc1 hK Z ?_)
 refine Qd fun K hK => mv2 Z Z (M8 Z Z (Qa Z (kc1 hK Z ?_)))
 refine Qn (Qe Z ?_)
 simp
theorem ZX {a b : List UInt8} : Ok Tryd.prog 41 [.str a, .str b] (.int .i64 (YN a b)) := by
 refine Ok.ofT ZS Tryd.func41 BM (QaG Z) ?_
 show TW _ _ tf41.body _ _
 refine Qd fun K hK => Qa Z (kc2 hK Z Z ?_)
 refine Qd fun K hK => Qa Z (QB (XO) Z Z (.inr Z) (Qa Z (kc3 hK Z Z Z ?_)))
 refine Qd fun K hK => Qa Z (QB (XO) Z Z (.inr Z) (Qa Z (kc4 hK Z Z Z Z ?_)))
 refine Qz ?_ -- 0
 refine Qd fun K hK => Qa Z (kc4 hK Z Z Z Z ?_)
 refine Qr Z (fun h1 => ?_) (fun h1 => ?_)
 ·try rw [h1]
  try simp only [qB] at h1
  refine Qz ?_ -- 1
  refine Qd fun K hK => Qa Z (kc1 hK Z ?_)
  refine Qr Z (fun h2 => ?_) (fun h2 => ?_)
  ·try rw [h2]
   try simp only [qB] at h2
   refine Qd fun K hK => Qa Z (kc1 hK Z ?_)
   refine Qn (Qh (Qh (QG Z ?_)))
   (repeat clear hK K); simp_all [YN]
  ·try rw [h2]
   try simp only [qB] at h2
   refine Qp (QM (QZ) (Qd fun K hK => Qa Z (kc1 hK Z ?_)))
   refine Qn (Qh (QG Z ?_))
   (repeat clear hK K); simp_all [YN]
 ·try rw [h1]
  try simp only [qB] at h1
  refine Qp (ks3 Z Z Z ?_)
  refine Qz ?_ -- 2
  refine Qd fun K hK => Qa Z (kc3 hK Z Z Z ?_)
  refine Qr Z (fun h3 => ?_) (fun h3 => ?_)
  ·try rw [h3]
   try simp only [qB] at h3
   refine Qd fun K hK => Qa Z (kc1 hK Z ?_)
   refine Qn (Qh (QG Z ?_))
   (repeat clear hK K); simp_all [YN]
  ·try rw [h3]
   try simp only [qB] at h3
   refine Qp (ks2 Z Z ?_)
   refine Qz ?_ -- 3
   refine Qd fun K hK => mv2 Z Z (Ta Z Z (kc3 hK Z Z Z ?_))
   refine Qr Z (fun h4 => ?_) (fun h4 => ?_)
   ·try rw [h4]
    try simp only [qB] at h4
    refine Qd fun K hK => Qa Z (kc1 hK Z ?_)
    refine Qn (Qh (QG Z ?_))
    (repeat clear hK K); simp_all [YN]
   ·try rw [h4]
    try simp only [qB] at h4
    refine Qp (ks2 Z Z ?_)
    refine Qz ?_ -- 4
    refine Qd fun K hK => mv2 Z Z (Dx Z Z (kc1 hK Z ?_))
    refine Qr Z (fun h5 => ?_) (fun h5 => ?_)
    ·try rw [h5]
     try simp only [qB] at h5
     refine Qd fun K hK => Qa Z (kc1 hK Z ?_)
     refine Qn (Qh (QG Z ?_))
     (repeat clear hK K); simp_all [YN]
    ·try rw [h5]
     try simp only [qB] at h5
     refine Qp (QM (QZ) (Qd fun K hK => Qa Z (kc1 hK Z ?_)))
     refine Qn (QG Z ?_)
     (repeat clear hK K); simp_all [YN]
theorem Kw {a b : List UInt8} : Ok Tryd.prog 86 [.str a, .str b] (.int .i64 (YN a b)) := by
 refine Ok.ofT ZS Tryd.func86 Qaz (QaG Z) ?_
 show TW _ _ tf86.body _ _
 refine Qd fun K hK => Qa Z (kc2 hK Z Z ?_)
 refine Qz ?_ -- 0
 refine Qy (Qd fun K hK => mv2 Z Z (Ta Z Z (Qa Z (kc3 hK Z Z Z ?_))))
 refine Qr Z (fun h1 => ?_) (fun h1 => ?_)
 ·try rw [h1]
  try simp only [qB] at h1
  refine Qd fun K hK => Qa Z (kc1 hK Z ?_)
  refine Qn (Qi (Qh (QG Z ?_)))
  (repeat clear hK K); simp_all [YN]
 ·try rw [h1]
  try simp only [qB] at h1
  refine Qd fun K hK => mv2 Z Z (Dx Z Z (Qa Z (kc1 hK Z ?_)))
  refine Qr Z (fun h2 => ?_) (fun h2 => ?_)
  ·try rw [h2]
   try simp only [qB] at h2
   refine Qd fun K hK => Qa Z (kc1 hK Z ?_)
   refine Qn (Qi (Qh (QG Z ?_)))
   (repeat clear hK K); simp_all [YN]
  ·try rw [h2]
   try simp only [qB] at h2
   refine Qp (Qj (QM (QZ) (Qd fun K hK => Qa Z (kc1 hK Z ?_))))
   refine Qn (QG Z ?_)
   (repeat clear hK K); simp_all [YN]
theorem Kv {c : Int} : Ok Tryd.prog 89 [.int .u8 c] (.bool (Xc c)) := by
 refine Ok.ofT ZS Tryd.func89 QaC (QaG Z) ?_
 show TW _ _ tf89.body _ _
 refine Qd fun K hK => Qa Z (kc1 hK Z ?_)
 refine Qd fun K hK => Qa Z (Nk Z Z (Qa Z ?_))
 refine Qo (g := 5) Z (fun h1 => ?_) (fun h1 => ?_)
 ·try rw [h1]
  try simp only [qB] at h1
  refine Qb Z (Qa Z (Qb Z (T4 Z Z (Qf Z Z (Qa Z (kc1 hK Z ?_))))))
  refine Qn (Qe Z ?_)
  (repeat clear hK K); simp_all [Xc] <;> omega
 ·try rw [h1]
  try simp only [qB] at h1
  refine gn2 Z Z (Qf Z Z (Qa Z (kc1 hK Z ?_)))
  refine Qn (Qe Z ?_)
  (repeat clear hK K); simp_all [Xc] <;> omega
theorem Yd {s : List UInt8} (hl : s.length <= 1048576) : Ok Tryd.prog 84 [.str s] (.bool (Yv s)) := by
 refine Ok.ofT ZS Tryd.func84 Qax (QaG Z) ?_
 show TW _ _ tf84.body _ _
 refine Qd fun K hK => Qa Z (kc1 hK Z ?_)
 refine Qz ?_ -- 0
 refine Qd fun K hK => Qa Z (kc2 hK Z Z ?_)
 refine Qy ?_
 refine Zd (ι := Nat) (fun i => ⟨[(0, .str s), (3, .int .i64 i)], []⟩) (fun i => i <= s.length /\ (s.take i).all Z2 = true) (fun i => s.length - i) 0 ?_ ?_ ?_
 ·exact Q3 (kp2 rfl rfl)
 ·exact ⟨QaS _, rfl⟩
 intro i hI
 try dsimp only
 refine Qz ?_ -- 1
 refine Qd fun K hK => mv2 Z Z (ZJ Z (ZZ Z Z (kc3 hK Z Z Z ?_)))
 refine Qr Z (fun h1 => ?_) (fun h1 => ?_)
 ·try rw [h1]
  try simp only [qB] at h1
  refine Qp (ks2 Z Z ?_)
  refine Qz ?_ -- 2
  refine Qy (Qd fun K hK => mv2 Z Z (ZY Z Z Wa (JX Wa) (ZZ Z Z (Qa Z ?_))))
  refine Qo (g := 14) Z (fun h2 => ?_) (fun h2 => ?_)
  ·try rw [h2]
   try simp only [qB] at h2
   refine gn4 Z Z Z Z (Qf Z Z (kc3 hK Z Z Z ?_))
   refine QW Z (Qd fun K hK => Qa Z (kc1 hK Z ?_))
   refine Qn (Qi (Qh (QC (Qi (Qh (Qe Z ?_))))))
   exact (Ki (i := i) Wa Wj).symm
  ·try rw [h2]
   try simp only [qB] at h2
   refine Qb Z (Qa Z (Qb Z (Qa Z (Qb Z (ZY Z Z Wa (JX Wa) (Qb Z (Y9 Z Z (Qf Z Z (kc3 hK Z Z Z ?_)))))))))
   refine Qr Z (fun h3 => ?_) (fun h3 => ?_)
   ·try rw [h3]
    try simp only [qB] at h3
    refine Qd fun K hK => Qa Z (kc1 hK Z ?_)
    refine Qn (Qi (Qh (QC (Qi (Qh (Qe Z ?_))))))
    exact (Ki (i := i) Wa Wj).symm
   ·try rw [h3]
    try simp only [qB] at h3
    refine Qp (Qj (ks2 Z Z (QP fun K hK => Qa Z (Q9 Z Z Wb (Qa Z (hK _ ?_))))))
    refine Ql (i + 1) ?_ ?_ ?_
    ·exact Q3 (kp2 rfl rfl)
    ·exact ⟨Wa, Q4 Wa hI.2 Wj⟩
    ·first | omega | (simp only; omega) | (dsimp only; omega)
 ·try rw [h1]
  try simp only [qB] at h1
  refine Q1 (QD (Qu (QE (ks1 Z (Qd fun K hK => Qa Z (ZJ Z (Y9 Z Z (Qa Z (kc1 hK Z ?_)))))))))
  refine Qn (Qe Z ?_)
  rw [Fw (i := i) Wa hI.2]; cases s <;> simp
theorem _root_.Wg {p : Prop} (h : p := by simp [Zx]; omega) : p := h
theorem Hd {s : List UInt8} (hl : s.length <= 1048576) : Ok Tryd.prog 82 [.str s] (.bool (JJ s)) := by
 refine Ok.ofT ZS Tryd.func82 Qav (QaG Z) ?_
 show TW _ _ tf82.body _ _
 refine Qd fun K hK => Qa Z (kc1 hK Z ?_)
 refine Qz ?_ -- 0
 refine Qd fun K hK => Qa Z (ZJ Z (ZZ Z Z (Qa Z ?_)))
 refine Qo (g := 8) Z (fun h1 => ?_) (fun h1 => ?_)
 ·try rw [h1]
  try simp only [qB] at h1
  refine gn3 Z Z Z (Qf Z Z (kc2 hK Z Z ?_))
  refine QW Z (Qd fun K hK => Qa Z (kc1 hK Z ?_))
  refine Qn (Qh (Qe Z ?_))
  first | (have hz := Y1 (p := Zx) (s := s) (i := i) Wa hI.2; simp [JJ, hz]; omega) | (have hz := Yg (p := Zx) (s := s) (i := i) Wa Wg; simp [JJ, hz]; done) | (simp [JJ]; omega)
 ·try rw [h1]
  try simp only [qB] at h1
  refine Qb Z (Qa Z (Qb Z (ZJ Z (Qb Z (Y9 Z Z (Qf Z Z (kc2 hK Z Z ?_)))))))
  refine Qr Z (fun h2 => ?_) (fun h2 => ?_)
  ·try rw [h2]
   try simp only [qB] at h2
   refine Qd fun K hK => Qa Z (kc1 hK Z ?_)
   refine Qn (Qh (Qe Z ?_))
   first | (have hz := Y1 (p := Zx) (s := s) (i := i) Wa hI.2; simp [JJ, hz]; omega) | (have hz := Yg (p := Zx) (s := s) (i := i) Wa Wg; simp [JJ, hz]; done) | (simp [JJ]; omega)
  ·try rw [h2]
   try simp only [qB] at h2
   refine Qp (ks1 Z ?_)
   refine Qz ?_ -- 1
   refine Qd fun K hK => Qa Z (kc2 hK Z Z ?_)
   refine Qy ?_
   refine Zd (ι := Nat) (fun i => ⟨[(0, .str s), (3, .int .i64 i)], []⟩) (fun i => i <= s.length /\ (s.take i).all Zx = true) (fun i => s.length - i) 0 ?_ ?_ ?_
   ·exact Q3 (kp2 rfl rfl)
   ·exact ⟨QaS _, rfl⟩
   intro i hI
   try dsimp only
   refine Qz ?_ -- 2
   refine Qd fun K hK => mv2 Z Z (ZJ Z (ZZ Z Z (kc3 hK Z Z Z ?_)))
   refine Qr Z (fun h3 => ?_) (fun h3 => ?_)
   ·try rw [h3]
    try simp only [qB] at h3
    refine Qp (ks2 Z Z ?_)
    refine Qz ?_ -- 3
    refine Qy (Qd fun K hK => mv2 Z Z (ZY Z Z Wa (JX Wa) (Qa Z (kc3 hK Z Z Z ?_))))
    refine Qd fun K hK => Qa Z (ZZ Z Z (Qa Z ?_))
    refine Qo (g := 24) Z (fun h4 => ?_) (fun h4 => ?_)
    ·try rw [h4]
     try simp only [qB] at h4
     refine gn2 Z Z (Qf Z Z (Qa Z (Qb Z (Qa Z (Qb Z (ZZ Z Z (Qb Z (Qa Z ?_))))))))
     refine Qo (g := 31) Z (fun h5 => ?_) (fun h5 => ?_)
     ·try rw [h5]
      try simp only [qB] at h5
      refine gn2 Z Z (Qb Z (Qf Z Z (Qf Z Z (Qa Z (Qb Z (Qa Z (Qb Z (Z3 Z Z (Qf Z Z (kc3 hK Z Z Z ?_))))))))))
      refine Qr Z (fun h6 => ?_) (fun h6 => ?_)
      ·try rw [h6]
       try simp only [qB] at h6
       refine Qd fun K hK => Qa Z (kc1 hK Z ?_)
       refine Qn (Qi (Qh (QC (Qi (Qh (Qe Z ?_))))))
       first | (have hz := Y1 (p := Zx) (s := s) (i := i) Wa hI.2; simp [JJ, hz]; omega) | (have hz := Yg (p := Zx) (s := s) (i := i) Wa Wg; simp [JJ, hz]; done) | (simp [JJ]; omega)
      ·try rw [h6]
       try simp only [qB] at h6
       refine Qp (Qj (ks2 Z Z (QP fun K hK => Qa Z (Q9 Z Z Wb (Qa Z (hK _ ?_))))))
       refine Ql (i + 1) ?_ ?_ ?_
       ·exact Q3 (kp2 rfl rfl)
       ·exact ⟨Wa, Q4 Wa hI.2 Wg⟩
       ·first | omega | (simp only; omega) | (dsimp only; omega)
     ·try rw [h5]
      try simp only [qB] at h5
      refine Qb Z (Qa Z (Qb Z (Y9 Z Z (Qb Z (Qf Z Z (Qf Z Z (Qa Z ?_)))))))
      refine Qo (g := 36) Z (fun h7 => ?_) (fun h7 => ?_)
      ·try rw [h7]
       try simp only [qB] at h7
       refine Qb Z (Qa Z (Qb Z (Z3 Z Z (Qf Z Z (kc3 hK Z Z Z ?_)))))
       refine Qr Z (fun h8 => ?_) (fun h8 => ?_)
       ·try rw [h8]
        try simp only [qB] at h8
        refine Qd fun K hK => Qa Z (kc1 hK Z ?_)
        refine Qn (Qi (Qh (QC (Qi (Qh (Qe Z ?_))))))
        first | (have hz := Y1 (p := Zx) (s := s) (i := i) Wa hI.2; simp [JJ, hz]; omega) | (have hz := Yg (p := Zx) (s := s) (i := i) Wa Wg; simp [JJ, hz]; done) | (simp [JJ]; omega)
       ·try rw [h8]
        try simp only [qB] at h8
        refine Qp (Qj (ks2 Z Z (QP fun K hK => Qa Z (Q9 Z Z Wb (Qa Z (hK _ ?_))))))
        refine Ql (i + 1) ?_ ?_ ?_
        ·exact Q3 (kp2 rfl rfl)
        ·exact ⟨Wa, Q4 Wa hI.2 Wg⟩
        ·first | omega | (simp only; omega) | (dsimp only; omega)
      ·try rw [h7]
       try simp only [qB] at h7
       refine gn2 Z Z (Qf Z Z (kc3 hK Z Z Z ?_))
       refine Zo Z (Qp (Qj (ks2 Z Z (QP fun K hK => Qa Z (Q9 Z Z Wb (Qa Z (hK _ ?_)))))))
       refine Ql (i + 1) ?_ ?_ ?_
       ·exact Q3 (kp2 rfl rfl)
       ·exact ⟨Wa, Q4 Wa hI.2 Wg⟩
       ·first | omega | (simp only; omega) | (dsimp only; omega)
    ·try rw [h4]
     try simp only [qB] at h4
     refine Qb Z (Qa Z (Qb Z (Y9 Z Z (Qf Z Z (Qa Z ?_)))))
     refine Qo (g := 28) Z (fun h9 => ?_) (fun h9 => ?_)
     ·try rw [h9]
      try simp only [qB] at h9
      refine Qb Z (Qa Z (Qb Z (ZZ Z Z (Qb Z (Qa Z ?_)))))
      refine Qo (g := 31) Z (fun h10 => ?_) (fun h10 => ?_)
      ·try rw [h10]
       try simp only [qB] at h10
       refine gn2 Z Z (Qb Z (Qf Z Z (Qf Z Z (Qa Z (Qb Z (Qa Z (Qb Z (Z3 Z Z (Qf Z Z (kc3 hK Z Z Z ?_))))))))))
       refine Qr Z (fun h11 => ?_) (fun h11 => ?_)
       ·try rw [h11]
        try simp only [qB] at h11
        refine Qd fun K hK => Qa Z (kc1 hK Z ?_)
        refine Qn (Qi (Qh (QC (Qi (Qh (Qe Z ?_))))))
        first | (have hz := Y1 (p := Zx) (s := s) (i := i) Wa hI.2; simp [JJ, hz]; omega) | (have hz := Yg (p := Zx) (s := s) (i := i) Wa Wg; simp [JJ, hz]; done) | (simp [JJ]; omega)
       ·try rw [h11]
        try simp only [qB] at h11
        refine Qp (Qj (ks2 Z Z (QP fun K hK => Qa Z (Q9 Z Z Wb (Qa Z (hK _ ?_))))))
        refine Ql (i + 1) ?_ ?_ ?_
        ·exact Q3 (kp2 rfl rfl)
        ·exact ⟨Wa, Q4 Wa hI.2 Wg⟩
        ·first | omega | (simp only; omega) | (dsimp only; omega)
      ·try rw [h10]
       try simp only [qB] at h10
       refine Qb Z (Qa Z (Qb Z (Y9 Z Z (Qb Z (Qf Z Z (Qf Z Z (Qa Z ?_)))))))
       refine Qo (g := 36) Z (fun h12 => ?_) (fun h12 => ?_)
       ·try rw [h12]
        try simp only [qB] at h12
        refine Qb Z (Qa Z (Qb Z (Z3 Z Z (Qf Z Z (kc3 hK Z Z Z ?_)))))
        refine Qr Z (fun h13 => ?_) (fun h13 => ?_)
        ·try rw [h13]
         try simp only [qB] at h13
         refine Qd fun K hK => Qa Z (kc1 hK Z ?_)
         refine Qn (Qi (Qh (QC (Qi (Qh (Qe Z ?_))))))
         first | (have hz := Y1 (p := Zx) (s := s) (i := i) Wa hI.2; simp [JJ, hz]; omega) | (have hz := Yg (p := Zx) (s := s) (i := i) Wa Wg; simp [JJ, hz]; done) | (simp [JJ]; omega)
        ·try rw [h13]
         try simp only [qB] at h13
         refine Qp (Qj (ks2 Z Z (QP fun K hK => Qa Z (Q9 Z Z Wb (Qa Z (hK _ ?_))))))
         refine Ql (i + 1) ?_ ?_ ?_
         ·exact Q3 (kp2 rfl rfl)
         ·exact ⟨Wa, Q4 Wa hI.2 Wg⟩
         ·first | omega | (simp only; omega) | (dsimp only; omega)
       ·try rw [h12]
        try simp only [qB] at h12
        refine gn2 Z Z (Qf Z Z (kc3 hK Z Z Z ?_))
        refine Zo Z (Qp (Qj (ks2 Z Z (QP fun K hK => Qa Z (Q9 Z Z Wb (Qa Z (hK _ ?_)))))))
        refine Ql (i + 1) ?_ ?_ ?_
        ·exact Q3 (kp2 rfl rfl)
        ·exact ⟨Wa, Q4 Wa hI.2 Wg⟩
        ·first | omega | (simp only; omega) | (dsimp only; omega)
     ·try rw [h9]
      try simp only [qB] at h9
      refine gn3 Z Z Z (Qq Z (Qq Z (Y8 Z (Qf Z Z (Qa Z (gn2 Z Z (Qf Z Z (kc3 hK Z Z Z ?_))))))))
      refine Zo Z (Qp (Qj (ks2 Z Z (QP fun K hK => Qa Z (Q9 Z Z Wb (Qa Z (hK _ ?_)))))))
      refine Ql (i + 1) ?_ ?_ ?_
      ·exact Q3 (kp2 rfl rfl)
      ·exact ⟨Wa, Q4 Wa hI.2 Wg⟩
      ·first | omega | (simp only; omega) | (dsimp only; omega)
   ·try rw [h3]
    try simp only [qB] at h3
    refine Q1 (QD (Qu (QE (QM (QZ) (Qd fun K hK => Qa Z (kc1 hK Z ?_))))))
    refine Qn (Qe Z ?_)
    first | (have hz := Y1 (p := Zx) (s := s) (i := i) Wa hI.2; simp [JJ, hz]; omega) | (have hz := Yg (p := Zx) (s := s) (i := i) Wa Wg; simp [JJ, hz]; done) | (simp [JJ]; omega)
theorem KF {a b c : Int} {p q : List UInt8} : Ok Tryd.prog 45 [.agg [.int .i64 a, .int .i64 b, .int .i64 c, .str p, .str q]] (.agg [.int .i64 a, .int .i64 b, .int .i64 c, .str p, .str []]) := by
 refine Ok.ofT ZS Tryd.func45 BQ (QaG Z) ?_
 show TW _ _ tf45.body _ _
 refine Qd fun K hK => Zq Z Z Z (ZT Z (kc2 hK Z Z ?_))
 refine Qd fun K hK => Qg Z Z (ZG Z Z Z Z Z Z Z Z (kc2 hK Z Z ?_))
 refine Qd fun K hK => QA (cs := [_, _, _, _, _]) Z Z Z Z (ZG Z Z Z Z Z Z Z Z (kc1 hK Z ?_))
 refine Qn (HD (cs := [_, _, _, _, _]) Z Z Z Z ?_)
 exact rfl
theorem _root_.Wp {p : Prop} (h : p := by rw [GQ (by omega)]; simp; omega) : p := h
theorem Yi {s : List UInt8} (hl : s.length <= 1048576) : Ok Tryd.prog 83 [.str s] (.tup [.int .i64 (ZU s).1, .bool (ZU s).2]) := by
 refine Ok.ofT ZS Tryd.func83 Qaw (QaG Z) ?_
 show TW _ _ tf83.body _ _
 refine Qd fun K hK => mv2 Z Z (kc1 hK Z ?_)
 refine Gd (ι := Unit) (fun _u => ⟨[(0, .str s)], []⟩) (fun _u => ¬ (s.length < 1 \/ 9 < s.length \/ (1 < s.length /\ s.head? = some 48))) ?_ ?_
 ·skip
  refine Qd fun K hK => Qa Z (ZJ Z (ZZ Z Z (Qa Z ?_)))
  refine Qo (g := 9) Z (fun h1 => ?_) (fun h1 => ?_)
  ·try rw [h1]
   try simp only [qB, Xc, QaK, QaT] at h1
   refine gn3 Z Z Z (Qf Z Z (Qa Z (gn4 Z Z Z Z (Qq Z (Qq Z (Qq Z ?_))))))
   refine Y8 Z (Qf Z Z (kc2 hK Z Z ?_))
   refine QW Z (Qd fun K hK => mv2 Z Z (kc2 hK Z Z ?_))
   refine Qn (ZL (ZQ Z Z ?_))
   first | (rw [H6 (s := s) Wa]; exact ⟨rfl, rfl⟩) | (rw [Yf (s := s) Wa Wc]; exact ⟨rfl, rfl⟩) | (rw [YO (s := s) (i := i) Wa Wj]; exact ⟨rfl, rfl⟩) | (rw [H5 (s := s) (i := i) Wa Wa]; exact ⟨rfl, rfl⟩) | (rw [Fv (s := s) (i := i) hJ Wa hI.2.1 Wa]; exact ⟨rfl, rfl⟩)
  ·try rw [h1]
   try simp only [qB, Xc, QaK, QaT] at h1
   refine Qb Z (Qa Z (Qb Z (ZJ Z (Qb Z (Y9 Z Z (Qf Z Z (Qa Z ?_)))))))
   refine Qo (g := 14) Z (fun h2 => ?_) (fun h2 => ?_)
   ·try rw [h2]
    try simp only [qB, Xc, QaK, QaT] at h2
    refine gn4 Z Z Z Z (Qq Z (Qq Z (Qq Z (Y8 Z (Qf Z Z (kc2 hK Z Z ?_))))))
    refine QW Z (Qd fun K hK => mv2 Z Z (kc2 hK Z Z ?_))
    refine Qn (ZL (ZQ Z Z ?_))
    first | (rw [H6 (s := s) Wa]; exact ⟨rfl, rfl⟩) | (rw [Yf (s := s) Wa Wc]; exact ⟨rfl, rfl⟩) | (rw [YO (s := s) (i := i) Wa Wj]; exact ⟨rfl, rfl⟩) | (rw [H5 (s := s) (i := i) Wa Wa]; exact ⟨rfl, rfl⟩) | (rw [Fv (s := s) (i := i) hJ Wa hI.2.1 Wa]; exact ⟨rfl, rfl⟩)
   ·try rw [h2]
    try simp only [qB, Xc, QaK, QaT] at h2
    refine Qb Z (Qa Z (Qb Z (ZJ Z (Qb Z (Y9 Z Z (Qb Z (Qa Z ?_)))))))
    refine Qo (g := 18) Z (fun h3 => ?_) (fun h3 => ?_)
    ·try rw [h3]
     try simp only [qB, Xc, QaK, QaT] at h3
     refine Qb Z (Qa Z (Qb Z (ZY Z Z Wa (JX (i := 0) Wa) (Qb Z (Xy Z Z (Qb Z (Qf Z Z (Qf Z Z (kc2 hK Z Z ?_)))))))))
     refine Qr Z (fun h4 => ?_) (fun h4 => ?_)
     ·try rw [h4]
      try simp only [qB, Xc, QaK, QaT] at h4
      refine Qd fun K hK => mv2 Z Z (kc2 hK Z Z ?_)
      refine Qn (ZL (ZQ Z Z ?_))
      first | (rw [H6 (s := s) Wa]; exact ⟨rfl, rfl⟩) | (rw [Yf (s := s) Wa Wc]; exact ⟨rfl, rfl⟩) | (rw [YO (s := s) (i := i) Wa Wj]; exact ⟨rfl, rfl⟩) | (rw [H5 (s := s) (i := i) Wa Wa]; exact ⟨rfl, rfl⟩) | (rw [Fv (s := s) (i := i) hJ Wa hI.2.1 Wa]; exact ⟨rfl, rfl⟩)
     ·try rw [h4]
      try simp only [qB, Xc, QaK, QaT] at h4
      refine Qp ?_
      refine Zb () ?_ ?_
      ·exact Q3 (kp1 rfl)
      ·rintro (q | q | q) <;> first | omega | exact NE (s := s) Wa Wc q.2
    ·try rw [h3]
     try simp only [qB, Xc, QaK, QaT] at h3
     refine gn3 Z Z Z (Qb Z (Qf Z Z (Qf Z Z (kc2 hK Z Z ?_))))
     refine Zo Z (Qp ?_)
     refine Zb () ?_ ?_
     ·exact Q3 (kp1 rfl)
     ·rintro (q | q | q) <;> first | omega | exact NE (s := s) Wa Wc q.2
 intro _u hJ
 try dsimp only
 refine Qd fun K hK => Qa Z (kc2 hK Z Z ?_)
 refine Qz ?_ -- 1
 refine Qd fun K hK => Qa Z (kc3 hK Z Z Z ?_)
 refine Qy ?_
 refine Zd (ι := Nat) (fun i => ⟨[(0, .str s), (4, .int .i64 (val (s.take i))), (5, .int .i64 i)], []⟩) (fun i => i <= s.length /\ (s.take i).all Z2 = true /\ s.length <= 9) (fun i => s.length - i) 0 ?_ ?_ ?_
 ·first | exact Q3 (kp3 rfl rfl rfl) | exact QQ (l := [0, 4, 5]) (kp3 rfl rfl rfl) Qk Wp rfl rfl
 ·exact ⟨QaS _, rfl, Wa⟩
 intro i hI
 have hv := S0 (s := s.take i) hI.2.1
 have hp : 10 ^ (s.take i).length <= 10 ^ 9 := Nat.pow_le_pow_right Wa Wh
 try dsimp only
 refine Qz ?_ -- 2
 refine Qd fun K hK => mv2 Z Z (ZJ Z (ZZ Z Z (kc4 hK Z Z Z Z ?_)))
 refine Qr Z (fun h5 => ?_) (fun h5 => ?_)
 ·try rw [h5]
  try simp only [qB, Xc, QaK, QaT] at h5
  refine Qp (ks3 Z Z Z ?_)
  refine Qz ?_ -- 3
  refine Qy ?_
  refine Qz ?_ -- 4
  refine Qd fun K hK => mv2 Z Z (ZY Z Z Wa (JX Wa) (QB (Kv) Z Z (.inr Z) (Zm Z (kc4 hK Z Z Z Z ?_))))
  refine Qr Z (fun h6 => ?_) (fun h6 => ?_)
  ·try rw [h6]
   try simp only [qB, Xc, QaK, QaT] at h6
   refine Qd fun K hK => mv2 Z Z (kc2 hK Z Z ?_)
   refine Qn (Qh (Qi (Qh (QC (Qi (Qh (ZQ Z Z ?_)))))))
   first | (rw [H6 (s := s) Wa]; exact ⟨rfl, rfl⟩) | (rw [Yf (s := s) Wa Wc]; exact ⟨rfl, rfl⟩) | (rw [YO (s := s) (i := i) Wa Wj]; exact ⟨rfl, rfl⟩) | (rw [H5 (s := s) (i := i) Wa Wa]; exact ⟨rfl, rfl⟩) | (rw [Fv (s := s) (i := i) hJ Wa hI.2.1 Wa]; exact ⟨rfl, rfl⟩)
  ·try rw [h6]
   try simp only [qB, Xc, QaK, QaT] at h6
   refine Qp (ks3 Z Z Z (QP fun K hK => Qa Z (Lw Z Z Wb (mv2 Z Z (ZY Z Z Wa (JX Wa) (HV Z Z Wb (RJ Z Wb (Q9 Z Z Wb (Qa Z ?_)))))))))
   refine hK _ ?_
   refine Qj (ks3 Z Z Z (QP fun K hK => Qa Z (Q9 Z Z Wb (Qa Z (hK _ ?_)))))
   refine Ql (i + 1) ?_ ?_ ?_
   ·first | exact Q3 (kp3 rfl rfl rfl) | exact QQ (l := [0, 4, 5]) (kp3 rfl rfl rfl) Qk Wp rfl rfl
   ·exact ⟨Wa, Q4 Wa hI.2.1 Wj, hI.2.2⟩
   ·first | omega | (simp only; omega) | (dsimp only; omega)
 ·try rw [h5]
  try simp only [qB, Xc, QaK, QaT] at h5
  refine Q1 (QD (Qu (QE (ks1 Z ?_))))
  refine Qz ?_ -- 5
  refine Qd fun K hK => Qa Z (Y9 Z Z (kc2 hK Z Z ?_))
  refine Qr Z (fun h7 => ?_) (fun h7 => ?_)
  ·try rw [h7]
   try simp only [qB, Xc, QaK, QaT] at h7
   refine Qd fun K hK => mv2 Z Z (kc2 hK Z Z ?_)
   refine Qn (Qh (ZQ Z Z ?_))
   first | (rw [H6 (s := s) Wa]; exact ⟨rfl, rfl⟩) | (rw [Yf (s := s) Wa Wc]; exact ⟨rfl, rfl⟩) | (rw [YO (s := s) (i := i) Wa Wj]; exact ⟨rfl, rfl⟩) | (rw [H5 (s := s) (i := i) Wa Wa]; exact ⟨rfl, rfl⟩) | (rw [Fv (s := s) (i := i) hJ Wa hI.2.1 Wa]; exact ⟨rfl, rfl⟩)
  ·try rw [h7]
   try simp only [qB, Xc, QaK, QaT] at h7
   refine Qp (ks1 Z (Qd fun K hK => mv2 Z Z (Qa Z (kc2 hK Z Z ?_))))
   refine Qn (ZQ Z Z ?_)
   first | (rw [H6 (s := s) Wa]; exact ⟨rfl, rfl⟩) | (rw [Yf (s := s) Wa Wc]; exact ⟨rfl, rfl⟩) | (rw [YO (s := s) (i := i) Wa Wj]; exact ⟨rfl, rfl⟩) | (rw [H5 (s := s) (i := i) Wa Wa]; exact ⟨rfl, rfl⟩) | (rw [Fv (s := s) (i := i) hJ Wa hI.2.1 Wa]; exact ⟨rfl, rfl⟩)
open Go Go.Abs M3
theorem Hc {a b : List UInt8} (ha : a.length <= 1048576) (hb : b.length <= 1048576) : Ok Tryd.prog 75 [.str a, .str b] (.int .i64 (FU a b)) := by
 refine Ok.ofT ZS Tryd.func75 Qao (QaG Z) ?_
 show TW _ _ tf75.body _ _
 refine Qd fun K hK => Qa Z (kc2 hK Z Z ?_)
 refine Qd fun K hK => Qa Z (QB (Yd Wa) Z Z (.inr Z) (Qa Z (QB (Yd Wa) Z Z (.inr Z) (mv2 Z Z (kc4 hK Z Z Z Z ?_)))))
 refine Qz ?_ -- 0
 refine Qy (Qd fun K hK => mv2 Z Z ?_)
 refine Qo (g := 17) Z (fun h1 => ?_) (fun h1 => ?_)
 ·try rw [h1]
  try simp only [qB] at h1
  refine Qb Z (Qa Z (Qf Z Z (Qa Z (kc5 hK Z Z Z Z Z ?_))))
  refine Qr Z (fun h2 => ?_) (fun h2 => ?_)
  ·try rw [h2]
   try simp only [qB] at h2
   refine Qd fun K hK => Qa Z (QB (Yi Wa) Z Z (.inr Z) (Qa Z (Zc Z Z (Zc Z Z (mv2 Z Z (kc2 hK Z Z ?_))))))
   refine Qd fun K hK => Qa Z (QB (Yi Wa) Z Z (.inr Z) (Qa Z (Zc Z Z (Zc Z Z (mv2 Z Z (kc2 hK Z Z ?_))))))
   refine Qd fun K hK => mv2 Z Z (QB (Zj) Z Z (.inr Z) (Qa Z (kc1 hK Z ?_)))
   refine Qn (Qi (Qh (QG Z ?_)))
   simp [FU, h1, h2]
  ·try rw [h2]
   try simp only [qB] at h2
   refine Qd fun K hK => mv2 Z Z (kc4 hK Z Z Z Z ?_)
   refine QW Z (Qd fun K hK => Qa Z (kc1 hK Z ?_))
   refine Qn (Qi (Qh (QG Z ?_)))
   simp [FU, h1, h2]
 ·try rw [h1]
  try simp only [qB] at h1
  refine Y8 Z (Qf Z Z (Qa Z (kc5 hK Z Z Z Z Z ?_)))
  refine Zo Z (Qd fun K hK => mv2 Z Z (kc4 hK Z Z Z Z ?_))
  refine Zo Z (Qd fun K hK => mv2 Z Z (kc3 hK Z Z Z ?_))
  refine Qr Z (fun h3 => ?_) (fun h3 => ?_)
  ·try rw [h3]
   try simp only [qB] at h3
   refine Qd fun K hK => Qa Z (kc1 hK Z ?_)
   refine Qn (Qi (Qh (QG Z ?_)))
   simp [FU, h1, h3]
  ·try rw [h3]
   try simp only [qB] at h3
   refine Qp (Qj (ks2 Z Z (Qd fun K hK => mv2 Z Z (QB (Kw) Z Z (.inr Z) (Qa Z (kc1 hK Z ?_))))))
   refine Qn (QG Z ?_)
   simp [FU, h1, h3]
theorem KP {a b : List UInt8} (ha : a.length <= 1048576) (hb : b.length <= 1048576) : Ok Tryd.prog 65 [.str a, .str b] (.int .i64 (KW a b)) := by
 refine Ok.ofT ZS Tryd.func65 Qae (QaG Z) ?_
 show TW _ _ tf65.body _ _
 refine Qd fun K hK => Qa Z (kc2 hK Z Z ?_)
 refine Qz ?_ -- 0
 refine Qy (Qd fun K hK => mv2 Z Z (Jb Z Z (Qa Z (kc3 hK Z Z Z ?_))))
 refine Qr Z (fun h1 => ?_) (fun h1 => ?_)
 ·try rw [h1]
  try simp only [qB, Qm] at h1
  refine Qd fun K hK => Qa Z (kc1 hK Z ?_)
  refine Qn (Qi (Qh (QG Z ?_)))
  (repeat clear hK K); first | (simp_all [KW]; done) | (rw [hI.2.2, Z7 Wa Wa Wc]) | (rw [hI.2.2, Z6 Wa Wa Wa]; simp [Qm])
 ·try rw [h1]
  try simp only [qB, Qm] at h1
  refine Qd fun K hK => Qa Z (Jb Z Z (Qa Z (kc3 hK Z Z Z ?_)))
  refine Qr Z (fun h2 => ?_) (fun h2 => ?_)
  ·try rw [h2]
   try simp only [qB, Qm] at h2
   refine Qd fun K hK => Qa Z (kc1 hK Z ?_)
   refine Qn (Qi (Qh (QG Z ?_)))
   (repeat clear hK K); first | (simp_all [KW]; done) | (rw [hI.2.2, Z7 Wa Wa Wc]) | (rw [hI.2.2, Z6 Wa Wa Wa]; simp [Qm])
  ·try rw [h2]
   try simp only [qB, Qm] at h2
   refine Qd fun K hK => Qa Z (Jb Z Z (Qa Z (kc3 hK Z Z Z ?_)))
   refine Qr Z (fun h3 => ?_) (fun h3 => ?_)
   ·try rw [h3]
    try simp only [qB, Qm] at h3
    refine Qd fun K hK => Qa Z (kc1 hK Z ?_)
    refine Qn (Qi (Qh (QG Z ?_)))
    (repeat clear hK K); first | (simp_all [KW]; done) | (rw [hI.2.2, Z7 Wa Wa Wc]) | (rw [hI.2.2, Z6 Wa Wa Wa]; simp [Qm])
   ·try rw [h3]
    try simp only [qB, Qm] at h3
    refine Qp (Qj (ks2 Z Z (Qd fun K hK => Qa Z (QB (Yr Wa) Z Z (.inl Z) (Qa Z (QB (Yr Wa) Z Z (.inl Z) (mv2 Z Z (kc2 hK Z Z ?_))))))))
    refine Qz ?_ -- 1
    refine Qd fun K hK => Qa Z (kc3 hK Z Z Z ?_)
    refine Qy ?_
    refine Zd (ι := Nat) (fun i => ⟨[(5, .sl (YH (Q0 a 46))), (6, .sl (YH (Q0 b 46))), (7, .int .i64 i)], []⟩) (fun i => i <= (Q0 a 46).length /\ i <= (Q0 b 46).length /\ KW a b = P5 ((Q0 a 46).drop i) ((Q0 b 46).drop i)) (fun i => (Q0 a 46).length - i) 0 ?_ ?_ ?_
    ·exact Q3 (kp3 rfl rfl rfl)
    ·exact ⟨QaS _, QaS _, by simp_all [KW]⟩
    intro i hI
    have sl := HO (s := a) (c := 46)
    try dsimp only
    refine Qz ?_ -- 2
    refine Qd fun K hK => mv2 Z Z (QK Z Z (ZZ Z Z (Qa Z ?_)))
    refine Qo (g := 27) Z (fun h4 => ?_) (fun h4 => ?_)
    ·try rw [h4]
     try simp only [qB, Qm] at h4
     refine Qb Z (Qa Z (Qb Z (Qa Z (Qb Z (QK Z Z (Qb Z (ZZ Z Z (Qf Z Z (kc4 hK Z Z Z Z ?_)))))))))
     refine Qr Z (fun h5 => ?_) (fun h5 => ?_)
     ·try rw [h5]
      try simp only [qB, Qm] at h5
      refine Qp (ks3 Z Z Z ?_)
      refine Qz ?_ -- 3
      refine Qy (Qd fun K hK => mv2 Z Z (QH Z Z Z Wa (Xq Wa) Z (QL (ds0 := [1, 0]) Z Z Z Z Z (mv2 Z Z (QH Z Z Z Wa (Xq Wa) Z (QL (ds0 := [1, 0]) Z Z Z Z Z (Q2 (ds0 := [0]) (Hc (Xt Wa ha) (Xt Wa hb)) Z Z (.inr Z) Z Z (Qa Z ?_))))))))
      refine kc4 hK Z Z Z Z ?_
      refine Qd fun K hK => Qa Z (Z3 Z Z (kc5 hK Z Z Z Z Z ?_))
      refine Qr Z (fun h6 => ?_) (fun h6 => ?_)
      ·try rw [h6]
       try simp only [qB, Qm] at h6
       refine Qd fun K hK => mv2 Z Z (kc1 hK Z ?_)
       refine Qn (Qi (Qh (QC (Qi (Qh (QG Z ?_))))))
       (repeat clear hK K); first | (simp_all [KW]; done) | (rw [hI.2.2, Z7 Wa Wa Wc]) | (rw [hI.2.2, Z6 Wa Wa Wa]; simp [Qm])
      ·try rw [h6]
       try simp only [qB, Qm] at h6
       refine Qp (Qj (ks3 Z Z Z (QP fun K hK => Qa Z (Q9 Z Z Wb (Qa Z (hK _ ?_))))))
       refine Ql (i + 1) ?_ ?_ ?_
       ·exact Q3 (kp3 rfl rfl rfl)
       ·exact ⟨Wa, Wa, by rw [hI.2.2, MC Wa Wa Wc]⟩
       ·first | omega | (simp only; omega) | (dsimp only; omega)
     ·try rw [h5]
      try simp only [qB, Qm] at h5
      refine Q1 (QD (Qu (QE (ks2 Z Z (Qd fun K hK => Qa Z (QK Z Z (Qa Z (QK Z Z (QB (Zj) Z Z (.inr Z) (Qa Z ?_))))))))))
      refine kc1 hK Z ?_
      refine Qn (QG Z ?_)
      (repeat clear hK K); first | (simp_all [KW]; done) | (rw [hI.2.2, Z7 Wa Wa Wc]) | (rw [hI.2.2, Z6 Wa Wa Wa]; simp [Qm])
    ·try rw [h4]
     try simp only [qB, Qm] at h4
     refine gn4 Z Z Z Z (Qf Z Z (kc4 hK Z Z Z Z ?_))
     refine Zo Z (Q1 (QD (Qu (QE (ks2 Z Z (Qd fun K hK => Qa Z (QK Z Z (Qa Z (QK Z Z (QB (Zj) Z Z (.inr Z) ?_))))))))))
     refine Qa Z (kc1 hK Z ?_)
     refine Qn (QG Z ?_)
     (repeat clear hK K); first | (simp_all [KW]; done) | (rw [hI.2.2, Z7 Wa Wa Wc]) | (rw [hI.2.2, Z6 Wa Wa Wa]; simp [Qm])
theorem XA {s : List UInt8} {pre : Bool} (hl : s.length <= 1048576) : Ok Tryd.prog 72 [.str s, .bool pre] (.bool (X7 s pre)) := by
 refine Ok.ofT ZS Tryd.func72 Qal (QaG Z) ?_
 show TW _ _ tf72.body _ _
 refine Qd fun K hK => Qa Z (kc2 hK Z Z ?_)
 refine Qz ?_ -- 0
 refine Qd fun K hK => Qa Z (Jb Z Z (kc3 hK Z Z Z ?_))
 refine Qr Z (fun h1 => ?_) (fun h1 => ?_)
 ·try rw [h1]
  try simp only [qB, Qm] at h1
  refine Qd fun K hK => Qa Z (kc1 hK Z ?_)
  refine Qn (Qh (Qe Z ?_))
  (repeat clear hK K); first | (simp_all [X7]; done) | (simp [X7, h1]; omega) | exact (Hz (i := i) Wc Wa (by simp [KC, h1])).symm | exact (J1 (i := i) Wa Wa hI.2).symm
 ·try rw [h1]
  try simp only [qB, Qm] at h1
  refine Qp (ks2 Z Z (Qd fun K hK => Qa Z (QB (Yr Wa) Z Z (.inl Z) (Qa Z (kc2 hK Z Z ?_)))))
  refine Qz ?_ -- 1
  refine Qd fun K hK => Qa Z (QK Z Z (Y9 Z Z (kc3 hK Z Z Z ?_)))
  refine Qr Z (fun h2 => ?_) (fun h2 => ?_)
  ·try rw [h2]
   try simp only [qB, Qm] at h2
   refine Qd fun K hK => Qa Z (kc1 hK Z ?_)
   refine Qn (Qh (Qe Z ?_))
   (repeat clear hK K); first | (simp_all [X7]; done) | (simp [X7, h1, h2]; omega) | exact (Hz (i := i) Wc Wa (by simp [KC, h1, h2])).symm | exact (J1 (i := i) Wa Wa hI.2).symm
  ·try rw [h2]
   try simp only [qB, Qm] at h2
   refine Qp (ks2 Z Z ?_)
   refine Qz ?_ -- 2
   refine Qd fun K hK => Qa Z (kc3 hK Z Z Z ?_)
   refine Qy ?_
   refine Zd (ι := Nat) (fun i => ⟨[(1, .bool pre), (5, .sl (YH (Q0 s 46))), (6, .int .i64 i)], []⟩) (fun i => i <= (Q0 s 46).length /\ ((Q0 s 46).take i).all (KC pre) = true) (fun i => (Q0 s 46).length - i) 0 ?_ ?_ ?_
   ·first | exact Q3 (kp3 rfl rfl rfl) | exact QQ (l := [1, 5, 6]) (kp3 rfl rfl rfl) Qk (by simp [h1, h2]) rfl rfl
   ·exact ⟨QaS _, rfl⟩
   intro i hI
   try dsimp only
   refine Qz ?_ -- 3
   refine Qd fun K hK => mv2 Z Z (QK Z Z (ZZ Z Z (kc4 hK Z Z Z Z ?_)))
   refine Qr Z (fun h3 => ?_) (fun h3 => ?_)
   ·try rw [h3]
    try simp only [qB, Qm] at h3
    refine Qp (ks3 Z Z Z ?_)
    refine Qz ?_ -- 4
    refine Qy ?_
    refine Qz ?_ -- 5
    refine Qd fun K hK => mv2 Z Z (QH Z Z Z Wa (Xq Wa) Z (Qw Z Z Z (QB (Hd (Xt Wa hl)) Z Z (.inr Z) (Zm Z (kc4 hK Z Z Z Z ?_)))))
    refine Qr Z (fun h4 => ?_) (fun h4 => ?_)
    ·try rw [h4]
     try simp only [qB, Qm] at h4
     refine Qd fun K hK => Qa Z (kc1 hK Z ?_)
     refine Qn (Qh (Qi (Qh (QC (Qi (Qh (Qe Z ?_)))))))
     (repeat clear hK K); first | (simp_all [X7]; done) | (simp [X7, h1, h2, h3, h4]; omega) | exact (Hz (i := i) Wc Wa (by simp [KC, h1, h2, h3, h4])).symm | exact (J1 (i := i) Wa Wa hI.2).symm
    ·try rw [h4]
     try simp only [qB, Qm] at h4
     refine Qp (ks3 Z Z Z (Qd fun K hK => mv2 Z Z (QH Z Z Z Wa (Xq Wa) Z (Qw Z Z Z (QB (Yi (Xt Wa hl)) Z Z (.inr Z) (Qa Z (Zc Z Z (Zc Z Z (Qa Z ?_)))))))))
     refine Qa Z (kc4 hK Z Z Z Z ?_)
     refine Qd fun K hK => mv2 Z Z ?_
     refine Qo (g := 37) Z (fun h5 => ?_) (fun h5 => ?_)
     ·try rw [h5]
      try simp only [qB, Qm] at h5
      refine Qb Z (Qa Z (Qb Z (Qa Z (Qb Z (QH Z Z Z Wa (Xq Wa) Z (Qb Z (Qw Z Z Z (Qb Z (QB (Yd (Xt Wa hl)) Z Z (.inr Z) (Qf Z Z (Qa Z ?_)))))))))))
      refine Qo (g := 44) Z (fun h6 => ?_) (fun h6 => ?_)
      ·try rw [h6]
       try simp only [qB, Qm] at h6
       refine Qb Z (Qa Z (Qb Z (Zm Z (Qf Z Z (kc4 hK Z Z Z Z ?_)))))
       refine Qr Z (fun h7 => ?_) (fun h7 => ?_)
       ·try rw [h7]
        try simp only [qB, Qm] at h7
        refine Qd fun K hK => Qa Z (kc1 hK Z ?_)
        refine Qn (Qi (Qh (QC (Qi (Qh (Qe Z ?_))))))
        (repeat clear hK K); first | (simp_all [X7]; done) | (simp [X7, h1, h2, h3, h4, h5, h6, h7]; omega) | exact (Hz (i := i) Wc Wa (by simp [KC, h1, h2, h3, h4, h5, h6, h7])).symm | exact (J1 (i := i) Wa Wa hI.2).symm
       ·try rw [h7]
        try simp only [qB, Qm] at h7
        refine Qp (Qj (ks3 Z Z Z (QP fun K hK => Qa Z (Q9 Z Z Wb (Qa Z (hK _ ?_))))))
        refine Ql (i + 1) ?_ ?_ ?_
        ·first | exact Q3 (kp3 rfl rfl rfl) | exact QQ (l := [1, 5, 6]) (kp3 rfl rfl rfl) Qk (by simp [h1, h2, h3, h4, h5, h6, h7]) rfl rfl
        ·exact ⟨Wa, Q4 Wa hI.2 (by simp [KC, h1, h2, h3, h4, h5, h6, h7])⟩
        ·first | omega | (simp only; omega) | (dsimp only; omega)
      ·try rw [h6]
       try simp only [qB, Qm] at h6
       refine gn2 Z Z (Qf Z Z (kc4 hK Z Z Z Z ?_))
       refine Zo Z (Qp (Qj (ks3 Z Z Z (QP fun K hK => Qa Z (Q9 Z Z Wb (Qa Z (hK _ ?_)))))))
       refine Ql (i + 1) ?_ ?_ ?_
       ·first | exact Q3 (kp3 rfl rfl rfl) | exact QQ (l := [1, 5, 6]) (kp3 rfl rfl rfl) Qk (by simp [h1, h2, h3, h4, h5, h6]) rfl rfl
       ·exact ⟨Wa, Q4 Wa hI.2 (by simp [KC, h1, h2, h3, h4, h5, h6])⟩
       ·first | omega | (simp only; omega) | (dsimp only; omega)
     ·try rw [h5]
      try simp only [qB, Qm] at h5
      refine gn4 Z Z Z Z (Y8 Z (Qf Z Z (Qa Z (gn2 Z Z (Qf Z Z (kc4 hK Z Z Z Z ?_))))))
      refine Zo Z (Qp (Qj (ks3 Z Z Z (QP fun K hK => Qa Z (Q9 Z Z Wb (Qa Z (hK _ ?_)))))))
      refine Ql (i + 1) ?_ ?_ ?_
      ·first | exact Q3 (kp3 rfl rfl rfl) | exact QQ (l := [1, 5, 6]) (kp3 rfl rfl rfl) Qk (by simp [h1, h2, h3, h4, h5]) rfl rfl
      ·exact ⟨Wa, Q4 Wa hI.2 (by simp [KC, h1, h2, h3, h4, h5])⟩
      ·first | omega | (simp only; omega) | (dsimp only; omega)
   ·try rw [h3]
    try simp only [qB, Qm] at h3
    refine Q1 (QD (Qu (QE (QM (QZ) (Qd fun K hK => Qa Z (kc1 hK Z ?_))))))
    refine Qn (Qe Z ?_)
    (repeat clear hK K); first | (simp_all [X7]; done) | (simp [X7, h1, h2, h3]; omega) | exact (Hz (i := i) Wc Wa (by simp [KC, h1, h2, h3])).symm | exact (J1 (i := i) Wa Wa hI.2).symm
theorem Zu {a b c : Int} {p q : List UInt8} (hp : p.length <= 1048576) (hq : q.length <= 1048576) : Ok Tryd.prog 56 [.agg [.int .i64 a, .int .i64 b, .int .i64 c, .str p, .str q]] (.bool (JZ a b c p q)) := by
 refine Ok.ofT ZS Tryd.func56 B5 (QaG Z) ?_
 show TW _ _ tf56.body _ _
 refine Qd fun K hK => Zq Z Z Z (Qa Z (kc1 hK Z ?_))
 refine Qd fun K hK => Qg Z Z (Qw Z Z Z (QB (YI) Z Z (.inr Z) (Qa Z ?_)))
 refine Qo (g := 6) Z (fun h1 => ?_) (fun h1 => ?_)
 ·try rw [h1]
  try simp only [qB] at h1
  refine Qb Z (Qg Z Z (Qb Z (Qw Z Z Z (Qb Z (QB (YI) Z Z (.inr Z) (Qf Z Z (Qa Z ?_)))))))
  refine Qo (g := 11) Z (fun h2 => ?_) (fun h2 => ?_)
  ·try rw [h2]
   try simp only [qB] at h2
   refine Qb Z (Qg Z Z (Qb Z (Qw Z Z Z (Qb Z (QB (YI) Z Z (.inr Z) (Qf Z Z (Qa Z ?_)))))))
   refine Qo (g := 16) Z (fun h3 => ?_) (fun h3 => ?_)
   ·try rw [h3]
    try simp only [qB] at h3
    refine Qb Z (Qg Z Z (Qb Z (Qw Z Z Z (Qb Z (QB (XA Wa) Z Z (.inr Z) (Qf Z Z (Qa Z ?_)))))))
    refine Qo (g := 21) Z (fun h4 => ?_) (fun h4 => ?_)
    ·try rw [h4]
     try simp only [qB] at h4
     refine Qb Z (Qg Z Z (Qb Z (Qw Z Z Z (Qb Z (QB (XA Wa) Z Z (.inr Z) (Qf Z Z (Qa Z (kc1 hK Z ?_))))))))
     refine Qn (Qe Z ?_)
     simp [JZ, h1, h2, h3, h4]
    ·try rw [h4]
     try simp only [qB] at h4
     refine gn3 Z Z Z (Qf Z Z (Qa Z (kc1 hK Z ?_)))
     refine Qn (Qe Z ?_)
     simp [JZ, h1, h2, h3, h4]
   ·try rw [h3]
    try simp only [qB] at h3
    refine gn3 Z Z Z (Qf Z Z (Qa Z (gn3 Z Z Z (Qf Z Z (Qa Z (kc1 hK Z ?_))))))
    refine Qn (Qe Z ?_)
    simp [JZ, h1, h2, h3]
  ·try rw [h2]
   try simp only [qB] at h2
   refine gn3 Z Z Z (Qf Z Z (Qa Z (gn3 Z Z Z (Qf Z Z (Qa Z (gn2 Z Z ?_))))))
   refine Y8 Z (Qf Z Z (Qa Z (kc1 hK Z ?_)))
   refine Qn (Qe Z ?_)
   simp [JZ, h1, h2]
 ·try rw [h1]
  try simp only [qB] at h1
  refine gn3 Z Z Z (Qf Z Z (Qa Z (gn3 Z Z Z (Qf Z Z (Qa Z (gn2 Z Z ?_))))))
  refine Y8 Z (Qf Z Z (Qa Z (gn3 Z Z Z (Qf Z Z (Qa Z (kc1 hK Z ?_))))))
  refine Qn (Qe Z ?_)
  simp [JZ, h1]
theorem Gf {l : List Int} (hl : l.length <= 1048576) : Ok Tryd.prog 40 [Zn l] (.int .i64 (ZK l)) := by
 refine Ok.ofT ZS Tryd.func40 BL (QaG Z) ?_
 show TW _ _ tf40.body _ _
 refine Qd fun K hK => Qa Z (kc1 hK Z ?_)
 refine Qd fun K hK => Qa Z (kc2 hK Z Z ?_)
 refine Qz ?_ -- 0
 refine Qd fun K hK => Qa Z (QK Z Z (Qa Z (kc4 hK Z Z Z Z ?_)))
 refine Qy ?_
 refine Zd (ι := Nat) (fun i => ⟨[(3, .int .i64 0), (6, Zn l), (7, .int .i64 l.length), (8, .int .i64 i)], []⟩) (fun i => i <= l.length /\ ZK l = ZK (l.drop i)) (fun i => l.length - i) 0 ?_ ?_ ?_
 ·exact QQ (l := [3, 6, 7, 8]) (kp4 rfl rfl rfl rfl) Qk (by simp [Zn]) rfl rfl
 ·exact ⟨QaS _, rfl⟩
 intro i hI
 try dsimp only
 refine Qd fun K hK => ZZ Z Z (kc5 hK Z Z Z Z Z ?_)
 refine Qz ?_ -- 1
 refine Qr Z (fun h1 => ?_) (fun h1 => ?_)
 ·try rw [h1]
  try simp only [qB] at h1
  refine Qp (ks4 Z Z Z Z ?_)
  refine Qz ?_ -- 2
  refine Qy (Qd fun K hK => QH Z Z Z Wa (QX Wa) Z (Qw Z Z Z (Qa Z (kc5 hK Z Z Z Z Z ?_))))
  refine Qd fun K hK => mv2 Z Z (Z3 Z Z (kc6 hK Z Z Z Z Z Z ?_))
  refine Qr Z (fun h2 => ?_) (fun h2 => ?_)
  ·try rw [h2]
   try simp only [qB] at h2
   refine Qd fun K hK => mv2 Z Z (kc1 hK Z ?_)
   refine Qn (Qi (Qh (QC (Qi (Qh (QG Z ?_))))))
   first | (rw [hI.2, G9 Wa Wc]) | (rw [hI.2, Qa1 Wa]; rfl)
  ·try rw [h2]
   try simp only [qB] at h2
   refine Qp (Qj (ks4 Z Z Z Z (QP fun K hK => Q9 Z Z Wb (Qa Z (hK _ ?_)))))
   refine Ql (i + 1) ?_ ?_ ?_
   ·exact Q3 (kp4 rfl rfl rfl rfl)
   ·exact ⟨Wa, by rw [hI.2, Mt Wa Wc]⟩
   ·first | omega | (simp only; omega) | (dsimp only; omega)
 ·try rw [h1]
  try simp only [qB] at h1
  refine Q1 (QD (Qu (QE (ks1 Z (Qd fun K hK => mv2 Z Z (kc1 hK Z ?_))))))
  refine Qn (QG Z ?_)
  first | (rw [hI.2, G9 Wa Wc]) | (rw [hI.2, Qa1 Wa]; rfl)
open Go Go.Abs M3
theorem Yb {a b c : Int} {p q : List UInt8} (hp : p.length <= 1048576) (hq : q.length <= 1048576) {a' b' c' : Int} {p' q' : List UInt8} (hp' : p'.length <= 1048576) (hq' : q'.length <= 1048576) : Ok Tryd.prog 52 [.agg [.int .i64 a, .int .i64 b, .int .i64 c, .str p, .str q], .agg [.int .i64 a', .int .i64 b', .int .i64 c', .str p', .str q']] (.int .i64 (KI a b c p q a' b' c' p' q')) := by
 refine Ok.ofT ZS Tryd.func52 BX (QaG Z) ?_
 show TW _ _ tf52.body _ _
 refine Qd fun K hK => Zq Z Z Z (Zq Z Z Z (Qa Z (kc2 hK Z Z ?_)))
 refine Qz ?_ -- 0
 refine Qd fun K hK => QA (cs := [_, _, _, _, _]) Z Z Z Z (QB (Zu Wa Wa) Z Z (.inr Z) (Zm Z (Qa Z ?_)))
 refine Qo (g := 11) Z (fun h1 => ?_) (fun h1 => ?_)
 ·try rw [h1]
  try simp only [qB] at h1
  refine gn3 Z Z Z (Qf Z Z (kc3 hK Z Z Z ?_))
  refine QW Z (Qd fun K hK => Qa Z (kc1 hK Z ?_))
  refine Qn (Qh (QG Z ?_))
  simp [KI, h1]
 ·try rw [h1]
  try simp only [qB] at h1
  refine Qb Z (QA (cs := [_, _, _, _, _]) Z Z Z Z (Qb Z (QB (Zu Wa Wa) Z Z (.inr Z) (Qb Z (Zm Z (Qf Z Z (kc3 hK Z Z Z ?_)))))))
  refine Qr Z (fun h2 => ?_) (fun h2 => ?_)
  ·try rw [h2]
   try simp only [qB] at h2
   refine Qd fun K hK => Qa Z (kc1 hK Z ?_)
   refine Qn (Qh (QG Z ?_))
   simp [KI, h1, h2]
  ·try rw [h2]
   try simp only [qB] at h2
   refine Qp (ks2 Z Z ?_)
   refine Qz ?_ -- 1
   refine Qd fun K hK => Qg Z Z (Qw Z Z Z (Qg Z Z (Qw Z Z Z (QB (Zj) Z Z (.inr Z) (Qa Z (kc3 hK Z Z Z ?_))))))
   refine Qd fun K hK => Qa Z (Z3 Z Z (kc4 hK Z Z Z Z ?_))
   refine Qr Z (fun h3 => ?_) (fun h3 => ?_)
   ·try rw [h3]
    try simp only [qB] at h3
    refine Qd fun K hK => mv2 Z Z (kc1 hK Z ?_)
    refine Qn (Qh (QG Z ?_))
    simp [KI, h1, h2, h3]
   ·try rw [h3]
    try simp only [qB] at h3
    refine Qp (ks2 Z Z ?_)
    refine Qz ?_ -- 2
    refine Qd fun K hK => Qg Z Z (Qw Z Z Z (Qg Z Z (Qw Z Z Z (QB (Zj) Z Z (.inr Z) (Qa Z (kc3 hK Z Z Z ?_))))))
    refine Qd fun K hK => Qa Z (Z3 Z Z (kc4 hK Z Z Z Z ?_))
    refine Qr Z (fun h4 => ?_) (fun h4 => ?_)
    ·try rw [h4]
     try simp only [qB] at h4
     refine Qd fun K hK => mv2 Z Z (kc1 hK Z ?_)
     refine Qn (Qh (QG Z ?_))
     simp [KI, h1, h2, h3, h4]
    ·try rw [h4]
     try simp only [qB] at h4
     refine Qp (ks2 Z Z ?_)
     refine Qz ?_ -- 3
     refine Qd fun K hK => Qg Z Z (Qw Z Z Z (Qg Z Z (Qw Z Z Z (QB (Zj) Z Z (.inr Z) (Qa Z (kc3 hK Z Z Z ?_))))))
     refine Qd fun K hK => Qa Z (Z3 Z Z (kc4 hK Z Z Z Z ?_))
     refine Qr Z (fun h5 => ?_) (fun h5 => ?_)
     ·try rw [h5]
      try simp only [qB] at h5
      refine Qd fun K hK => mv2 Z Z (kc1 hK Z ?_)
      refine Qn (Qh (QG Z ?_))
      simp [KI, h1, h2, h3, h4, h5]
     ·try rw [h5]
      try simp only [qB] at h5
      refine Qp (ks2 Z Z (Qd fun K hK => Qg Z Z (Qw Z Z Z (Qg Z Z (Qw Z Z Z (QB (KP Wa Wa) Z Z (.inr Z) (Qa Z (kc1 hK Z ?_))))))))
      refine Qn (QG Z ?_)
      simp [KI, h1, h2, h3, h4, h5]
theorem ZP {e a b c : Int} {p q : List UInt8} {f : Bool} (hp : p.length <= 1048576) (hq : q.length <= 1048576) : Ok Tryd.prog 88 [.agg [.int .i64 e, .int .i64 a, .int .i64 b, .int .i64 c, .str p, .str q, .bool f]] (.bool (Ys e a b c p q f)) := by
 refine Ok.ofT ZS Tryd.func88 QaB (QaG Z) ?_
 show TW _ _ tf88.body _ _
 refine Qd fun K hK => Zq Z Z Z (Qa Z (kc1 hK Z ?_))
 refine Qz ?_ -- 0
 refine Qd fun K hK => Qg Z Z (Qw Z Z Z (Xy Z Z (kc2 hK Z Z ?_)))
 refine Qr Z (fun h1 => ?_) (fun h1 => ?_)
 ·try rw [h1]
  try simp only [qB] at h1
  refine Qd fun K hK => Qg Z Z (QA (cs := [_, _, _, _, _]) Z Z Z Z (QB (Zu Wa Wa) Z Z (.inr Z) (Qa Z ?_)))
  refine Qo (g := 9) Z (fun h2 => ?_) (fun h2 => ?_)
  ·try rw [h2]
   try simp only [qB] at h2
   refine Qb Z (Qg Z Z (Qb Z (Qg Z Z (Qb Z (Qw Z Z Z (Qb Z (Jb Z Z (Qf Z Z (Qa Z (kc1 hK Z ?_))))))))))
   refine Qn (Qh (Qe Z ?_))
   (repeat clear hK K); simp_all [Ys]
  ·try rw [h2]
   try simp only [qB] at h2
   refine gn4 Z Z Z Z (Qf Z Z (Qa Z (kc1 hK Z ?_)))
   refine Qn (Qh (Qe Z ?_))
   (repeat clear hK K); simp_all [Ys]
 ·try rw [h1]
  try simp only [qB] at h1
  refine Qp (ks1 Z (Qd fun K hK => Qg Z Z (Qw Z Z Z (Xy Z Z (Qa Z ?_)))))
  refine Qo (g := 18) Z (fun h3 => ?_) (fun h3 => ?_)
  ·try rw [h3]
   try simp only [qB] at h3
   refine gn3 Z Z Z (Qf Z Z (Qa Z (Qb Z (Qg Z Z (Qb Z (QA (cs := [_, _, _, _, _]) Z Z Z Z (Qb Z (Zy Z Z (Qb Z ?_)))))))))
   refine FZ Z Z Z (Qf Z Z (Qa Z ?_))
   refine Qo (g := 29) Z (fun h4 => ?_) (fun h4 => ?_)
   ·try rw [h4]
    try simp only [qB] at h4
    refine Qb Z (Qg Z Z (Qb Z (Qw Z Z Z (Qb Z (Zm Z (Qf Z Z (Qa Z (kc1 hK Z ?_))))))))
    refine Qn (Qe Z ?_)
    (repeat clear hK K); simp_all [Ys]
   ·try rw [h4]
    try simp only [qB] at h4
    refine gn3 Z Z Z (Qf Z Z (Qa Z (kc1 hK Z ?_)))
    refine Qn (Qe Z ?_)
    (repeat clear hK K); simp_all [Ys]
  ·try rw [h3]
   try simp only [qB] at h3
   refine Qb Z (Qg Z Z (Qb Z (Qw Z Z Z (Qb Z (Xy Z Z (Qf Z Z (Qa Z ?_)))))))
   refine Qo (g := 23) Z (fun h5 => ?_) (fun h5 => ?_)
   ·try rw [h5]
    try simp only [qB] at h5
    refine Qb Z (Qg Z Z (Qb Z (QA (cs := [_, _, _, _, _]) Z Z Z Z (Qb Z (Zy Z Z (Qb Z (FZ Z Z Z (Qf Z Z (Qa Z ?_)))))))))
    refine Qo (g := 29) Z (fun h6 => ?_) (fun h6 => ?_)
    ·try rw [h6]
     try simp only [qB] at h6
     refine Qb Z (Qg Z Z (Qb Z (Qw Z Z Z (Qb Z (Zm Z (Qf Z Z (Qa Z (kc1 hK Z ?_))))))))
     refine Qn (Qe Z ?_)
     (repeat clear hK K); simp_all [Ys]
    ·try rw [h6]
     try simp only [qB] at h6
     refine gn3 Z Z Z (Qf Z Z (Qa Z (kc1 hK Z ?_)))
     refine Qn (Qe Z ?_)
     (repeat clear hK K); simp_all [Ys]
   ·try rw [h5]
    try simp only [qB] at h5
    refine gn4 Z Z Z Z (Qf Z Z (Qa Z (gn3 Z Z Z (Qf Z Z (Qa Z (kc1 hK Z ?_))))))
    refine Qn (Qe Z ?_)
    (repeat clear hK K); simp_all [Ys]
theorem YY {e a b c : Int} {p q : List UInt8} {f : Bool} (hp : p.length <= 1048576) (hq : q.length <= 1048576) {e' a' b' c' : Int} {p' q' : List UInt8} {f' : Bool} (hp' : p'.length <= 1048576) (hq' : q'.length <= 1048576) : Ok Tryd.prog 80 [.agg [.int .i64 e, .int .i64 a, .int .i64 b, .int .i64 c, .str p, .str q, .bool f], .agg [.int .i64 e', .int .i64 a', .int .i64 b', .int .i64 c', .str p', .str q', .bool f']] (.int .i64 (Z9 e a b c p q f e' a' b' c' p' q' f')) := by
 refine Ok.ofT ZS Tryd.func80 Qat (QaG Z) ?_
 show TW _ _ tf80.body _ _
 refine Qd fun K hK => Zq Z Z Z (Zq Z Z Z (Qa Z (kc2 hK Z Z ?_)))
 refine Qz ?_ -- 0
 refine Qd fun K hK => QA (cs := [_, _, _, _, _, _, _]) Z Z Z Z (QB (ZP Wa Wa) Z Z (.inr Z) (Zm Z (Qa Z ?_)))
 refine Qo (g := 9) Z (fun h1 => ?_) (fun h1 => ?_)
 ·try rw [h1]
  try simp only [qB] at h1
  refine gn3 Z Z Z (Qf Z Z (kc3 hK Z Z Z ?_))
  refine QW Z (Qd fun K hK => Qa Z (kc1 hK Z ?_))
  refine Qn (Qh (QG Z ?_))
  (repeat clear hK K); first | (simp [Z9, h1]; done) | (simp_all [Z9]; done)
 ·try rw [h1]
  try simp only [qB] at h1
  refine Qb Z (QA (cs := [_, _, _, _, _, _, _]) Z Z Z Z (Qb Z (QB (ZP Wa Wa) Z Z (.inr Z) (Qb Z (Zm Z (Qf Z Z (kc3 hK Z Z Z ?_)))))))
  refine Qr Z (fun h2 => ?_) (fun h2 => ?_)
  ·try rw [h2]
   try simp only [qB] at h2
   refine Qd fun K hK => Qa Z (kc1 hK Z ?_)
   refine Qn (Qh (QG Z ?_))
   (repeat clear hK K); first | (simp [Z9, h1, h2]; done) | (simp_all [Z9]; done)
  ·try rw [h2]
   try simp only [qB] at h2
   refine Qp (ks2 Z Z ?_)
   refine Qz ?_ -- 1
   refine Qd fun K hK => Qg Z Z (Qw Z Z Z (Qg Z Z (Qw Z Z Z ?_)))
   first | refine Z3 rfl rfl ?_ | refine M8 rfl rfl ?_
   refine Qa Z ?_
   refine Qo (g := 19) Z (fun h3 => ?_) (fun h3 => ?_)
   ·try rw [h3]
    try simp only [qB] at h3
    refine gn3 Z Z Z (Qf Z Z (kc3 hK Z Z Z ?_))
    refine QW Z (Qd fun K hK => Qg Z Z (Qw Z Z Z (Qg Z Z (Qw Z Z Z (QB (Zj) Z Z (.inr Z) (Qa Z (kc1 hK Z ?_)))))))
    refine Qn (Qh (QG Z ?_))
    (repeat clear hK K); first | (simp [Z9, h1, h2, h3]; done) | (simp_all [Z9]; done)
   ·try rw [h3]
    try simp only [qB] at h3
    refine Qb Z (Qg Z Z (Qb Z (Qw Z Z Z (Qb Z (Z3 Z Z (Qf Z Z (kc3 hK Z Z Z ?_)))))))
    refine Qr Z (fun h4 => ?_) (fun h4 => ?_)
    ·try rw [h4]
     try simp only [qB] at h4
     refine Qd fun K hK => Qg Z Z (Qw Z Z Z (Qg Z Z (Qw Z Z Z (QB (Zj) Z Z (.inr Z) (Qa Z (kc1 hK Z ?_))))))
     refine Qn (Qh (QG Z ?_))
     (repeat clear hK K); first | (simp [Z9, h1, h2, h3, h4]; done) | (simp_all [Z9]; done)
    ·try rw [h4]
     try simp only [qB] at h4
     refine Qp (ks2 Z Z ?_)
     refine Qz ?_ -- 2
     refine Qd fun K hK => Qg Z Z (QA (cs := [_, _, _, _, _]) Z Z Z Z (Qg Z Z (QA (cs := [_, _, _, _, _]) Z Z Z Z (QB (Yb Wa Wa Wa Wa) Z Z (.inr Z) (Qa Z (kc3 hK Z Z Z ?_))))))
     refine Qd fun K hK => Qa Z (Z3 Z Z (kc4 hK Z Z Z Z ?_))
     refine Qr Z (fun h5 => ?_) (fun h5 => ?_)
     ·try rw [h5]
      try simp only [qB] at h5
      refine Qd fun K hK => mv2 Z Z (kc1 hK Z ?_)
      refine Qn (Qh (QG Z ?_))
      (repeat clear hK K); first | (simp [Z9, h1, h2, h3, h4, h5]; done) | (simp_all [Z9]; done)
     ·try rw [h5]
      try simp only [qB] at h5
      refine Qp (ks2 Z Z ?_)
      refine Qz ?_ -- 3
      refine Qy (Qd fun K hK => Qg Z Z (Qw Z Z Z (Qg Z Z (Qw Z Z Z (S9 Z Z (Qa Z (kc2 hK Z Z ?_)))))))
      refine Qr Z (fun h6 => ?_) (fun h6 => ?_)
      ·try rw [h6]
       try simp only [qB] at h6
       refine Qd fun K hK => Qa Z (kc1 hK Z ?_)
       refine Qn (Qi (Qh (QG Z ?_)))
       (repeat clear hK K); first | (simp [Z9, h1, h2, h3, h4, h5, h6]; done) | (simp_all [Z9]; done)
      ·try rw [h6]
       try simp only [qB] at h6
       refine Qd fun K hK => Qg Z Z (Qw Z Z Z (Qa Z (kc1 hK Z ?_)))
       refine Qr Z (fun h7 => ?_) (fun h7 => ?_)
       ·try rw [h7]
        try simp only [qB] at h7
        refine Qd fun K hK => Qa Z (kc1 hK Z ?_)
        refine Qn (Qi (Qh (QG Z ?_)))
        (repeat clear hK K); first | (simp [Z9, h1, h2, h3, h4, h5, h6, h7]; done) | (simp_all [Z9]; done)
       ·try rw [h7]
        try simp only [qB] at h7
        refine Qp (Qj (QM (QZ) (Qd fun K hK => Qa Z (kc1 hK Z ?_))))
        refine Qn (QG Z ?_)
        (repeat clear hK K); first | (simp [Z9, h1, h2, h3, h4, h5, h6, h7]; done) | (simp_all [Z9]; done)
theorem Xg {e a b c : Int} {p q : List UInt8} {f : Bool} (hp : p.length <= 1048576) (hq : q.length <= 1048576) {a' b' c' : Int} {p' q' : List UInt8} (hp' : p'.length <= 1048576) (hq' : q'.length <= 1048576) : Ok Tryd.prog 85 [.agg [.int .i64 e, .int .i64 a, .int .i64 b, .int .i64 c, .str p, .str q, .bool f], .agg [.int .i64 a', .int .i64 b', .int .i64 c', .str p', .str q']] (.bool (ZV e a b c p q f a' b' c' p' q')) := by
 refine Ok.ofT ZS Tryd.func85 Qay (QaG Z) ?_
 show TW _ _ tf85.body _ _
 refine Qd fun K hK => Zq Z Z Z (Zq Z Z Z (Qa Z (kc2 hK Z Z ?_)))
 refine Qz ?_ -- 0
 refine Qd fun K hK => QA (cs := [_, _, _, _, _, _, _]) Z Z Z Z (QB (ZP Wa Wa) Z Z (.inr Z) (Zm Z (Qa Z ?_)))
 refine Qo (g := 9) Z (fun h1 => ?_) (fun h1 => ?_)
 ·try rw [h1]
  try simp only [qB] at h1
  refine gn3 Z Z Z (Qf Z Z (kc3 hK Z Z Z ?_))
  refine QW Z (Qd fun K hK => Qa Z (kc1 hK Z ?_))
  refine Qn (Qh (Qe Z ?_))
  (repeat clear hK K); first | (simp [ZV, h1]; done) | (simp_all [ZV]; done)
 ·try rw [h1]
  try simp only [qB] at h1
  refine Qb Z (QA (cs := [_, _, _, _, _]) Z Z Z Z (Qb Z (QB (Zu Wa Wa) Z Z (.inr Z) (Qb Z (Zm Z (Qf Z Z (kc3 hK Z Z Z ?_)))))))
  refine Qr Z (fun h2 => ?_) (fun h2 => ?_)
  ·try rw [h2]
   try simp only [qB] at h2
   refine Qd fun K hK => Qa Z (kc1 hK Z ?_)
   refine Qn (Qh (Qe Z ?_))
   (repeat clear hK K); first | (simp [ZV, h1, h2]; done) | (simp_all [ZV]; done)
  ·try rw [h2]
   try simp only [qB] at h2
   refine Qp (ks2 Z Z ?_)
   refine Qz ?_ -- 1
   refine Qd fun K hK => Qg Z Z (Qw Z Z Z (Z3 Z Z (kc3 hK Z Z Z ?_)))
   refine Qr Z (fun h3 => ?_) (fun h3 => ?_)
   ·try rw [h3]
    try simp only [qB] at h3
    refine Qd fun K hK => Qg Z Z (Qw Z Z Z (ZZ Z Z (Qa Z (kc1 hK Z ?_))))
    refine Qn (Qh (Qe Z ?_))
    (repeat clear hK K); first | (simp [ZV, h1, h2, h3]; done) | (simp_all [ZV]; done)
   ·try rw [h3]
    try simp only [qB] at h3
    refine Qp (ks2 Z Z (Qd fun K hK => Qg Z Z (QA (cs := [_, _, _, _, _]) Z Z Z Z (QA (cs := [_, _, _, _, _]) Z Z Z Z (QB (Yb Wa Wa Wa Wa) Z Z (.inr Z) (Qa Z (kc2 hK Z Z ?_)))))))
    refine Qd fun K hK => Qa Z (ZZ Z Z (Qa Z ?_))
    refine Qo (g := 26) Z (fun h4 => ?_) (fun h4 => ?_)
    ·try rw [h4]
     try simp only [qB] at h4
     refine gn3 Z Z Z (Qq Z (Qq Z (Qq Z (Y8 Z (Qf Z Z (Qa Z (kc1 hK Z ?_)))))))
     refine Qn (Qe Z ?_)
     (repeat clear hK K); first | (simp [ZV, h1, h2, h3, h4]; done) | (simp_all [ZV]; done)
    ·try rw [h4]
     try simp only [qB] at h4
     refine Qb Z (Qa Z (Qb Z (Xy Z Z (Qb Z (Qa Z ?_)))))
     refine Qo (g := 29) Z (fun h5 => ?_) (fun h5 => ?_)
     ·try rw [h5]
      try simp only [qB] at h5
      refine Qb Z (Qg Z Z (Qb Z (Qw Z Z Z (Qb Z (Zm Z (Qb Z (Qf Z Z (Qf Z Z (Qa Z (kc1 hK Z ?_))))))))))
      refine Qn (Qe Z ?_)
      (repeat clear hK K); first | (simp [ZV, h1, h2, h3, h4, h5]; done) | (simp_all [ZV]; done)
     ·try rw [h5]
      try simp only [qB] at h5
      refine gn3 Z Z Z (Qb Z (Qf Z Z (Qf Z Z (Qa Z (kc1 hK Z ?_)))))
      refine Qn (Qe Z ?_)
      (repeat clear hK K); first | (simp [ZV, h1, h2, h3, h4, h5]; done) | (simp_all [ZV]; done)
theorem YZ {e a b c : Int} {p q : List UInt8} {f : Bool} (hp : p.length <= 1048576) (hq : q.length <= 1048576) {e' a' b' c' : Int} {p' q' : List UInt8} {f' : Bool} (hp' : p'.length <= 1048576) (hq' : q'.length <= 1048576) : Ok Tryd.prog 79 [.agg [.int .i64 e, .int .i64 a, .int .i64 b, .int .i64 c, .str p, .str q, .bool f, .int .i64 e', .int .i64 a', .int .i64 b', .int .i64 c', .str p', .str q', .bool f']] (.bool (J0 e a b c p q f e' a' b' c' p' q' f')) := by
 refine Ok.ofT ZS Tryd.func79 Qas (QaG Z) ?_
 show TW _ _ tf79.body _ _
 refine Qd fun K hK => Zq Z Z Z (Qa Z (kc1 hK Z ?_))
 refine Qd fun K hK => Qg Z Z (QA (cs := [_, _, _, _, _, _, _]) Z Z Z Z (QB (ZP Wa Wa) Z Z (.inr Z) (Qa Z ?_)))
 refine Qo (g := 6) Z (fun h1 => ?_) (fun h1 => ?_)
 ·try rw [h1]
  try simp only [qB] at h1
  refine Qb Z (Qg Z Z (Qb Z (QA (cs := [_, _, _, _, _, _, _]) Z Z Z Z (Qb Z (QB (ZP Wa Wa) Z Z (.inr Z) (Qf Z Z (Qa Z ?_)))))))
  refine Qo (g := 11) Z (fun h2 => ?_) (fun h2 => ?_)
  ·try rw [h2]
   try simp only [qB] at h2
   refine Qb Z (Qg Z Z (Qb Z (QA (cs := [_, _, _, _, _, _, _]) Z Z Z Z (Qb Z (Qg Z Z (Qb Z (QA (cs := [_, _, _, _, _, _, _]) Z Z Z Z (Qb Z (QB (YY Wa Wa Wa Wa) Z Z (.inr Z) (Qb Z (ZZ Z Z ?_)))))))))))
   refine Qf Z Z (Qa Z (kc1 hK Z ?_))
   refine Qn (Qe Z ?_)
   (repeat clear hK K); first | (simp [J0, h1, h2]; done) | (simp_all [J0]; done)
  ·try rw [h2]
   try simp only [qB] at h2
   refine gn4 Z Z Z Z (gn2 Z Z (Qf Z Z (Qa Z (kc1 hK Z ?_))))
   refine Qn (Qe Z ?_)
   (repeat clear hK K); first | (simp [J0, h1, h2]; done) | (simp_all [J0]; done)
 ·try rw [h1]
  try simp only [qB] at h1
  refine gn3 Z Z Z (Qf Z Z (Qa Z (gn4 Z Z Z Z (gn2 Z Z (Qf Z Z ?_)))))
  refine Qa Z (kc1 hK Z ?_)
  refine Qn (Qe Z ?_)
  (repeat clear hK K); first | (simp [J0, h1]; done) | (simp_all [J0]; done)
theorem Ky {e a b c : Int} {p q : List UInt8} {f : Bool} (hp : p.length <= 1048576) (hq : q.length <= 1048576) {e' a' b' c' : Int} {p' q' : List UInt8} {f' : Bool} (hp' : p'.length <= 1048576) (hq' : q'.length <= 1048576) {x y z : Int} {r s : List UInt8} (hr : r.length <= 1048576) (hs : s.length <= 1048576) : Ok Tryd.prog 73 [.agg [.int .i64 e, .int .i64 a, .int .i64 b, .int .i64 c, .str p, .str q, .bool f, .int .i64 e', .int .i64 a', .int .i64 b', .int .i64 c', .str p', .str q', .bool f'], .agg [.int .i64 x, .int .i64 y, .int .i64 z, .str r, .str s]] (.bool (YK e a b c p q f e' a' b' c' p' q' f' x y z r s)) := by
 refine Ok.ofT ZS Tryd.func73 Qam (QaG Z) ?_
 show TW _ _ tf73.body _ _
 refine Qd fun K hK => Zq Z Z Z (Zq Z Z Z (Qa Z (kc2 hK Z Z ?_)))
 refine Qd fun K hK => QA (cs := [_, _, _, _, _, _, _, _, _, _, _, _, _, _]) Z Z Z Z (QB (YZ Wa Wa Wa Wa) Z Z (.inr Z) (Qa Z ?_))
 refine Qo (g := 7) Z (fun h1 => ?_) (fun h1 => ?_)
 ·try rw [h1]
  try simp only [qB] at h1
  refine Qb Z (QA (cs := [_, _, _, _, _]) Z Z Z Z (Qb Z (QB (Zu Wa Wa) Z Z (.inr Z) (Qf Z Z (Qa Z ?_)))))
  refine Qo (g := 11) Z (fun h2 => ?_) (fun h2 => ?_)
  ·try rw [h2]
   try simp only [qB] at h2
   refine Qb Z (Qg Z Z (Qb Z (QA (cs := [_, _, _, _, _, _, _]) Z Z Z Z (Qb Z (QA (cs := [_, _, _, _, _]) Z Z Z Z (Qb Z (QB (Xg Wa Wa Wa Wa) Z Z (.inr Z) (Qf Z Z (Qa Z ?_)))))))))
   refine Qo (g := 17) Z (fun h3 => ?_) (fun h3 => ?_)
   ·try rw [h3]
    try simp only [qB] at h3
    refine Qb Z (Qg Z Z (Qb Z (QA (cs := [_, _, _, _, _, _, _]) Z Z Z Z (Qb Z (QA (cs := [_, _, _, _, _]) Z Z Z Z (Qb Z (QB (Xg Wa Wa Wa Wa) Z Z (.inr Z) (Qb Z (Zm Z (Qf Z Z (Qa Z ?_)))))))))))
    refine kc1 hK Z ?_
    refine Qn (Qe Z ?_)
    (repeat clear hK K); first | (simp [YK, h1, h2, h3]; done) | (simp_all [YK]; done)
   ·try rw [h3]
    try simp only [qB] at h3
    refine gn4 Z Z Z Z (Y8 Z (Qf Z Z (Qa Z (kc1 hK Z ?_))))
    refine Qn (Qe Z ?_)
    (repeat clear hK K); first | (simp [YK, h1, h2, h3]; done) | (simp_all [YK]; done)
  ·try rw [h2]
   try simp only [qB] at h2
   refine gn4 Z Z Z Z (Qf Z Z (Qa Z (gn4 Z Z Z Z (Y8 Z (Qf Z Z ?_)))))
   refine Qa Z (kc1 hK Z ?_)
   refine Qn (Qe Z ?_)
   (repeat clear hK K); first | (simp [YK, h1, h2]; done) | (simp_all [YK]; done)
 ·try rw [h1]
  try simp only [qB] at h1
  refine gn2 Z Z (Qf Z Z (Qa Z (gn4 Z Z Z Z (Qf Z Z (Qa Z (gn2 Z Z ?_))))))
  refine gn3 Z Z Z (Qf Z Z (Qa Z (kc1 hK Z ?_)))
  refine Qn (Qe Z ?_)
  (repeat clear hK K); first | (simp [YK, h1]; done) | (simp_all [YK]; done)
open Go Go.Abs M3
theorem _root_.We {p : Prop} (h : p := by first | (left; assumption) | (right; omega)) : p := h
theorem X1 {s : List UInt8} (hl : s.length <= 1048576) : Ok Tryd.prog 59 [.str s] (.tup [.int .i64 (ZU s).1, .bool (ZU s).2]) := by
 refine Ok.ofT ZS Tryd.func59 B8 (QaG Z) ?_
 show TW _ _ tf59.body _ _
 refine Qd fun K hK => mv2 Z Z (kc1 hK Z ?_)
 refine Gd (ι := Unit) (fun _u => ⟨[(0, .str s)], []⟩) (fun _u => ¬ (s = [] \/ 4 < s.length \/ (1 < s.length /\ s.head? = some 48))) ?_ ?_
 ·skip
  refine Qd fun K hK => Qa Z (Jb Z Z (Qa Z ?_))
  refine Qo (g := 9) Z (fun h1 => ?_) (fun h1 => ?_)
  ·try rw [h1]
   try simp only [qB, QaK, QaT, decide_eq_true_eq] at h1
   refine gn3 Z Z Z (Qf Z Z (Qa Z (gn4 Z Z Z Z (Qq Z (Qq Z (Qq Z ?_))))))
   refine Y8 Z (Qf Z Z (kc2 hK Z Z ?_))
   refine QW Z (Qd fun K hK => mv2 Z Z (kc2 hK Z Z ?_))
   refine Qn (ZL (ZQ Z Z ?_))
   first | (rw [XX (s := s) We]; exact ⟨rfl, rfl⟩) | (rw [Yf (s := s) Wa Wc]; exact ⟨rfl, rfl⟩) | (rw [YO (s := s) (i := i) Wa Wj]; exact ⟨rfl, rfl⟩) | (rw [J2 (s := s) (i := i) hJ Wa hI.2.1]; exact ⟨rfl, by simp [JD, D.fz, D.fzS, D.can, D.canS]; omega⟩)
  ·try rw [h1]
   try simp only [qB, QaK, QaT, decide_eq_true_eq] at h1
   refine Qb Z (Qa Z (Qb Z (ZJ Z (Qb Z (Y9 Z Z (Qf Z Z (Qa Z ?_)))))))
   refine Qo (g := 14) Z (fun h2 => ?_) (fun h2 => ?_)
   ·try rw [h2]
    try simp only [qB, QaK, QaT, decide_eq_true_eq] at h2
    refine gn4 Z Z Z Z (Qq Z (Qq Z (Qq Z (Y8 Z (Qf Z Z (kc2 hK Z Z ?_))))))
    refine QW Z (Qd fun K hK => mv2 Z Z (kc2 hK Z Z ?_))
    refine Qn (ZL (ZQ Z Z ?_))
    first | (rw [XX (s := s) We]; exact ⟨rfl, rfl⟩) | (rw [Yf (s := s) Wa Wc]; exact ⟨rfl, rfl⟩) | (rw [YO (s := s) (i := i) Wa Wj]; exact ⟨rfl, rfl⟩) | (rw [J2 (s := s) (i := i) hJ Wa hI.2.1]; exact ⟨rfl, by simp [JD, D.fz, D.fzS, D.can, D.canS]; omega⟩)
   ·try rw [h2]
    try simp only [qB, QaK, QaT, decide_eq_true_eq] at h2
    refine Qb Z (Qa Z (Qb Z (ZY Z Z Wa (JX (i := 0) (List.length_pos_iff.2 Wc)) (Qb Z (Xy Z Z (Qb Z (Qa Z ?_)))))))
    refine Qo (g := 18) Z (fun h3 => ?_) (fun h3 => ?_)
    ·try rw [h3]
     try simp only [qB, QaK, QaT, decide_eq_true_eq] at h3
     refine Qb Z (Qa Z (Qb Z (ZJ Z (Qb Z (Y9 Z Z (Qb Z (Qf Z Z (Qf Z Z (kc2 hK Z Z ?_)))))))))
     refine Qr Z (fun h4 => ?_) (fun h4 => ?_)
     ·try rw [h4]
      try simp only [qB, QaK, QaT, decide_eq_true_eq] at h4
      refine Qd fun K hK => mv2 Z Z (kc2 hK Z Z ?_)
      refine Qn (ZL (ZQ Z Z ?_))
      first | (rw [XX (s := s) We]; exact ⟨rfl, rfl⟩) | (rw [Yf (s := s) Wa Wc]; exact ⟨rfl, rfl⟩) | (rw [YO (s := s) (i := i) Wa Wj]; exact ⟨rfl, rfl⟩) | (rw [J2 (s := s) (i := i) hJ Wa hI.2.1]; exact ⟨rfl, by simp [JD, D.fz, D.fzS, D.can, D.canS]; omega⟩)
     ·try rw [h4]
      try simp only [qB, QaK, QaT, decide_eq_true_eq] at h4
      refine Qp ?_
      refine Zb () ?_ ?_
      ·exact Q3 (kp1 rfl)
      ·rintro (q | q | q) <;> first | (simp_all; done) | omega | exact NE (s := s) Wa Wc q.2
    ·try rw [h3]
     try simp only [qB, QaK, QaT, decide_eq_true_eq] at h3
     refine gn3 Z Z Z (Qb Z (Qf Z Z (Qf Z Z (kc2 hK Z Z ?_))))
     refine Zo Z (Qp ?_)
     refine Zb () ?_ ?_
     ·exact Q3 (kp1 rfl)
     ·rintro (q | q | q) <;> first | (simp_all; done) | omega | exact NE (s := s) Wa Wc q.2
 intro _u hJ
 try dsimp only
 refine Qd fun K hK => Qa Z (kc2 hK Z Z ?_)
 refine Qz ?_ -- 1
 refine Qd fun K hK => Qa Z (RL Z Z (kc2 hK Z Z ?_))
 refine Qy ?_
 refine Zd (ι := Nat) (fun i => ⟨[(4, .int .i64 (val (s.take i))), (25, .ref 25 0 0)], [(25, ⟨[], 0, Zg s i, false⟩)]⟩) (fun i => i <= s.length /\ (s.take i).all Z2 = true /\ s.length <= 4 /\ 0 < s.length) (fun i => s.length - i) 0 ?_ ?_ ?_
 ·exact QQ (l := [4, 25]) (lH := [25]) (kp2 rfl rfl) (Qc rfl Qk) (by simp [val]) rfl rfl
 ·exact ⟨QaS _, rfl, Nat.le_of_not_lt fun h => hJ (.inr (.inl h)), List.length_pos_iff.2 fun h => hJ (.inl h)⟩
 intro i hI
 have hv := S0 (s := s.take i) hI.2.1
 have hp : 10 ^ (s.take i).length <= 10 ^ 4 := Nat.pow_le_pow_right Wa Wh
 have hI1 := hI.1
 have hI3 := hI.2.2.1
 try dsimp only
 refine Qd fun K hK => ?_
 rcases Qa3 (i) (s).length with h5 | h5
 ·rcases Qa3 (((s)[i]).toNat) 128 with h6 | h6
  ·refine PI Z Z h5 (Mp h5 h6) (Zc Z Z (kc4 hK Z Z Z Z ?_))
   refine Qz ?_ -- 2
   refine QW Z (Qp (ks3 Z Z Z (Qy (Qd fun K hK => Zc Z Z (Qa Z (kc3 hK Z Z Z ?_))))))
   refine Qy (Qd fun K hK => Qa Z (Nk Z Z (Qa Z ?_)))
   refine Qo (g := 32) Z (fun h7 => ?_) (fun h7 => ?_)
   ·try rw [h7]
    try simp only [qB, QaK, QaT, decide_eq_true_eq] at h7
    refine Qb Z (Qa Z (Qb Z (T4 Z Z (Qf Z Z (Qa Z (kc4 hK Z Z Z Z ?_))))))
    refine Qr Z (fun h8 => ?_) (fun h8 => ?_)
    ·try rw [h8]
     try simp only [qB, QaK, QaT, decide_eq_true_eq] at h8
     refine QP fun K hK => Qa Z (Lw Z Z Wb (Qa Z (HV Z Z Wb (RJ Z Wb (Q9 Z Z Wb (Qa Z (hK _ ?_)))))))
     refine Qj (Qj ?_)
     refine Ql (i + 1) ?_ ?_ ?_
     ·first | exact QQ (l := [4, 25]) (lH := [25]) (kp2 rfl rfl) (Qc rfl Qk) rfl rfl rfl | exact QQ (l := [4, 25]) (lH := [25]) (kp2 rfl rfl) (Qc rfl Qk) Wp rfl rfl | (exfalso; omega)
     ·first | exact ⟨Wa, Q4 Wa hI.2.1 Wj, hI.2.2⟩ | (exfalso; omega)
     ·first | omega | (simp only; omega) | (dsimp only; omega)
    ·try rw [h8]
     try simp only [qB, QaK, QaT, decide_eq_true_eq] at h8
     refine Qd fun K hK => mv2 Z Z (kc2 hK Z Z ?_)
     refine Qn (Qi (Qi (QC (Qi (Qh (ZQ Z Z ?_))))))
     first | (rw [XX (s := s) We]; exact ⟨rfl, rfl⟩) | (rw [Yf (s := s) Wa Wc]; exact ⟨rfl, rfl⟩) | (rw [YO (s := s) (i := i) Wa Wj]; exact ⟨rfl, rfl⟩) | (rw [J2 (s := s) (i := i) hJ Wa hI.2.1]; exact ⟨rfl, by simp [JD, D.fz, D.fzS, D.can, D.canS]; omega⟩)
   ·try rw [h7]
    try simp only [qB, QaK, QaT, decide_eq_true_eq] at h7
    refine gn2 Z Z (Qf Z Z (Qa Z (kc4 hK Z Z Z Z ?_)))
    refine Zo Z (Qd fun K hK => mv2 Z Z (kc2 hK Z Z ?_))
    refine Qn (Qi (Qi (QC (Qi (Qh (ZQ Z Z ?_))))))
    first | (rw [XX (s := s) We]; exact ⟨rfl, rfl⟩) | (rw [Yf (s := s) Wa Wc]; exact ⟨rfl, rfl⟩) | (rw [YO (s := s) (i := i) Wa Wj]; exact ⟨rfl, rfl⟩) | (rw [J2 (s := s) (i := i) hJ Wa hI.2.1]; exact ⟨rfl, by simp [JD, D.fz, D.fzS, D.can, D.canS]; omega⟩)
  ·obtain ⟨cwh6, nwh6, hch6, hdh6⟩ := PP h5 h6
   refine PI Z Z h5 hdh6 (Zc Z Z (kc4 hK Z Z Z Z ?_))
   refine Qz ?_ -- 2
   refine QW Z (Qp (ks3 Z Z Z (Qy (Qd fun K hK => Zc Z Z (Qa Z (kc3 hK Z Z Z ?_))))))
   refine Qy (Qd fun K hK => Qa Z (Nk Z Z (Qa Z ?_)))
   refine Qo (g := 32) Z (fun h9 => ?_) (fun h9 => ?_)
   ·try rw [h9]
    try simp only [qB, QaK, QaT, decide_eq_true_eq] at h9
    refine Qb Z (Qa Z (Qb Z (T4 Z Z (Qf Z Z (Qa Z (kc4 hK Z Z Z Z ?_))))))
    refine Qr Z (fun h10 => ?_) (fun h10 => ?_)
    ·try rw [h10]
     try simp only [qB, QaK, QaT, decide_eq_true_eq] at h10
     refine QP fun K hK => Qa Z (Lw Z Z Wb (Qa Z (HV Z Z Wb (RJ Z Wb (Q9 Z Z Wb (Qa Z (hK _ ?_)))))))
     refine Qj (Qj ?_)
     refine Ql (i + 1) ?_ ?_ ?_
     ·first | exact QQ (l := [4, 25]) (lH := [25]) (kp2 rfl rfl) (Qc rfl Qk) rfl rfl rfl | exact QQ (l := [4, 25]) (lH := [25]) (kp2 rfl rfl) (Qc rfl Qk) Wp rfl rfl | (exfalso; omega)
     ·first | exact ⟨Wa, Q4 Wa hI.2.1 Wj, hI.2.2⟩ | (exfalso; omega)
     ·first | omega | (simp only; omega) | (dsimp only; omega)
    ·try rw [h10]
     try simp only [qB, QaK, QaT, decide_eq_true_eq] at h10
     refine Qd fun K hK => mv2 Z Z (kc2 hK Z Z ?_)
     refine Qn (Qi (Qi (QC (Qi (Qh (ZQ Z Z ?_))))))
     first | (rw [XX (s := s) We]; exact ⟨rfl, rfl⟩) | (rw [Yf (s := s) Wa Wc]; exact ⟨rfl, rfl⟩) | (rw [YO (s := s) (i := i) Wa Wj]; exact ⟨rfl, rfl⟩) | (rw [J2 (s := s) (i := i) hJ Wa hI.2.1]; exact ⟨rfl, by simp [JD, D.fz, D.fzS, D.can, D.canS]; omega⟩)
   ·try rw [h9]
    try simp only [qB, QaK, QaT, decide_eq_true_eq] at h9
    refine gn2 Z Z (Qf Z Z (Qa Z (kc4 hK Z Z Z Z ?_)))
    refine Zo Z (Qd fun K hK => mv2 Z Z (kc2 hK Z Z ?_))
    refine Qn (Qi (Qi (QC (Qi (Qh (ZQ Z Z ?_))))))
    first | (rw [XX (s := s) We]; exact ⟨rfl, rfl⟩) | (rw [Yf (s := s) Wa Wc]; exact ⟨rfl, rfl⟩) | (rw [YO (s := s) (i := i) Wa Wj]; exact ⟨rfl, rfl⟩) | (rw [J2 (s := s) (i := i) hJ Wa hI.2.1]; exact ⟨rfl, by simp [JD, D.fz, D.fzS, D.can, D.canS]; omega⟩)
 ·refine Mc Z Z Wa (Zc Z Z (kc4 hK Z Z Z Z ?_))
  refine Qz ?_ -- 2
  refine Zo Z (Q1 (QD (Qu (QE (ks1 Z (Qd fun K hK => mv2 Z Z (T4 Z Z (mv2 Z Z ?_))))))))
  refine kc2 hK Z Z ?_
  refine Qn (ZQ Z Z ?_)
  first | (rw [XX (s := s) We]; exact ⟨rfl, rfl⟩) | (rw [Yf (s := s) Wa Wc]; exact ⟨rfl, rfl⟩) | (rw [YO (s := s) (i := i) Wa Wj]; exact ⟨rfl, rfl⟩) | (rw [J2 (s := s) (i := i) hJ Wa hI.2.1]; exact ⟨rfl, by simp [JD, D.fz, D.fzS, D.can, D.canS]; omega⟩)
theorem _root_.Wf {p : Prop} (h : p := by decide) : p := h
theorem X4 {s : List UInt8} (hl : s.length <= 1048576) : Ok Tryd.prog 44 [.str s] (.bool (KJ s)) := by
 refine Ok.ofT ZS Tryd.func44 BP (QaG Z) ?_
 show TW _ _ tf44.body _ _
 refine Qd fun K hK => Qa Z (kc1 hK Z ?_)
 refine LA (Qd fun K hK => Qa Z (QB (Xm Wa) Z Z (.inl Z) (Qa Z (kc1 hK Z ?_))))
 refine Qd fun K hK => Qa Z (QK Z Z (T4 Z Z (Qa Z (kc2 hK Z Z ?_))))
 refine Qz ?_ -- 0
 refine Qp (ks2 Z Z ?_)
 refine Qz ?_ -- 1
 refine Qd fun K hK => Qa Z (QK Z Z (Qa Z (kc4 hK Z Z Z Z ?_)))
 refine Qy ?_
 refine Zd (ι := Nat) (fun i => ⟨[(4, .bool (decide ((Q0 s 46).length <= 4))), (14, .sl (YH (Q0 s 46))), (15, .int .i64 (Q0 s 46).length), (16, .int .i64 i)], []⟩) (fun i => i <= (Q0 s 46).length /\ ((Q0 s 46).take i).all JJ = true) (fun i => (Q0 s 46).length - i) 0 ?_ ?_ ?_
 ·exact QQ (l := [4, 14, 15, 16]) (kp4 rfl rfl rfl rfl) Qk (by simp [Qm]; omega) rfl rfl
 ·exact ⟨QaS _, rfl⟩
 intro i hI
 have sl := HO (s := s) (c := 46)
 try dsimp only
 refine Qd fun K hK => ZZ Z Z (kc5 hK Z Z Z Z Z ?_)
 refine Qz ?_ -- 2
 refine Qr Z (fun h1 => ?_) (fun h1 => ?_)
 ·try rw [h1]
  try simp only [qB, Qm] at h1
  refine Qp (ks4 Z Z Z Z ?_)
  refine Qz ?_ -- 3
  refine Qy (Qd fun K hK => QH Z Z Z Wa (Xq Wa) Z (Qw Z Z Z (Qa Z (kc5 hK Z Z Z Z Z ?_))))
  refine Qz ?_ -- 4
  refine Qd fun K hK => Qa Z (Jb Z Z (Qa Z ?_))
  refine Qo (g := 22) Z (fun h2 => ?_) (fun h2 => ?_)
  ·try rw [h2]
   try simp only [qB, Qm] at h2
   refine gn3 Z Z Z (Qf Z Z (kc6 hK Z Z Z Z Z Z ?_))
   refine QW Z (Qd fun K hK => Qa Z (kc1 hK Z ?_))
   refine Q1 (QD (Q8 Wf (QD (Qu (QE (ks1 Z (Qd fun K hK => mv2 Z Z (kc1 hK Z ?_))))))))
   refine Qn (Qe Z ?_)
   first | exact (ZB (i := i) Wa (YM We)).symm | exact (ZB (i := i) Wa (YL (Yg (i := j) Wa Wg))).symm | exact (Yp Wa hI.2).symm
  ·try rw [h2]
   try simp only [qB, Qm] at h2
   refine Qb Z (Qa Z (Qb Z (ZJ Z (Qb Z (Y9 Z Z (Qf Z Z (kc6 hK Z Z Z Z Z Z ?_)))))))
   refine Qr Z (fun h3 => ?_) (fun h3 => ?_)
   ·try rw [h3]
    try simp only [qB, Qm] at h3
    refine Qd fun K hK => Qa Z (kc1 hK Z ?_)
    refine Q1 (QD (Q8 Wf (QD (Qu (QE (ks1 Z (Qd fun K hK => mv2 Z Z (kc1 hK Z ?_))))))))
    refine Qn (Qe Z ?_)
    first | exact (ZB (i := i) Wa (YM We)).symm | exact (ZB (i := i) Wa (YL (Yg (i := j) Wa Wg))).symm | exact (Yp Wa hI.2).symm
   ·try rw [h3]
    try simp only [qB, Qm] at h3
    refine Qp (ks5 Z Z Z Z Z (Qd fun K hK => Qa Z (RL Z Z (kc5 hK Z Z Z Z Z ?_))))
    refine Qy ?_
    have hlt : i < (Q0 s 46).length := Wa
    refine Zd (ι := Nat) (fun j => ⟨[(4, .bool (decide ((Q0 s 46).length <= 4))), (14, .sl (YH (Q0 s 46))), (15, .int .i64 (Q0 s 46).length), (16, .int .i64 i), (28, .ref 28 0 0)], [(28, ⟨[], 0, Zg ((Q0 s 46)[i]'hlt) j, false⟩)]⟩) (fun j => j <= ((Q0 s 46)[i]'hlt).length /\ (((Q0 s 46)[i]'hlt).take j).all Zx = true) (fun j => ((Q0 s 46)[i]'hlt).length - j) 0 ?_ ?_ ?_
    ·first | exact QQ (l := [4, 14, 15, 16, 28]) (lH := [28]) (kp5 rfl rfl rfl rfl rfl) (Qc rfl Qk) rfl rfl rfl | (exfalso; omega)
    ·exact ⟨QaS _, rfl⟩
    intro j hJ
    have hJ1 := hJ.1
    try dsimp only
    refine Qd fun K hK => ?_
    rcases Qa3 (j) (((Q0 s 46)[i]'hlt)).length with h4 | h4
    ·rcases Qa3 (((((Q0 s 46)[i]'hlt))[j]).toNat) 128 with h5 | h5
     ·refine PI Z Z h4 (Mp h4 h5) (Zc Z Z (kc7 hK Z Z Z Z Z Z Z ?_))
      refine Qz ?_ -- 5
      refine QW Z (Qp (ks6 Z Z Z Z Z Z (Qy (Qd fun K hK => Zc Z Z (Qa Z (kc6 hK Z Z Z Z Z Z ?_))))))
      refine Qd fun K hK => Qa Z (ZZ Z Z (Qa Z ?_))
      refine Qo (g := 34) Z (fun h6 => ?_) (fun h6 => ?_)
      ·try rw [h6]
       try simp only [qB, Qm] at h6
       refine gn2 Z Z (Qf Z Z (Qa Z (Qb Z (Qa Z (Qb Z (ZZ Z Z (Qb Z (Qa Z ?_))))))))
       refine Qo (g := 41) Z (fun h7 => ?_) (fun h7 => ?_)
       ·try rw [h7]
        try simp only [qB, Qm] at h7
        refine gn2 Z Z (Qb Z (Qf Z Z (Qf Z Z (Qa Z (Qb Z (Qa Z (Qb Z (Z3 Z Z (Qf Z Z (kc6 hK Z Z Z Z Z Z ?_))))))))))
        refine Qr Z (fun h8 => ?_) (fun h8 => ?_)
        ·try rw [h8]
         try simp only [qB, Qm] at h8
         refine Qd fun K hK => Qa Z (kc1 hK Z ?_)
         refine Q1 (Q8 Wf (Qu (Q8 Wf (Q8 Wf (QD (Qu (QE (ks1 Z (Qd fun K hK => mv2 Z Z ?_)))))))))
         refine kc1 hK Z ?_
         refine Qn (Qe Z ?_)
         first | exact (ZB (i := i) Wa (YM We)).symm | exact (ZB (i := i) Wa (YL (Yg (i := j) Wa Wg))).symm | exact (Yp Wa hI.2).symm
        ·try rw [h8]
         try simp only [qB, Qm] at h8
         refine Qp (Qj ?_)
         refine Ql (j + 1) ?_ ?_ ?_
         ·first | exact QQ (l := [4, 14, 15, 16, 28]) (lH := [28]) (kp5 rfl rfl rfl rfl rfl) (Qc rfl Qk) rfl rfl rfl | (exfalso; omega)
         ·first | exact ⟨Wa, Q4 Wa hJ.2 Wg⟩ | (exfalso; omega)
         ·first | omega | (simp only; omega) | (dsimp only; omega)
       ·try rw [h7]
        try simp only [qB, Qm] at h7
        refine Qb Z (Qa Z (Qb Z (Y9 Z Z (Qb Z (Qf Z Z (Qf Z Z (Qa Z ?_)))))))
        refine Qo (g := 46) Z (fun h9 => ?_) (fun h9 => ?_)
        ·try rw [h9]
         try simp only [qB, Qm] at h9
         refine Qb Z (Qa Z (Qb Z (Z3 Z Z (Qf Z Z (kc6 hK Z Z Z Z Z Z ?_)))))
         refine Qr Z (fun h10 => ?_) (fun h10 => ?_)
         ·try rw [h10]
          try simp only [qB, Qm] at h10
          refine Qd fun K hK => Qa Z (kc1 hK Z ?_)
          refine Q1 (Q8 Wf (Qu (Q8 Wf (Q8 Wf (QD (Qu (QE (ks1 Z (Qd fun K hK => mv2 Z Z ?_)))))))))
          refine kc1 hK Z ?_
          refine Qn (Qe Z ?_)
          first | exact (ZB (i := i) Wa (YM We)).symm | exact (ZB (i := i) Wa (YL (Yg (i := j) Wa Wg))).symm | exact (Yp Wa hI.2).symm
         ·try rw [h10]
          try simp only [qB, Qm] at h10
          refine Qp (Qj ?_)
          refine Ql (j + 1) ?_ ?_ ?_
          ·first | exact QQ (l := [4, 14, 15, 16, 28]) (lH := [28]) (kp5 rfl rfl rfl rfl rfl) (Qc rfl Qk) rfl rfl rfl | (exfalso; omega)
          ·first | exact ⟨Wa, Q4 Wa hJ.2 Wg⟩ | (exfalso; omega)
          ·first | omega | (simp only; omega) | (dsimp only; omega)
        ·try rw [h9]
         try simp only [qB, Qm] at h9
         refine gn2 Z Z (Qf Z Z (kc6 hK Z Z Z Z Z Z ?_))
         refine Zo Z (Qp (Qj ?_))
         refine Ql (j + 1) ?_ ?_ ?_
         ·first | exact QQ (l := [4, 14, 15, 16, 28]) (lH := [28]) (kp5 rfl rfl rfl rfl rfl) (Qc rfl Qk) rfl rfl rfl | (exfalso; omega)
         ·first | exact ⟨Wa, Q4 Wa hJ.2 Wg⟩ | (exfalso; omega)
         ·first | omega | (simp only; omega) | (dsimp only; omega)
      ·try rw [h6]
       try simp only [qB, Qm] at h6
       refine Qb Z (Qa Z (Qb Z (Y9 Z Z (Qf Z Z (Qa Z ?_)))))
       refine Qo (g := 38) Z (fun h11 => ?_) (fun h11 => ?_)
       ·try rw [h11]
        try simp only [qB, Qm] at h11
        refine Qb Z (Qa Z (Qb Z (ZZ Z Z (Qb Z (Qa Z ?_)))))
        refine Qo (g := 41) Z (fun h12 => ?_) (fun h12 => ?_)
        ·try rw [h12]
         try simp only [qB, Qm] at h12
         refine gn2 Z Z (Qb Z (Qf Z Z (Qf Z Z (Qa Z (Qb Z (Qa Z (Qb Z (Z3 Z Z (Qf Z Z (kc6 hK Z Z Z Z Z Z ?_))))))))))
         refine Qr Z (fun h13 => ?_) (fun h13 => ?_)
         ·try rw [h13]
          try simp only [qB, Qm] at h13
          refine Qd fun K hK => Qa Z (kc1 hK Z ?_)
          refine Q1 (Q8 Wf (Qu (Q8 Wf (Q8 Wf (QD (Qu (QE (ks1 Z (Qd fun K hK => mv2 Z Z ?_)))))))))
          refine kc1 hK Z ?_
          refine Qn (Qe Z ?_)
          first | exact (ZB (i := i) Wa (YM We)).symm | exact (ZB (i := i) Wa (YL (Yg (i := j) Wa Wg))).symm | exact (Yp Wa hI.2).symm
         ·try rw [h13]
          try simp only [qB, Qm] at h13
          refine Qp (Qj ?_)
          refine Ql (j + 1) ?_ ?_ ?_
          ·first | exact QQ (l := [4, 14, 15, 16, 28]) (lH := [28]) (kp5 rfl rfl rfl rfl rfl) (Qc rfl Qk) rfl rfl rfl | (exfalso; omega)
          ·first | exact ⟨Wa, Q4 Wa hJ.2 Wg⟩ | (exfalso; omega)
          ·first | omega | (simp only; omega) | (dsimp only; omega)
        ·try rw [h12]
         try simp only [qB, Qm] at h12
         refine Qb Z (Qa Z (Qb Z (Y9 Z Z (Qb Z (Qf Z Z (Qf Z Z (Qa Z ?_)))))))
         refine Qo (g := 46) Z (fun h14 => ?_) (fun h14 => ?_)
         ·try rw [h14]
          try simp only [qB, Qm] at h14
          refine Qb Z (Qa Z (Qb Z (Z3 Z Z (Qf Z Z (kc6 hK Z Z Z Z Z Z ?_)))))
          refine Qr Z (fun h15 => ?_) (fun h15 => ?_)
          ·try rw [h15]
           try simp only [qB, Qm] at h15
           refine Qd fun K hK => Qa Z (kc1 hK Z ?_)
           refine Q1 (Q8 Wf (Qu (Q8 Wf (Q8 Wf (QD (Qu (QE (ks1 Z (Qd fun K hK => mv2 Z Z ?_)))))))))
           refine kc1 hK Z ?_
           refine Qn (Qe Z ?_)
           first | exact (ZB (i := i) Wa (YM We)).symm | exact (ZB (i := i) Wa (YL (Yg (i := j) Wa Wg))).symm | exact (Yp Wa hI.2).symm
          ·try rw [h15]
           try simp only [qB, Qm] at h15
           refine Qp (Qj ?_)
           refine Ql (j + 1) ?_ ?_ ?_
           ·first | exact QQ (l := [4, 14, 15, 16, 28]) (lH := [28]) (kp5 rfl rfl rfl rfl rfl) (Qc rfl Qk) rfl rfl rfl | (exfalso; omega)
           ·first | exact ⟨Wa, Q4 Wa hJ.2 Wg⟩ | (exfalso; omega)
           ·first | omega | (simp only; omega) | (dsimp only; omega)
         ·try rw [h14]
          try simp only [qB, Qm] at h14
          refine gn2 Z Z (Qf Z Z (kc6 hK Z Z Z Z Z Z ?_))
          refine Zo Z (Qp (Qj ?_))
          refine Ql (j + 1) ?_ ?_ ?_
          ·first | exact QQ (l := [4, 14, 15, 16, 28]) (lH := [28]) (kp5 rfl rfl rfl rfl rfl) (Qc rfl Qk) rfl rfl rfl | (exfalso; omega)
          ·first | exact ⟨Wa, Q4 Wa hJ.2 Wg⟩ | (exfalso; omega)
          ·first | omega | (simp only; omega) | (dsimp only; omega)
       ·try rw [h11]
        try simp only [qB, Qm] at h11
        refine gn3 Z Z Z (Qq Z (Qq Z (Y8 Z (Qf Z Z (Qa Z (gn2 Z Z (Qf Z Z (kc6 hK Z Z Z Z Z Z ?_))))))))
        refine Zo Z (Qp (Qj ?_))
        refine Ql (j + 1) ?_ ?_ ?_
        ·first | exact QQ (l := [4, 14, 15, 16, 28]) (lH := [28]) (kp5 rfl rfl rfl rfl rfl) (Qc rfl Qk) rfl rfl rfl | (exfalso; omega)
        ·first | exact ⟨Wa, Q4 Wa hJ.2 Wg⟩ | (exfalso; omega)
        ·first | omega | (simp only; omega) | (dsimp only; omega)
     ·obtain ⟨cwh5, nwh5, hch5, hdh5⟩ := PP h4 h5
      refine PI Z Z h4 hdh5 (Zc Z Z (kc7 hK Z Z Z Z Z Z Z ?_))
      refine Qz ?_ -- 5
      refine QW Z (Qp (ks6 Z Z Z Z Z Z (Qy (Qd fun K hK => Zc Z Z (Qa Z (kc6 hK Z Z Z Z Z Z ?_))))))
      refine Qd fun K hK => Qa Z (ZZ Z Z (Qa Z ?_))
      refine Qo (g := 34) Z (fun h16 => ?_) (fun h16 => ?_)
      ·try rw [h16]
       try simp only [qB, Qm] at h16
       refine gn2 Z Z (Qf Z Z (Qa Z (Qb Z (Qa Z (Qb Z (ZZ Z Z (Qb Z (Qa Z ?_))))))))
       refine Qo (g := 41) Z (fun h17 => ?_) (fun h17 => ?_)
       ·try rw [h17]
        try simp only [qB, Qm] at h17
        refine gn2 Z Z (Qb Z (Qf Z Z (Qf Z Z (Qa Z (Qb Z (Qa Z (Qb Z (Z3 Z Z (Qf Z Z (kc6 hK Z Z Z Z Z Z ?_))))))))))
        refine Qr Z (fun h18 => ?_) (fun h18 => ?_)
        ·try rw [h18]
         try simp only [qB, Qm] at h18
         refine Qd fun K hK => Qa Z (kc1 hK Z ?_)
         refine Q1 (Q8 Wf (Qu (Q8 Wf (Q8 Wf (QD (Qu (QE (ks1 Z (Qd fun K hK => mv2 Z Z ?_)))))))))
         refine kc1 hK Z ?_
         refine Qn (Qe Z ?_)
         first | exact (ZB (i := i) Wa (YM We)).symm | exact (ZB (i := i) Wa (YL (Yg (i := j) Wa Wg))).symm | exact (Yp Wa hI.2).symm
        ·try rw [h18]
         try simp only [qB, Qm] at h18
         refine Qp (Qj ?_)
         refine Ql (j + 1) ?_ ?_ ?_
         ·first | exact QQ (l := [4, 14, 15, 16, 28]) (lH := [28]) (kp5 rfl rfl rfl rfl rfl) (Qc rfl Qk) rfl rfl rfl | (exfalso; omega)
         ·first | exact ⟨Wa, Q4 Wa hJ.2 Wg⟩ | (exfalso; omega)
         ·first | omega | (simp only; omega) | (dsimp only; omega)
       ·try rw [h17]
        try simp only [qB, Qm] at h17
        refine Qb Z (Qa Z (Qb Z (Y9 Z Z (Qb Z (Qf Z Z (Qf Z Z (Qa Z ?_)))))))
        refine Qo (g := 46) Z (fun h19 => ?_) (fun h19 => ?_)
        ·try rw [h19]
         try simp only [qB, Qm] at h19
         refine Qb Z (Qa Z (Qb Z (Z3 Z Z (Qf Z Z (kc6 hK Z Z Z Z Z Z ?_)))))
         refine Qr Z (fun h20 => ?_) (fun h20 => ?_)
         ·try rw [h20]
          try simp only [qB, Qm] at h20
          refine Qd fun K hK => Qa Z (kc1 hK Z ?_)
          refine Q1 (Q8 Wf (Qu (Q8 Wf (Q8 Wf (QD (Qu (QE (ks1 Z (Qd fun K hK => mv2 Z Z ?_)))))))))
          refine kc1 hK Z ?_
          refine Qn (Qe Z ?_)
          first | exact (ZB (i := i) Wa (YM We)).symm | exact (ZB (i := i) Wa (YL (Yg (i := j) Wa Wg))).symm | exact (Yp Wa hI.2).symm
         ·try rw [h20]
          try simp only [qB, Qm] at h20
          refine Qp (Qj ?_)
          refine Ql (j + 1) ?_ ?_ ?_
          ·first | exact QQ (l := [4, 14, 15, 16, 28]) (lH := [28]) (kp5 rfl rfl rfl rfl rfl) (Qc rfl Qk) rfl rfl rfl | (exfalso; omega)
          ·first | exact ⟨Wa, Q4 Wa hJ.2 Wg⟩ | (exfalso; omega)
          ·first | omega | (simp only; omega) | (dsimp only; omega)
        ·try rw [h19]
         try simp only [qB, Qm] at h19
         refine gn2 Z Z (Qf Z Z (kc6 hK Z Z Z Z Z Z ?_))
         refine Zo Z (Qp (Qj ?_))
         refine Ql (j + 1) ?_ ?_ ?_
         ·first | exact QQ (l := [4, 14, 15, 16, 28]) (lH := [28]) (kp5 rfl rfl rfl rfl rfl) (Qc rfl Qk) rfl rfl rfl | (exfalso; omega)
         ·first | exact ⟨Wa, Q4 Wa hJ.2 Wg⟩ | (exfalso; omega)
         ·first | omega | (simp only; omega) | (dsimp only; omega)
      ·try rw [h16]
       try simp only [qB, Qm] at h16
       refine Qb Z (Qa Z (Qb Z (Y9 Z Z (Qf Z Z (Qa Z ?_)))))
       refine Qo (g := 38) Z (fun h21 => ?_) (fun h21 => ?_)
       ·try rw [h21]
        try simp only [qB, Qm] at h21
        refine Qb Z (Qa Z (Qb Z (ZZ Z Z (Qb Z (Qa Z ?_)))))
        refine Qo (g := 41) Z (fun h22 => ?_) (fun h22 => ?_)
        ·try rw [h22]
         try simp only [qB, Qm] at h22
         refine gn2 Z Z (Qb Z (Qf Z Z (Qf Z Z (Qa Z (Qb Z (Qa Z (Qb Z (Z3 Z Z (Qf Z Z (kc6 hK Z Z Z Z Z Z ?_))))))))))
         refine Qr Z (fun h23 => ?_) (fun h23 => ?_)
         ·try rw [h23]
          try simp only [qB, Qm] at h23
          refine Qd fun K hK => Qa Z (kc1 hK Z ?_)
          refine Q1 (Q8 Wf (Qu (Q8 Wf (Q8 Wf (QD (Qu (QE (ks1 Z (Qd fun K hK => mv2 Z Z ?_)))))))))
          refine kc1 hK Z ?_
          refine Qn (Qe Z ?_)
          first | exact (ZB (i := i) Wa (YM We)).symm | exact (ZB (i := i) Wa (YL (Yg (i := j) Wa Wg))).symm | exact (Yp Wa hI.2).symm
         ·try rw [h23]
          try simp only [qB, Qm] at h23
          refine Qp (Qj ?_)
          refine Ql (j + 1) ?_ ?_ ?_
          ·first | exact QQ (l := [4, 14, 15, 16, 28]) (lH := [28]) (kp5 rfl rfl rfl rfl rfl) (Qc rfl Qk) rfl rfl rfl | (exfalso; omega)
          ·first | exact ⟨Wa, Q4 Wa hJ.2 Wg⟩ | (exfalso; omega)
          ·first | omega | (simp only; omega) | (dsimp only; omega)
        ·try rw [h22]
         try simp only [qB, Qm] at h22
         refine Qb Z (Qa Z (Qb Z (Y9 Z Z (Qb Z (Qf Z Z (Qf Z Z (Qa Z ?_)))))))
         refine Qo (g := 46) Z (fun h24 => ?_) (fun h24 => ?_)
         ·try rw [h24]
          try simp only [qB, Qm] at h24
          refine Qb Z (Qa Z (Qb Z (Z3 Z Z (Qf Z Z (kc6 hK Z Z Z Z Z Z ?_)))))
          refine Qr Z (fun h25 => ?_) (fun h25 => ?_)
          ·try rw [h25]
           try simp only [qB, Qm] at h25
           refine Qd fun K hK => Qa Z (kc1 hK Z ?_)
           refine Q1 (Q8 Wf (Qu (Q8 Wf (Q8 Wf (QD (Qu (QE (ks1 Z (Qd fun K hK => mv2 Z Z ?_)))))))))
           refine kc1 hK Z ?_
           refine Qn (Qe Z ?_)
           first | exact (ZB (i := i) Wa (YM We)).symm | exact (ZB (i := i) Wa (YL (Yg (i := j) Wa Wg))).symm | exact (Yp Wa hI.2).symm
          ·try rw [h25]
           try simp only [qB, Qm] at h25
           refine Qp (Qj ?_)
           refine Ql (j + 1) ?_ ?_ ?_
           ·first | exact QQ (l := [4, 14, 15, 16, 28]) (lH := [28]) (kp5 rfl rfl rfl rfl rfl) (Qc rfl Qk) rfl rfl rfl | (exfalso; omega)
           ·first | exact ⟨Wa, Q4 Wa hJ.2 Wg⟩ | (exfalso; omega)
           ·first | omega | (simp only; omega) | (dsimp only; omega)
         ·try rw [h24]
          try simp only [qB, Qm] at h24
          refine gn2 Z Z (Qf Z Z (kc6 hK Z Z Z Z Z Z ?_))
          refine Zo Z (Qp (Qj ?_))
          refine Ql (j + 1) ?_ ?_ ?_
          ·first | exact QQ (l := [4, 14, 15, 16, 28]) (lH := [28]) (kp5 rfl rfl rfl rfl rfl) (Qc rfl Qk) rfl rfl rfl | (exfalso; omega)
          ·first | exact ⟨Wa, Q4 Wa hJ.2 Wg⟩ | (exfalso; omega)
          ·first | omega | (simp only; omega) | (dsimp only; omega)
       ·try rw [h21]
        try simp only [qB, Qm] at h21
        refine gn3 Z Z Z (Qq Z (Qq Z (Y8 Z (Qf Z Z (Qa Z (gn2 Z Z (Qf Z Z (kc6 hK Z Z Z Z Z Z ?_))))))))
        refine Zo Z (Qp (Qj ?_))
        refine Ql (j + 1) ?_ ?_ ?_
        ·first | exact QQ (l := [4, 14, 15, 16, 28]) (lH := [28]) (kp5 rfl rfl rfl rfl rfl) (Qc rfl Qk) rfl rfl rfl | (exfalso; omega)
        ·first | exact ⟨Wa, Q4 Wa hJ.2 Wg⟩ | (exfalso; omega)
        ·first | omega | (simp only; omega) | (dsimp only; omega)
    ·refine Mc Z Z Wa (Zc Z Z (kc7 hK Z Z Z Z Z Z Z ?_))
     refine Qz ?_ -- 5
     refine Zo Z (Q1 (QD (Qu (QE (Qj (ks4 Z Z Z Z (QP fun K hK => Q9 Z Z Wb (Qa Z (hK _ ?_)))))))))
     refine Ql (i + 1) ?_ ?_ ?_
     ·exact QQ (l := [4, 14, 15, 16]) (kp4 rfl rfl rfl rfl) Qk rfl rfl rfl
     ·exact ⟨Wa, Q4 Wa hI.2 (LX Wc Wa (Y1 Wa hJ.2))⟩
     ·first | omega | (simp only; omega) | (dsimp only; omega)
 ·try rw [h1]
  try simp only [qB, Qm] at h1
  refine Q1 (QD (Qu (QE (ks1 Z (Qd fun K hK => mv2 Z Z (kc1 hK Z ?_))))))
  refine Qn (Qe Z ?_)
  first | exact (ZB (i := i) Wa (YM We)).symm | exact (ZB (i := i) Wa (YL (Yg (i := j) Wa Wg))).symm | exact (Yp Wa hI.2).symm
open Go Go.Abs M3
theorem Nv {a b : List UInt8} (ha : a.length <= 1048576) (hb : b.length <= 1048576) : Ok Tryd.prog 48 [.str a, .str b] (.int .i64 (FU a b)) := by
 refine Ok.ofT ZS Tryd.func48 BT (QaG Z) ?_
 show TW _ _ tf48.body _ _
 refine Qd fun K hK => Qa Z (kc2 hK Z Z ?_)
 refine Qd fun K hK => Qa Z (QB (Y3 Wa) Z Z (.inr Z) (Qa Z (QB (Y3 Wa) Z Z (.inr Z) (mv2 Z Z (kc4 hK Z Z Z Z ?_)))))
 refine Qz ?_ -- 0
 refine Qd fun K hK => mv2 Z Z ?_
 refine Qo (g := 16) Z (fun h1 => ?_) (fun h1 => ?_)
 ·try rw [h1]
  try simp only [qB] at h1
  refine Qb Z (Qa Z (Qf Z Z (kc5 hK Z Z Z Z Z ?_)))
  refine Qr Z (fun h2 => ?_) (fun h2 => ?_)
  ·try rw [h2]
   try simp only [qB] at h2
   refine Qd fun K hK => Qa Z (QB (X1 Wa) Z Z (.inr Z) (Qa Z (Zc Z Z (Zc Z Z (mv2 Z Z (kc2 hK Z Z ?_))))))
   refine Qd fun K hK => Qa Z (QB (X1 Wa) Z Z (.inr Z) (Qa Z (Zc Z Z (Zc Z Z (mv2 Z Z (kc2 hK Z Z ?_))))))
   refine Qd fun K hK => mv2 Z Z (QB (Zs) Z Z (.inr Z) (Qa Z (kc1 hK Z ?_)))
   refine Qn (Qh (QG Z ?_))
   (repeat clear hK K); first | (simp [FU, h1, h2]; done) | (simp_all [FU]; done)
  ·try rw [h2]
   try simp only [qB] at h2
   refine Qp (ks4 Z Z Z Z ?_)
   refine Qz ?_ -- 1
   refine Qd fun K hK => mv2 Z Z (Lx Z Z (kc4 hK Z Z Z Z ?_))
   refine Qr Z (fun h3 => ?_) (fun h3 => ?_)
   ·try rw [h3]
    try simp only [qB] at h3
    refine Qz ?_ -- 2
    refine Qd fun K hK => Qa Z (kc1 hK Z ?_)
    refine QW Z (Qd fun K hK => Qa Z (kc1 hK Z ?_))
    refine Qn (Qh (Qh (QG Z ?_)))
    (repeat clear hK K); first | (simp [FU, h1, h2, h3]; done) | (simp_all [FU]; done)
   ·try rw [h3]
    try simp only [qB] at h3
    refine Qp (ks2 Z Z (Qd fun K hK => mv2 Z Z (QB (ZX) Z Z (.inr Z) (Qa Z (kc1 hK Z ?_)))))
    refine Qn (QG Z ?_)
    (repeat clear hK K); first | (simp [FU, h1, h2, h3]; done) | (simp_all [FU]; done)
 ·try rw [h1]
  try simp only [qB] at h1
  refine Y8 Z (Qf Z Z (kc5 hK Z Z Z Z Z ?_))
  refine Zo Z (Qp (ks4 Z Z Z Z ?_))
  refine Qz ?_ -- 1
  refine Qd fun K hK => mv2 Z Z (Lx Z Z (kc4 hK Z Z Z Z ?_))
  refine Qr Z (fun h4 => ?_) (fun h4 => ?_)
  ·try rw [h4]
   try simp only [qB] at h4
   refine Qz ?_ -- 2
   refine Qd fun K hK => Qa Z (kc1 hK Z ?_)
   refine Zo Z (Qp (QM (QZ) (Qd fun K hK => Qa Z (kc1 hK Z ?_))))
   refine Qn (Qh (QG Z ?_))
   (repeat clear hK K); first | (simp [FU, h1, h4]; done) | (simp_all [FU]; done)
  ·try rw [h4]
   try simp only [qB] at h4
   refine Qp (ks2 Z Z (Qd fun K hK => mv2 Z Z (QB (ZX) Z Z (.inr Z) (Qa Z (kc1 hK Z ?_)))))
   refine Qn (QG Z ?_)
   (repeat clear hK K); first | (simp [FU, h1, h4]; done) | (simp_all [FU]; done)
theorem Nu {s : List UInt8} (hl : s.length <= 1048576) : Ok Tryd.prog 43 [.str s] (.bool (FV s)) := by
 refine Ok.ofT ZS Tryd.func43 BO (QaG Z) ?_
 show TW _ _ tf43.body _ _
 refine Qd fun K hK => Qa Z (kc1 hK Z ?_)
 refine Qz ?_ -- 0
 refine Qd fun K hK => Qa Z (QB (X4 Wa) Z Z (.inr Z) (Zm Z (kc2 hK Z Z ?_)))
 refine Qr Z (fun h1 => ?_) (fun h1 => ?_)
 ·try rw [h1]
  try simp only [qB, Qm] at h1
  refine Qd fun K hK => Qa Z (kc1 hK Z ?_)
  refine Qn (Qh (Qe Z ?_))
  first | (simp [FV, h1]; done) | exact (Pu (i := i) Wa (by simp [Gx, h1])).symm | exact (NN (i := i) Wc Wa hI.2).symm
 ·try rw [h1]
  try simp only [qB, Qm] at h1
  refine Qp (ks1 Z ?_)
  refine Qz ?_ -- 1
  refine Qd fun K hK => Qa Z (QB (Xm Wa) Z Z (.inl Z) (QK Z Z (Qa Z (kc3 hK Z Z Z ?_))))
  refine Qy ?_
  refine Zd (ι := Nat) (fun i => ⟨[(11, .sl (YH (Q0 s 46))), (12, .int .i64 (Q0 s 46).length), (13, .int .i64 i)], []⟩) (fun i => i <= (Q0 s 46).length /\ ((Q0 s 46).take i).all Gx = true) (fun i => (Q0 s 46).length - i) 0 ?_ ?_ ?_
  ·exact QQ (l := [11, 12, 13]) (kp3 rfl rfl rfl) Qk (by simp [Qm]) rfl rfl
  ·exact ⟨QaS _, rfl⟩
  intro i hI
  have sl := HO (s := s) (c := 46)
  try dsimp only
  refine Qd fun K hK => ZZ Z Z (kc4 hK Z Z Z Z ?_)
  refine Qz ?_ -- 2
  refine Qr Z (fun h2 => ?_) (fun h2 => ?_)
  ·try rw [h2]
   try simp only [qB, Qm] at h2
   refine Qp (ks3 Z Z Z ?_)
   refine Qz ?_ -- 3
   refine Qy (Qd fun K hK => QH Z Z Z Wa (Xq Wa) Z (Qw Z Z Z (Qa Z (kc4 hK Z Z Z Z ?_))))
   refine Qd fun K hK => Qa Z (QB (X1 (Xt Wa hl)) Z Z (.inr Z) (Qa Z (Zc Z Z (Zc Z Z (mv2 Z Z (kc5 hK Z Z Z Z Z ?_))))))
   refine Qd fun K hK => Qa Z (QB (Y3 (Xt Wa hl)) Z Z (.inr Z) (Qa Z ?_))
   refine Qo (g := 24) Z (fun h3 => ?_) (fun h3 => ?_)
   ·try rw [h3]
    try simp only [qB, Qm] at h3
    refine Qb Z (Qa Z (Qb Z (Zm Z (Qf Z Z (kc4 hK Z Z Z Z ?_)))))
    refine Qr Z (fun h4 => ?_) (fun h4 => ?_)
    ·try rw [h4]
     try simp only [qB, Qm] at h4
     refine Qd fun K hK => Qa Z (kc1 hK Z ?_)
     refine Qn (Qi (Qh (QC (Qi (Qh (Qe Z ?_))))))
     first | (simp [FV, h1, h2, h3, h4]; done) | exact (Pu (i := i) Wa (by simp [Gx, h1, h2, h3, h4])).symm | exact (NN (i := i) Wc Wa hI.2).symm
    ·try rw [h4]
     try simp only [qB, Qm] at h4
     refine Qp (Qj (ks3 Z Z Z (QP fun K hK => Q9 Z Z Wb (Qa Z (hK _ ?_)))))
     refine Ql (i + 1) ?_ ?_ ?_
     ·exact Q3 (kp3 rfl rfl rfl)
     ·exact ⟨Wa, Q4 Wa hI.2 (by simp [Gx, h1, h2, h3, h4])⟩
     ·first | omega | (simp only; omega) | (dsimp only; omega)
   ·try rw [h3]
    try simp only [qB, Qm] at h3
    refine gn2 Z Z (Qf Z Z (kc4 hK Z Z Z Z ?_))
    refine Zo Z (Qp (Qj (ks3 Z Z Z (QP fun K hK => Q9 Z Z Wb (Qa Z (hK _ ?_))))))
    refine Ql (i + 1) ?_ ?_ ?_
    ·exact Q3 (kp3 rfl rfl rfl)
    ·exact ⟨Wa, Q4 Wa hI.2 (by simp [Gx, h1, h2, h3])⟩
    ·first | omega | (simp only; omega) | (dsimp only; omega)
  ·try rw [h2]
   try simp only [qB, Qm] at h2
   refine Q1 (QD (Qu (QE (QM (QZ) (Qd fun K hK => Qa Z (kc1 hK Z ?_))))))
   refine Qn (Qe Z ?_)
   first | (simp [FV, h1, h2]; done) | exact (Pu (i := i) Wa (by simp [Gx, h1, h2])).symm | exact (NN (i := i) Wc Wa hI.2).symm
theorem Z5 {a b c : Int} {p q : List UInt8} (hp : p.length <= 1048576) (hq : q.length <= 1048576) : Ok Tryd.prog 31 [.agg [.int .i64 a, .int .i64 b, .int .i64 c, .str p, .str q]] (.bool (JZ a b c p q)) := by
 refine Ok.ofT ZS Tryd.func31 BC (QaG Z) ?_
 show TW _ _ tf31.body _ _
 refine Qd fun K hK => Zq Z Z Z (Qa Z (kc1 hK Z ?_))
 refine Qd fun K hK => Qg Z Z (Qw Z Z Z (QB (X3) Z Z (.inr Z) (Qa Z ?_)))
 refine Qo (g := 6) Z (fun h1 => ?_) (fun h1 => ?_)
 ·try rw [h1]
  try simp only [qB] at h1
  refine Qb Z (Qg Z Z (Qb Z (Qw Z Z Z (Qb Z (QB (X3) Z Z (.inr Z) (Qf Z Z (Qa Z ?_)))))))
  refine Qo (g := 11) Z (fun h2 => ?_) (fun h2 => ?_)
  ·try rw [h2]
   try simp only [qB] at h2
   refine Qb Z (Qg Z Z (Qb Z (Qw Z Z Z (Qb Z (QB (X3) Z Z (.inr Z) (Qf Z Z (Qa Z ?_)))))))
   refine Qo (g := 16) Z (fun h3 => ?_) (fun h3 => ?_)
   ·try rw [h3]
    try simp only [qB] at h3
    refine Qb Z (Qg Z Z (Qb Z (Qw Z Z Z (Qb Z (Jb Z Z (Qb Z (Qa Z ?_)))))))
    refine Qo (g := 20) Z (fun h4 => ?_) (fun h4 => ?_)
    ·try rw [h4]
     try simp only [qB] at h4
     refine gn3 Z Z Z (Qb Z (Qf Z Z (Qf Z Z (Qa Z (Qb Z (Qg Z Z (Qb Z (Qw Z Z Z (Qb Z ?_)))))))))
     refine Jb Z Z (Qb Z (Qa Z ?_))
     refine Qo (g := 30) Z (fun h5 => ?_) (fun h5 => ?_)
     ·try rw [h5]
      try simp only [qB] at h5
      refine gn3 Z Z Z (Qb Z (Qf Z Z (Qf Z Z (Qa Z (kc1 hK Z ?_)))))
      refine Qn (Qe Z ?_)
      simp [JZ, Ym, YE, h1, h2, h3, h4, h5]
     ·try rw [h5]
      try simp only [qB] at h5
      refine Qb Z (Qg Z Z (Qb Z (Qw Z Z Z (Qb Z (QB (X4 Wa) Z Z (.inr Z) (Qb Z (Qf Z Z (Qf Z Z (Qa Z (kc1 hK Z ?_))))))))))
      refine Qn (Qe Z ?_)
      simp [JZ, Ym, YE, h1, h2, h3, h4, h5]
    ·try rw [h4]
     try simp only [qB] at h4
     refine Qb Z (Qg Z Z (Qb Z (Qw Z Z Z (Qb Z (QB (Nu Wa) Z Z (.inr Z) (Qb Z (Qf Z Z (Qf Z Z (Qa Z ?_)))))))))
     refine Qo (g := 26) Z (fun h6 => ?_) (fun h6 => ?_)
     ·try rw [h6]
      try simp only [qB] at h6
      refine Qb Z (Qg Z Z (Qb Z (Qw Z Z Z (Qb Z (Jb Z Z (Qb Z (Qa Z ?_)))))))
      refine Qo (g := 30) Z (fun h7 => ?_) (fun h7 => ?_)
      ·try rw [h7]
       try simp only [qB] at h7
       refine gn3 Z Z Z (Qb Z (Qf Z Z (Qf Z Z (Qa Z (kc1 hK Z ?_)))))
       refine Qn (Qe Z ?_)
       simp [JZ, Ym, YE, h1, h2, h3, h4, h6, h7]
      ·try rw [h7]
       try simp only [qB] at h7
       refine Qb Z (Qg Z Z (Qb Z (Qw Z Z Z (Qb Z (QB (X4 Wa) Z Z (.inr Z) (Qb Z (Qf Z Z (Qf Z Z (Qa Z (kc1 hK Z ?_))))))))))
       refine Qn (Qe Z ?_)
       simp [JZ, Ym, YE, h1, h2, h3, h4, h6, h7]
     ·try rw [h6]
      try simp only [qB] at h6
      refine gn4 Z Z Z Z (Qq Z (Qq Z (Qq Z (Y8 Z (Qf Z Z (Qa Z (kc1 hK Z ?_)))))))
      refine Qn (Qe Z ?_)
      simp [JZ, Ym, YE, h1, h2, h3, h4, h6]
   ·try rw [h3]
    try simp only [qB] at h3
    refine gn4 Z Z Z Z (Qq Z (Qq Z (Qq Z (Y8 Z (Qf Z Z (Qa Z (gn2 Z Z ?_)))))))
    refine gn2 Z Z (Qq Z (Qq Z (Qq Z (Y8 Z (Qf Z Z (Qa Z (kc1 hK Z ?_)))))))
    refine Qn (Qe Z ?_)
    simp [JZ, Ym, YE, h1, h2, h3]
  ·try rw [h2]
   try simp only [qB] at h2
   refine gn3 Z Z Z (Qf Z Z (Qa Z (gn4 Z Z Z Z (Qq Z (Qq Z (Qq Z ?_))))))
   refine Y8 Z (Qf Z Z (Qa Z (gn4 Z Z Z Z (Qq Z (Qq Z (Qq Z (Y8 Z (Qf Z Z ?_))))))))
   refine Qa Z (kc1 hK Z ?_)
   refine Qn (Qe Z ?_)
   simp [JZ, Ym, YE, h1, h2]
 ·try rw [h1]
  try simp only [qB] at h1
  refine gn3 Z Z Z (Qf Z Z (Qa Z (gn3 Z Z Z (Qf Z Z (Qa Z (gn2 Z Z ?_))))))
  refine gn2 Z Z (Qq Z (Qq Z (Qq Z (Y8 Z (Qf Z Z (Qa Z (gn4 Z Z Z Z ?_)))))))
  refine Qq Z (Qq Z (Qq Z (Y8 Z (Qf Z Z (Qa Z (kc1 hK Z ?_))))))
  refine Qn (Qe Z ?_)
  simp [JZ, Ym, YE, h1]
theorem Y2 {a b c : Int} {p q : List UInt8} (hp : p.length <= 1048576) (hq : q.length <= 1048576) {a' b' c' : Int} {p' q' : List UInt8} (hp' : p'.length <= 1048576) (hq' : q'.length <= 1048576) : Ok Tryd.prog 32 [.agg [.int .i64 a, .int .i64 b, .int .i64 c, .str p, .str q], .agg [.int .i64 a', .int .i64 b', .int .i64 c', .str p', .str q']] (.int .i64 (KI a b c p q a' b' c' p' q')) := by
 refine Ok.ofT ZS Tryd.func32 BD (QaG Z) ?_
 show TW _ _ tf32.body _ _
 refine Qd fun K hK => Zq Z Z Z (Zq Z Z Z (Qa Z (kc2 hK Z Z ?_)))
 refine Qz ?_ -- 0
 refine Qd fun K hK => QV (ds0 := [13, 12, 11, 10, 9, 8, 7, 6, 5, 4, 3, 2, 1, 0]) (cs := [_, _, _, _, _]) Z Z Z Z Z Z (Q2 (ds0 := [12, 11, 10, 9, 8, 7, 6, 5, 4, 3, 2, 1, 0]) (Z5 Wa Wa) Z Z (.inr Z) Z Z (Zm Z (Qa Z ?_)))
 refine Qo (g := 13) Z (fun h1 => ?_) (fun h1 => ?_)
 ·try rw [h1]
  try simp only [qB, Qm] at h1
  refine gn3 Z Z Z (Qf Z Z (Qa Z (gn4 Z Z Z Z (Y8 Z (Qf Z Z (kc3 hK Z Z Z ?_))))))
  refine QW Z (Qd fun K hK => Qa Z (kc1 hK Z ?_))
  refine Qn (Qh (QG Z ?_))
  first | (simp [KI, h1]; done) | (exact (Ho Wc Wc Wc).symm) | (exact Jr Wc Wc Wc) | (exact (Xn Wc Wc Wc Wc Wc).symm) | (exact (Xo Wc Wc Wc Wc Wc).symm) | (rw [hI.2.2, Z7 Wa Wa Wc]) | (rw [hI.2.2, Z6 Wa Wa Wa]; simp [Qm])
 ·try rw [h1]
  try simp only [qB, Qm] at h1
  refine Qb Z (QV (ds0 := [9, 8, 7, 6, 5, 4, 3, 2, 1, 0]) (cs := [_, _, _, _, _]) Z Z Z Z Z Z (Qb Z (Q2 (ds0 := [8, 7, 6, 5, 4, 3, 2, 1, 0]) (Z5 Wa Wa) Z Z (.inr Z) Z Z (Qb Z (Zm Z (Qf Z Z (Qa Z ?_)))))))
  refine Qo (g := 18) Z (fun h2 => ?_) (fun h2 => ?_)
  ·try rw [h2]
   try simp only [qB, Qm] at h2
   refine gn4 Z Z Z Z (Y8 Z (Qf Z Z (kc3 hK Z Z Z ?_)))
   refine QW Z (Qd fun K hK => Qa Z (kc1 hK Z ?_))
   refine Qn (Qh (QG Z ?_))
   first | (simp [KI, h1, h2]; done) | (exact (Ho Wc Wc Wc).symm) | (exact Jr Wc Wc Wc) | (exact (Xn Wc Wc Wc Wc Wc).symm) | (exact (Xo Wc Wc Wc Wc Wc).symm) | (rw [hI.2.2, Z7 Wa Wa Wc]) | (rw [hI.2.2, Z6 Wa Wa Wa]; simp [Qm])
  ·try rw [h2]
   try simp only [qB, Qm] at h2
   refine Qb Z (QV (ds0 := [4, 1, 0]) (cs := [_, _, _, _, _]) Z Z Z Z Z Z (Qb Z (Q2 (ds0 := [1, 0]) (KF) Z Z (.inl Z) Z Z (Qb Z (QV (ds0 := [2, 1, 0]) (cs := [_, _, _, _, _]) Z Z Z Z Z Z (Qb Z (Q2 (ds0 := [1, 0]) (KF) Z Z (.inl Z) Z Z (Qb Z (FZ Z Z Z (Qf Z Z (kc3 hK Z Z Z ?_)))))))))))
   refine Qr Z (fun h3 => ?_) (fun h3 => ?_)
   ·try rw [h3]
    try simp only [qB, Qm] at h3
    refine Qd fun K hK => Qa Z (kc1 hK Z ?_)
    refine Qn (Qh (QG Z ?_))
    first | (simp [KI, h1, h2, h3]; done) | (exact (Ho Wc Wc Wc).symm) | (exact Jr Wc Wc Wc) | (exact (Xn Wc Wc Wc Wc Wc).symm) | (exact (Xo Wc Wc Wc Wc Wc).symm) | (rw [hI.2.2, Z7 Wa Wa Wc]) | (rw [hI.2.2, Z6 Wa Wa Wa]; simp [Qm])
   ·try rw [h3]
    try simp only [qB, Qm] at h3
    refine Qp (ks2 Z Z ?_)
    refine Qz ?_ -- 1
    refine Qd fun K hK => Qg Z Z (QL (ds0 := [13, 2, 1, 0]) Z Z Z Z Z (Qg Z Z (QL (ds0 := [13, 2, 1, 0]) Z Z Z Z Z (Q2 (ds0 := [2, 1, 0]) (Zs) Z Z (.inr Z) Z Z (Qg Z Z (QL (ds0 := [8, 2, 1, 0]) Z Z Z Z Z (Qg Z Z (QL (ds0 := [8, 2, 1, 0]) Z Z Z Z Z (Q2 (ds0 := [2, 1, 0]) (Zs) Z Z (.inr Z) Z Z (Qg Z Z ?_))))))))))
    refine QL (ds0 := [3, 2, 1, 0]) Z Z Z Z Z (Qg Z Z (QL (ds0 := [3, 2, 1, 0]) Z Z Z Z Z (Q2 (ds0 := [2, 1, 0]) (Zs) Z Z (.inr Z) Z Z (Zi Z Z (Q2 (ds0 := [0]) (Gf (l := [ZD a a', ZD b b', ZD c c']) Wd) Z Z (.inr Z) Z Z (Qa Z (kc3 hK Z Z Z ?_)))))))
    refine Qd fun K hK => Qa Z (Z3 Z Z (kc4 hK Z Z Z Z ?_))
    refine Qr Z (fun h4 => ?_) (fun h4 => ?_)
    ·try rw [h4]
     try simp only [qB, Qm] at h4
     refine Qd fun K hK => mv2 Z Z (kc1 hK Z ?_)
     refine Qn (Qh (QG Z ?_))
     first | (simp [KI, h1, h2, h3, h4]; done) | (exact (Ho Wc Wc Wc).symm) | (exact Jr Wc Wc Wc) | (exact (Xn Wc Wc Wc Wc Wc).symm) | (exact (Xo Wc Wc Wc Wc Wc).symm) | (rw [hI.2.2, Z7 Wa Wa Wc]) | (rw [hI.2.2, Z6 Wa Wa Wa]; simp [Qm])
    ·try rw [h4]
     try simp only [qB, Qm] at h4
     refine Qp (ks2 Z Z ?_)
     refine Qz ?_ -- 2
     refine Qd fun K hK => Qg Z Z (Qw Z Z Z (Jb Z Z (kc3 hK Z Z Z ?_)))
     refine Qr Z (fun h5 => ?_) (fun h5 => ?_)
     ·try rw [h5]
      try simp only [qB, Qm] at h5
      refine Qd fun K hK => Qa Z (kc1 hK Z ?_)
      refine Qn (Qh (QG Z ?_))
      first | (simp [KI, h1, h2, h3, h4, h5]; done) | (exact (Ho Wc Wc Wc).symm) | (exact Jr Wc Wc Wc) | (exact (Xn Wc Wc Wc Wc Wc).symm) | (exact (Xo Wc Wc Wc Wc Wc).symm) | (rw [hI.2.2, Z7 Wa Wa Wc]) | (rw [hI.2.2, Z6 Wa Wa Wa]; simp [Qm])
     ·try rw [h5]
      try simp only [qB, Qm] at h5
      refine Qp (ks2 Z Z ?_)
      refine Qz ?_ -- 3
      refine Qd fun K hK => Qg Z Z (Qw Z Z Z (Jb Z Z (kc3 hK Z Z Z ?_)))
      refine Qr Z (fun h6 => ?_) (fun h6 => ?_)
      ·try rw [h6]
       try simp only [qB, Qm] at h6
       refine Qd fun K hK => Qa Z (kc1 hK Z ?_)
       refine Qn (Qh (QG Z ?_))
       first | (simp [KI, h1, h2, h3, h4, h5, h6]; done) | (exact (Ho Wc Wc Wc).symm) | (exact Jr Wc Wc Wc) | (exact (Xn Wc Wc Wc Wc Wc).symm) | (exact (Xo Wc Wc Wc Wc Wc).symm) | (rw [hI.2.2, Z7 Wa Wa Wc]) | (rw [hI.2.2, Z6 Wa Wa Wa]; simp [Qm])
      ·try rw [h6]
       try simp only [qB, Qm] at h6
       refine Qp (ks2 Z Z (Qd fun K hK => Qg Z Z (QL (ds0 := [5, 1]) Z Z Z Z Z (Q2 (ds0 := [1]) (Xm Wa) Z Z (.inl Z) Z Z (Qg Z Z (QL (ds0 := [2, 0]) Z Z Z Z Z (Q2 (ds0 := [0]) (Xm Wa) Z Z (.inl Z) Z Z (mv2 Z Z (kc2 hK Z Z ?_)))))))))
       refine Qz ?_ -- 4
       refine Qd fun K hK => Qa Z (kc3 hK Z Z Z ?_)
       refine Qy ?_
       refine Zd (ι := Nat) (fun i => ⟨[(6, .sl (YH (Q0 p 46))), (7, .sl (YH (Q0 p' 46))), (8, .int .i64 i)], []⟩) (fun i => i <= (Q0 p 46).length /\ i <= (Q0 p' 46).length /\ KI a b c p q a' b' c' p' q' = P5 ((Q0 p 46).drop i) ((Q0 p' 46).drop i)) (fun i => (Q0 p 46).length - i) 0 ?_ ?_ ?_
       ·exact QQ (l := [6, 7, 8]) (kp3 rfl rfl rfl) Qk rfl rfl rfl
       ·exact ⟨QaS _, QaS _, LM Wc Wc Wc Wc Wc Wc⟩
       intro i hI
       have sl := HO (s := p) (c := 46)
       try dsimp only
       refine Qz ?_ -- 5
       refine Qd fun K hK => mv2 Z Z (QK Z Z (ZZ Z Z (Qa Z ?_)))
       refine Qo (g := 61) Z (fun h7 => ?_) (fun h7 => ?_)
       ·try rw [h7]
        try simp only [qB, Qm] at h7
        refine Qb Z (Qa Z (Qb Z (Qa Z (Qb Z (QK Z Z (Qb Z (ZZ Z Z (Qf Z Z (kc4 hK Z Z Z Z ?_)))))))))
        refine Qr Z (fun h8 => ?_) (fun h8 => ?_)
        ·try rw [h8]
         try simp only [qB, Qm] at h8
         refine Qp (ks3 Z Z Z ?_)
         refine Qz ?_ -- 6
         refine Qy (Qd fun K hK => mv2 Z Z (QH Z Z Z Wa (Xq Wa) Z (QL (ds0 := [1, 0]) Z Z Z Z Z (mv2 Z Z (QH Z Z Z Wa (Xq Wa) Z (QL (ds0 := [1, 0]) Z Z Z Z Z (Q2 (ds0 := [0]) (Nv (Xt Wa hp) (Xt Wa hp')) Z Z (.inr Z) Z Z (Qa Z ?_))))))))
         refine kc4 hK Z Z Z Z ?_
         refine Qd fun K hK => Qa Z (Z3 Z Z (kc5 hK Z Z Z Z Z ?_))
         refine Qr Z (fun h9 => ?_) (fun h9 => ?_)
         ·try rw [h9]
          try simp only [qB, Qm] at h9
          refine Qd fun K hK => mv2 Z Z (kc1 hK Z ?_)
          refine Qn (Qi (Qh (QC (Qi (Qh (QG Z ?_))))))
          first | (simp [KI, h1, h2, h3, h4, h5, h6, h7, h8, h9]; done) | (exact (Ho Wc Wc Wc).symm) | (exact Jr Wc Wc Wc) | (exact (Xn Wc Wc Wc Wc Wc).symm) | (exact (Xo Wc Wc Wc Wc Wc).symm) | (rw [hI.2.2, Z7 Wa Wa Wc]) | (rw [hI.2.2, Z6 Wa Wa Wa]; simp [Qm])
         ·try rw [h9]
          try simp only [qB, Qm] at h9
          refine Qp (Qj (ks3 Z Z Z (QP fun K hK => Qa Z (Q9 Z Z Wb (Qa Z (hK _ ?_))))))
          refine Ql (i + 1) ?_ ?_ ?_
          ·exact Q3 (kp3 rfl rfl rfl)
          ·exact ⟨Wa, Wa, by rw [hI.2.2, MC Wa Wa Wc]⟩
          ·first | omega | (simp only; omega) | (dsimp only; omega)
        ·try rw [h8]
         try simp only [qB, Qm] at h8
         refine Q1 (QD (Qu (QE (ks2 Z Z (Qd fun K hK => Qa Z (QK Z Z (Qa Z (QK Z Z (QB (Zs) Z Z (.inr Z) (Qa Z ?_))))))))))
         refine kc1 hK Z ?_
         refine Qn (QG Z ?_)
         first | (simp [KI, h1, h2, h3, h4, h5, h6, h7, h8]; done) | (exact (Ho Wc Wc Wc).symm) | (exact Jr Wc Wc Wc) | (exact (Xn Wc Wc Wc Wc Wc).symm) | (exact (Xo Wc Wc Wc Wc Wc).symm) | (rw [hI.2.2, Z7 Wa Wa Wc]) | (rw [hI.2.2, Z6 Wa Wa Wa]; simp [Qm])
       ·try rw [h7]
        try simp only [qB, Qm] at h7
        refine gn4 Z Z Z Z (Qf Z Z (kc4 hK Z Z Z Z ?_))
        refine Zo Z (Q1 (QD (Qu (QE (ks2 Z Z (Qd fun K hK => Qa Z (QK Z Z (Qa Z (QK Z Z (QB (Zs) Z Z (.inr Z) ?_))))))))))
        refine Qa Z (kc1 hK Z ?_)
        refine Qn (QG Z ?_)
        first | (simp [KI, h1, h2, h3, h4, h5, h6, h7]; done) | (exact (Ho Wc Wc Wc).symm) | (exact Jr Wc Wc Wc) | (exact (Xn Wc Wc Wc Wc Wc).symm) | (exact (Xo Wc Wc Wc Wc Wc).symm) | (rw [hI.2.2, Z7 Wa Wa Wc]) | (rw [hI.2.2, Z6 Wa Wa Wa]; simp [Qm])
theorem JR {e a b c : Int} {p q : List UInt8} {f : Bool} (hp : p.length <= 1048576) (hq : q.length <= 1048576) : Ok Tryd.prog 87 [.agg [.int .i64 e, .int .i64 a, .int .i64 b, .int .i64 c, .str p, .str q, .bool f]] (.bool (Ys e a b c p q f)) := by
 refine Ok.ofT ZS Tryd.func87 QaA (QaG Z) ?_
 show TW _ _ tf87.body _ _
 refine Qd fun K hK => Zq Z Z Z (Qa Z (kc1 hK Z ?_))
 refine Qz ?_ -- 0
 refine Qd fun K hK => Qg Z Z (Qw Z Z Z (Xy Z Z (Qa Z ?_)))
 refine Qo (g := 6) Z (fun h1 => ?_) (fun h1 => ?_)
 ·try rw [h1]
  try simp only [qB] at h1
  refine gn3 Z Z Z (Qf Z Z (kc2 hK Z Z ?_))
  refine QW Z (Qd fun K hK => Qg Z Z (QA (cs := [_, _, _, _, _]) Z Z Z Z (Zy Z Z (FZ Z Z Z (Qa Z ?_)))))
  refine Qo (g := 15) Z (fun h2 => ?_) (fun h2 => ?_)
  ·try rw [h2]
   try simp only [qB] at h2
   refine Qb Z (Qg Z Z (Qb Z (Qw Z Z Z (Qb Z (Zm Z (Qf Z Z (Qa Z (kc1 hK Z ?_))))))))
   refine Qn (Qh (Qe Z ?_))
   (repeat clear hK K); first | (simp_all [Ys]; done) | (simp_all [Ys]; omega)
  ·try rw [h2]
   try simp only [qB] at h2
   refine gn3 Z Z Z (Qf Z Z (Qa Z (kc1 hK Z ?_)))
   refine Qn (Qh (Qe Z ?_))
   (repeat clear hK K); first | (simp_all [Ys]; done) | (simp_all [Ys]; omega)
 ·try rw [h1]
  try simp only [qB] at h1
  refine Qb Z (Qg Z Z (Qb Z (Qw Z Z Z (Qb Z (Xy Z Z (Qf Z Z (kc2 hK Z Z ?_)))))))
  refine Qr Z (fun h3 => ?_) (fun h3 => ?_)
  ·try rw [h3]
   try simp only [qB] at h3
   refine Qd fun K hK => Qg Z Z (QA (cs := [_, _, _, _, _]) Z Z Z Z (Zy Z Z (FZ Z Z Z (Qa Z ?_))))
   refine Qo (g := 15) Z (fun h4 => ?_) (fun h4 => ?_)
   ·try rw [h4]
    try simp only [qB] at h4
    refine Qb Z (Qg Z Z (Qb Z (Qw Z Z Z (Qb Z (Zm Z (Qf Z Z (Qa Z (kc1 hK Z ?_))))))))
    refine Qn (Qh (Qe Z ?_))
    (repeat clear hK K); first | (simp_all [Ys]; done) | (simp_all [Ys]; omega)
   ·try rw [h4]
    try simp only [qB] at h4
    refine gn3 Z Z Z (Qf Z Z (Qa Z (kc1 hK Z ?_)))
    refine Qn (Qh (Qe Z ?_))
    (repeat clear hK K); first | (simp_all [Ys]; done) | (simp_all [Ys]; omega)
  ·try rw [h3]
   try simp only [qB] at h3
   refine Qd fun K hK => Qg Z Z (Qw Z Z Z (Z3 Z Z (kc2 hK Z Z ?_)))
   refine Qr Z (fun h5 => ?_) (fun h5 => ?_)
   ·try rw [h5]
    try simp only [qB] at h5
    refine Qd fun K hK => Qa Z (kc1 hK Z ?_)
    refine Qn (Qh (Qe Z ?_))
    (repeat clear hK K); first | (simp_all [Ys]; done) | (simp_all [Ys]; omega)
   ·try rw [h5]
    try simp only [qB] at h5
    refine Qp (ks1 Z (Qd fun K hK => Qg Z Z (QA (cs := [_, _, _, _, _]) Z Z Z Z (QB (Z5 Wa Wa) Z Z (.inr Z) (Qa Z ?_)))))
    refine Qo (g := 26) Z (fun h6 => ?_) (fun h6 => ?_)
    ·try rw [h6]
     try simp only [qB] at h6
     refine Qb Z (Qg Z Z (Qb Z (Qg Z Z (Qb Z (Qw Z Z Z (Qb Z (Jb Z Z (Qf Z Z (Qa Z (kc1 hK Z ?_))))))))))
     refine Qn (Qe Z ?_)
     (repeat clear hK K); first | (simp_all [Ys]; done) | (simp_all [Ys]; omega)
    ·try rw [h6]
     try simp only [qB] at h6
     refine gn4 Z Z Z Z (Qf Z Z (Qa Z (kc1 hK Z ?_)))
     refine Qn (Qe Z ?_)
     (repeat clear hK K); first | (simp_all [Ys]; done) | (simp_all [Ys]; omega)
theorem _root_.Wk {p : Prop} (h : p := by first | (left; assumption) | (right; assumption)) : p := h
theorem Ha {e a b c : Int} {p q : List UInt8} {f : Bool} (hp : p.length <= 1048576) (hq : q.length <= 1048576) {e' a' b' c' : Int} {p' q' : List UInt8} {f' : Bool} (hp' : p'.length <= 1048576) (hq' : q'.length <= 1048576) : Ok Tryd.prog 77 [.agg [.int .i64 e, .int .i64 a, .int .i64 b, .int .i64 c, .str p, .str q, .bool f], .agg [.int .i64 e', .int .i64 a', .int .i64 b', .int .i64 c', .str p', .str q', .bool f']] (.int .i64 (Z9 e a b c p q f e' a' b' c' p' q' f')) := by
 refine Ok.ofT ZS Tryd.func77 Qaq (QaG Z) ?_
 show TW _ _ tf77.body _ _
 refine Qd fun K hK => Zq Z Z Z (Zq Z Z Z (Qa Z (kc2 hK Z Z ?_)))
 refine Qz ?_ -- 0
 refine Qd fun K hK => QA (cs := [_, _, _, _, _, _, _]) Z Z Z Z (QB (JR Wa Wa) Z Z (.inr Z) (Zm Z (Qa Z ?_)))
 refine Qo (g := 9) Z (fun h1 => ?_) (fun h1 => ?_)
 ·try rw [h1]
  try simp only [qB] at h1
  refine gn3 Z Z Z (Qf Z Z (kc3 hK Z Z Z ?_))
  refine QW Z (Qd fun K hK => Qa Z (kc1 hK Z ?_))
  refine Qn (Qh (QG Z ?_))
  (repeat clear hK K); first | (simp [Z9, h1]; done) | exact (XR Wc Wc Wk).symm | (simp_all [Z9]; done)
 ·try rw [h1]
  try simp only [qB] at h1
  refine Qb Z (QA (cs := [_, _, _, _, _, _, _]) Z Z Z Z (Qb Z (QB (JR Wa Wa) Z Z (.inr Z) (Qb Z (Zm Z (Qf Z Z (kc3 hK Z Z Z ?_)))))))
  refine Qr Z (fun h2 => ?_) (fun h2 => ?_)
  ·try rw [h2]
   try simp only [qB] at h2
   refine Qd fun K hK => Qa Z (kc1 hK Z ?_)
   refine Qn (Qh (QG Z ?_))
   (repeat clear hK K); first | (simp [Z9, h1, h2]; done) | exact (XR Wc Wc Wk).symm | (simp_all [Z9]; done)
  ·try rw [h2]
   try simp only [qB] at h2
   refine Qd fun K hK => Qg Z Z (Qw Z Z Z (Z3 Z Z (Qa Z ?_)))
   refine Qo (g := 17) Z (fun h3 => ?_) (fun h3 => ?_)
   ·try rw [h3]
    try simp only [qB] at h3
    refine gn3 Z Z Z (Qf Z Z (kc3 hK Z Z Z ?_))
    refine QW Z (Qd fun K hK => Qg Z Z (Qw Z Z Z (Qg Z Z (Qw Z Z Z (QB (Zs) Z Z (.inr Z) (Qa Z (kc1 hK Z ?_)))))))
    refine Qn (Qh (QG Z ?_))
    (repeat clear hK K); first | (simp [Z9, h1, h2, h3]; done) | exact (XR Wc Wc Wk).symm | (simp_all [Z9]; done)
   ·try rw [h3]
    try simp only [qB] at h3
    refine Qb Z (Qg Z Z (Qb Z (Qw Z Z Z (Qb Z (Z3 Z Z (Qf Z Z (kc3 hK Z Z Z ?_)))))))
    refine Qr Z (fun h4 => ?_) (fun h4 => ?_)
    ·try rw [h4]
     try simp only [qB] at h4
     refine Qd fun K hK => Qg Z Z (Qw Z Z Z (Qg Z Z (Qw Z Z Z (QB (Zs) Z Z (.inr Z) (Qa Z (kc1 hK Z ?_))))))
     refine Qn (Qh (QG Z ?_))
     (repeat clear hK K); first | (simp [Z9, h1, h2, h3, h4]; done) | exact (XR Wc Wc Wk).symm | (simp_all [Z9]; done)
    ·try rw [h4]
     try simp only [qB] at h4
     refine Qd fun K hK => Qg Z Z (QA (cs := [_, _, _, _, _]) Z Z Z Z (Qg Z Z (QA (cs := [_, _, _, _, _]) Z Z Z Z (QB (Y2 Wa Wa Wa Wa) Z Z (.inr Z) (Qa Z (kc3 hK Z Z Z ?_))))))
     refine Qd fun K hK => Qa Z (Z3 Z Z (kc4 hK Z Z Z Z ?_))
     refine Qr Z (fun h5 => ?_) (fun h5 => ?_)
     ·try rw [h5]
      try simp only [qB] at h5
      refine Qd fun K hK => mv2 Z Z (kc1 hK Z ?_)
      refine Qn (Qh (QG Z ?_))
      (repeat clear hK K); first | (simp [Z9, h1, h2, h3, h4, h5]; done) | exact (XR Wc Wc Wk).symm | (simp_all [Z9]; done)
     ·try rw [h5]
      try simp only [qB] at h5
      refine Qd fun K hK => Qg Z Z (Qw Z Z Z (Qg Z Z (Qw Z Z Z (S9 Z Z (kc2 hK Z Z ?_)))))
      refine Qr Z (fun h6 => ?_) (fun h6 => ?_)
      ·try rw [h6]
       try simp only [qB] at h6
       refine Qd fun K hK => Qa Z (kc1 hK Z ?_)
       refine Qn (Qh (QG Z ?_))
       (repeat clear hK K); first | (simp [Z9, h1, h2, h3, h4, h5, h6]; done) | exact (XR Wc Wc Wk).symm | (simp_all [Z9]; done)
      ·try rw [h6]
       try simp only [qB] at h6
       refine Qd fun K hK => Qg Z Z (Qw Z Z Z (kc1 hK Z ?_))
       refine Qr Z (fun h7 => ?_) (fun h7 => ?_)
       ·try rw [h7]
        try simp only [qB] at h7
        refine Qd fun K hK => Qa Z (kc1 hK Z ?_)
        refine Qn (Qh (QG Z ?_))
        (repeat clear hK K); first | (simp [Z9, h1, h2, h3, h4, h5, h6, h7]; done) | exact (XR Wc Wc Wk).symm | (simp_all [Z9]; done)
       ·try rw [h7]
        try simp only [qB] at h7
        refine Qp (QM (QZ) (Qd fun K hK => Qa Z (kc1 hK Z ?_)))
        refine Qn (QG Z ?_)
        (repeat clear hK K); first | (simp [Z9, h1, h2, h3, h4, h5, h6, h7]; done) | exact (XR Wc Wc Wk).symm | (simp_all [Z9]; done)
theorem GZ {e a b c : Int} {p q : List UInt8} {f : Bool} (hp : p.length <= 1048576) (hq : q.length <= 1048576) {a' b' c' : Int} {p' q' : List UInt8} (hp' : p'.length <= 1048576) (hq' : q'.length <= 1048576) : Ok Tryd.prog 78 [.agg [.int .i64 e, .int .i64 a, .int .i64 b, .int .i64 c, .str p, .str q, .bool f], .agg [.int .i64 a', .int .i64 b', .int .i64 c', .str p', .str q']] (.bool (ZV e a b c p q f a' b' c' p' q')) := by
 refine Ok.ofT ZS Tryd.func78 Qar (QaG Z) ?_
 show TW _ _ tf78.body _ _
 refine Qd fun K hK => Zq Z Z Z (Zq Z Z Z (Qa Z (kc2 hK Z Z ?_)))
 refine Qz ?_ -- 0
 refine Qd fun K hK => QA (cs := [_, _, _, _, _, _, _]) Z Z Z Z (QB (JR Wa Wa) Z Z (.inr Z) (Zm Z (Qa Z ?_)))
 refine Qo (g := 9) Z (fun h1 => ?_) (fun h1 => ?_)
 ·try rw [h1]
  try simp only [qB] at h1
  refine gn3 Z Z Z (Qf Z Z (kc3 hK Z Z Z ?_))
  refine QW Z (Qd fun K hK => Qa Z (kc1 hK Z ?_))
  refine Qn (Qh (Qe Z ?_))
  (repeat clear hK K); first | (simp [ZV, h1]; done) | (simp_all [ZV]; done)
 ·try rw [h1]
  try simp only [qB] at h1
  refine Qb Z (QA (cs := [_, _, _, _, _]) Z Z Z Z (Qb Z (QB (Z5 Wa Wa) Z Z (.inr Z) (Qb Z (Zm Z (Qf Z Z (kc3 hK Z Z Z ?_)))))))
  refine Qr Z (fun h2 => ?_) (fun h2 => ?_)
  ·try rw [h2]
   try simp only [qB] at h2
   refine Qd fun K hK => Qa Z (kc1 hK Z ?_)
   refine Qn (Qh (Qe Z ?_))
   (repeat clear hK K); first | (simp [ZV, h1, h2]; done) | (simp_all [ZV]; done)
  ·try rw [h2]
   try simp only [qB] at h2
   refine Qd fun K hK => Qg Z Z (Qw Z Z Z (Z3 Z Z (kc3 hK Z Z Z ?_)))
   refine Qr Z (fun h3 => ?_) (fun h3 => ?_)
   ·try rw [h3]
    try simp only [qB] at h3
    refine Qd fun K hK => Qg Z Z (Qw Z Z Z (ZZ Z Z (Qa Z (kc1 hK Z ?_))))
    refine Qn (Qh (Qe Z ?_))
    (repeat clear hK K); first | (simp [ZV, h1, h2, h3]; done) | (simp_all [ZV]; done)
   ·try rw [h3]
    try simp only [qB] at h3
    refine Qp (ks2 Z Z (Qd fun K hK => Qg Z Z (QA (cs := [_, _, _, _, _]) Z Z Z Z (QA (cs := [_, _, _, _, _]) Z Z Z Z (QB (Y2 Wa Wa Wa Wa) Z Z (.inr Z) (Qa Z (kc2 hK Z Z ?_)))))))
    refine Qd fun K hK => Qa Z (ZZ Z Z (Qa Z ?_))
    refine Qo (g := 26) Z (fun h4 => ?_) (fun h4 => ?_)
    ·try rw [h4]
     try simp only [qB] at h4
     refine gn3 Z Z Z (Qq Z (Qq Z (Qq Z (Y8 Z (Qf Z Z (Qa Z (kc1 hK Z ?_)))))))
     refine Qn (Qe Z ?_)
     (repeat clear hK K); first | (simp [ZV, h1, h2, h3, h4]; done) | (simp_all [ZV]; done)
    ·try rw [h4]
     try simp only [qB] at h4
     refine Qb Z (Qa Z (Qb Z (Xy Z Z (Qb Z (Qa Z ?_)))))
     refine Qo (g := 29) Z (fun h5 => ?_) (fun h5 => ?_)
     ·try rw [h5]
      try simp only [qB] at h5
      refine Qb Z (Qg Z Z (Qb Z (Qw Z Z Z (Qb Z (Zm Z (Qb Z (Qf Z Z (Qf Z Z (Qa Z (kc1 hK Z ?_))))))))))
      refine Qn (Qe Z ?_)
      (repeat clear hK K); first | (simp [ZV, h1, h2, h3, h4, h5]; done) | (simp_all [ZV]; done)
     ·try rw [h5]
      try simp only [qB] at h5
      refine gn3 Z Z Z (Qb Z (Qf Z Z (Qf Z Z (Qa Z (kc1 hK Z ?_)))))
      refine Qn (Qe Z ?_)
      (repeat clear hK K); first | (simp [ZV, h1, h2, h3, h4, h5]; done) | (simp_all [ZV]; done)
theorem Hb {e a b c : Int} {p q : List UInt8} {f : Bool} (hp : p.length <= 1048576) (hq : q.length <= 1048576) {e' a' b' c' : Int} {p' q' : List UInt8} {f' : Bool} (hp' : p'.length <= 1048576) (hq' : q'.length <= 1048576) : Ok Tryd.prog 76 [.agg [.int .i64 e, .int .i64 a, .int .i64 b, .int .i64 c, .str p, .str q, .bool f, .int .i64 e', .int .i64 a', .int .i64 b', .int .i64 c', .str p', .str q', .bool f']] (.bool (J0 e a b c p q f e' a' b' c' p' q' f')) := by
 refine Ok.ofT ZS Tryd.func76 Qap (QaG Z) ?_
 show TW _ _ tf76.body _ _
 refine Qd fun K hK => Zq Z Z Z (Qa Z (kc1 hK Z ?_))
 refine Qd fun K hK => Qg Z Z (QA (cs := [_, _, _, _, _, _, _]) Z Z Z Z (QB (JR Wa Wa) Z Z (.inr Z) (Qa Z ?_)))
 refine Qo (g := 6) Z (fun h1 => ?_) (fun h1 => ?_)
 ·try rw [h1]
  try simp only [qB] at h1
  refine Qb Z (Qg Z Z (Qb Z (QA (cs := [_, _, _, _, _, _, _]) Z Z Z Z (Qb Z (QB (JR Wa Wa) Z Z (.inr Z) (Qf Z Z (Qa Z ?_)))))))
  refine Qo (g := 11) Z (fun h2 => ?_) (fun h2 => ?_)
  ·try rw [h2]
   try simp only [qB] at h2
   refine Qb Z (Qg Z Z (Qb Z (QA (cs := [_, _, _, _, _, _, _]) Z Z Z Z (Qb Z (Qg Z Z (Qb Z (QA (cs := [_, _, _, _, _, _, _]) Z Z Z Z (Qb Z (QB (Ha Wa Wa Wa Wa) Z Z (.inr Z) (Qb Z (ZZ Z Z ?_)))))))))))
   refine Qf Z Z (Qa Z (kc1 hK Z ?_))
   refine Qn (Qe Z ?_)
   (repeat clear hK K); first | (simp [J0, h1, h2]; done) | (simp_all [J0]; done)
  ·try rw [h2]
   try simp only [qB] at h2
   refine gn4 Z Z Z Z (gn2 Z Z (Qf Z Z (Qa Z (kc1 hK Z ?_))))
   refine Qn (Qe Z ?_)
   (repeat clear hK K); first | (simp [J0, h1, h2]; done) | (simp_all [J0]; done)
 ·try rw [h1]
  try simp only [qB] at h1
  refine gn3 Z Z Z (Qf Z Z (Qa Z (gn4 Z Z Z Z (gn2 Z Z (Qf Z Z ?_)))))
  refine Qa Z (kc1 hK Z ?_)
  refine Qn (Qe Z ?_)
  (repeat clear hK K); first | (simp [J0, h1]; done) | (simp_all [J0]; done)
theorem Pb {e a b c : Int} {p q : List UInt8} {f : Bool} (hp : p.length <= 1048576) (hq : q.length <= 1048576) {e' a' b' c' : Int} {p' q' : List UInt8} {f' : Bool} (hp' : p'.length <= 1048576) (hq' : q'.length <= 1048576) {x y z : Int} {r s : List UInt8} (hr : r.length <= 1048576) (hs : s.length <= 1048576) : Ok Tryd.prog 68 [.agg [.int .i64 e, .int .i64 a, .int .i64 b, .int .i64 c, .str p, .str q, .bool f, .int .i64 e', .int .i64 a', .int .i64 b', .int .i64 c', .str p', .str q', .bool f'], .agg [.int .i64 x, .int .i64 y, .int .i64 z, .str r, .str s]] (.bool (YK e a b c p q f e' a' b' c' p' q' f' x y z r s)) := by
 refine Ok.ofT ZS Tryd.func68 Qah (QaG Z) ?_
 show TW _ _ tf68.body _ _
 refine Qd fun K hK => Zq Z Z Z (Zq Z Z Z (Qa Z (kc2 hK Z Z ?_)))
 refine Qd fun K hK => QA (cs := [_, _, _, _, _, _, _, _, _, _, _, _, _, _]) Z Z Z Z (QB (Hb Wa Wa Wa Wa) Z Z (.inr Z) (Qa Z ?_))
 refine Qo (g := 7) Z (fun h1 => ?_) (fun h1 => ?_)
 ·try rw [h1]
  try simp only [qB] at h1
  refine Qb Z (QA (cs := [_, _, _, _, _]) Z Z Z Z (Qb Z (QB (Z5 Wa Wa) Z Z (.inr Z) (Qf Z Z (Qa Z ?_)))))
  refine Qo (g := 11) Z (fun h2 => ?_) (fun h2 => ?_)
  ·try rw [h2]
   try simp only [qB] at h2
   refine Qb Z (Qg Z Z (Qb Z (QA (cs := [_, _, _, _, _, _, _]) Z Z Z Z (Qb Z (QA (cs := [_, _, _, _, _]) Z Z Z Z (Qb Z (QB (GZ Wa Wa Wa Wa) Z Z (.inr Z) (Qf Z Z (Qa Z ?_)))))))))
   refine Qo (g := 17) Z (fun h3 => ?_) (fun h3 => ?_)
   ·try rw [h3]
    try simp only [qB] at h3
    refine Qb Z (Qg Z Z (Qb Z (QA (cs := [_, _, _, _, _, _, _]) Z Z Z Z (Qb Z (QA (cs := [_, _, _, _, _]) Z Z Z Z (Qb Z (QB (GZ Wa Wa Wa Wa) Z Z (.inr Z) (Qb Z (Zm Z (Qf Z Z (Qa Z ?_)))))))))))
    refine kc1 hK Z ?_
    refine Qn (Qe Z ?_)
    (repeat clear hK K); first | (simp [YK, h1, h2, h3]; done) | (simp_all [YK]; done)
   ·try rw [h3]
    try simp only [qB] at h3
    refine gn4 Z Z Z Z (Y8 Z (Qf Z Z (Qa Z (kc1 hK Z ?_))))
    refine Qn (Qe Z ?_)
    (repeat clear hK K); first | (simp [YK, h1, h2, h3]; done) | (simp_all [YK]; done)
  ·try rw [h2]
   try simp only [qB] at h2
   refine gn4 Z Z Z Z (Qf Z Z (Qa Z (gn4 Z Z Z Z (Y8 Z (Qf Z Z ?_)))))
   refine Qa Z (kc1 hK Z ?_)
   refine Qn (Qe Z ?_)
   (repeat clear hK K); first | (simp [YK, h1, h2]; done) | (simp_all [YK]; done)
 ·try rw [h1]
  try simp only [qB] at h1
  refine gn2 Z Z (Qf Z Z (Qa Z (gn4 Z Z Z Z (Qf Z Z (Qa Z (gn2 Z Z ?_))))))
  refine gn3 Z Z Z (Qf Z Z (Qa Z (kc1 hK Z ?_)))
  refine Qn (Qe Z ?_)
  (repeat clear hK K); first | (simp [YK, h1]; done) | (simp_all [YK]; done)
end Go.Proofs
namespace M3
open Go Go.Abs
open Go Go.Abs
end M3
namespace M3
open Go Go.Abs
end M3
namespace M25
open Go Go.Abs M3
def Fr (a b c : Int) : Bool := decide (a = 0) && decide (b = 0) && decide (c = 0)
def dCu (x : Cu) : List D := [.int .i64 x.e, .int .i64 x.a, .int .i64 x.b, .int .i64 x.c, .str x.p, .str x.q, .bool x.f]
def DN (s : Cu × Cu) : List D := dCu s.1 ++ dCu s.2
def Yj (l : List (Cu × Cu)) : D := .sl (l.map DN)
def LN (s : List (Cu × Cu) × List (Cu × Cu)) : D := .agg [Yj s.1, Yj s.2]
def Xj : Cu := ⟨-1, 0, 0, 0, [], [], false⟩
def KA : Cu := ⟨1, 0, 0, 0, [], [], false⟩
def Gm (e a b c : Int) (p q : List UInt8) (f : Bool) : Bool := !decide (e = 0) || (!f && decide (p = []) && !Fr a b c)
def Cu.sm (x : Cu) : Prop := x.p.length <= 1048576 /\ x.q.length <= 1048576
def Sm (l : List (Cu × Cu)) : Prop := l.length <= 1048576 /\ ∀ s ∈ l, Cu.sm s.1 /\ Cu.sm s.2
theorem Sm.at {l : List (Cu × Cu)} (h : Sm l) {i : Nat} (hi : i < l.length) : (l[i].1.p.length <= 1048576 /\ l[i].1.q.length <= 1048576) /\ (l[i].2.p.length <= 1048576 /\ l[i].2.q.length <= 1048576) := h.2 _ (QaL hi)
def MD (s : Cu × Cu) : Bool := J0 s.1.e s.1.a s.1.b s.1.c s.1.p s.1.q s.1.f s.2.e s.2.a s.2.b s.2.c s.2.p s.2.q s.2.f
def TF (x y : Cu) : Int := Z9 x.e x.a x.b x.c x.p x.q x.f y.e y.a y.b y.c y.p y.q y.f
def L0 (l : List (Cu × Cu)) (i : Nat) : Bool := match l[i]? with
 | none => true
 | some s => MD s && (decide (i = 0) || match l[i - 1]? with | none => true | some r => decide (TF r.2 s.1 < 0))
theorem Pt {l : List (Cu × Cu)} {i : Nat} (h : i < l.length) : L0 l i = (MD l[i] && (decide (i = 0) || decide (TF (l[i - 1]'Wa).2 l[i].1 < 0))) := by
 unfold L0
 rw [List.getElem?_eq_getElem h, List.getElem?_eq_getElem (Wa : i - 1 < l.length)]
theorem P7 {l : List (Cu × Cu)} {i : Nat} (h : i < l.length) (h1 : MD l[i] = true) (h2 : i = 0 \/ TF (l[i - 1]'Wa).2 l[i].1 < 0) : L0 l i = true := by
 rw [Pt h, h1]; simpa using h2
theorem JF {l : List (Cu × Cu)} {i : Nat} (h : i < l.length) (h1 : MD l[i] = false \/ (i ≠ 0 /\ 0 <= TF (l[i - 1]'Wa).2 l[i].1)) : L0 l i = false := by
 rw [Pt h]
 rcases h1 with h1 | ⟨h1, h2⟩
 ·rw [h1]; rfl
 ·simp only [QaT, Bool.or_eq_false_iff, decide_eq_false_iff_not]
  exact .inr ⟨h1, Wa⟩
def KU (l : List (Cu × Cu)) : Bool := (List.range l.length).all (L0 l)
theorem Yx {n i : Nat} {p : Nat -> Bool} (h : i < n) (hp : p i = false) : (List.range n).all p = false := by
 rw [Bool.eq_false_iff]; intro ha
 rw [QaQ] at ha
 rw [ha i (Qa2.2 h)] at hp; cases hp
theorem GN {i : Nat} {p : Nat -> Bool} (h : (List.range i).all p = true) (hp : p i = true) : (List.range (i + 1)).all p = true := by
 rw [List.range_succ, List.all_append, h]; simp [hp]
theorem Kj {i : Nat} {p : Nat -> Bool} {n : Nat} (h : (List.range i).all p = true) (hn : n <= i) : (List.range n).all p = true := by
 rw [QaQ] at h ⊢
 exact fun x hx => h x (Qa2.2 (Nat.lt_of_lt_of_le (Qa2.1 hx) hn))
def Fq (s : Cu × Cu) (a b c : Int) (p q : List UInt8) : Bool := YK s.1.e s.1.a s.1.b s.1.c s.1.p s.1.q s.1.f s.2.e s.2.a s.2.b s.2.c s.2.p s.2.q s.2.f a b c p q
def FS (l : List (Cu × Cu)) (a b c : Int) (p q : List UInt8) : Bool := KU l && l.any fun s => Fq s a b c p q
theorem Kd {l : List (Cu × Cu)} {a b c : Int} {p q : List UInt8} {i : Nat} (hi : l.length <= i) (h : (l.take i).any (fun s => Fq s a b c p q) = false) : FS l a b c p q = false := by
 rw [QaW hi] at h; rw [FS, h, Bool.and_false]
theorem Ke {l : List (Cu × Cu)} {a b c : Int} {p q : List UInt8} (h : KU l = false) : FS l a b c p q = false := by rw [FS, h]; rfl
theorem Kf {l : List (Cu × Cu)} {a b c : Int} {p q : List UInt8} {i : Nat} (h : KU l = true) (hi : i < l.length) (hp : Fq l[i] a b c p q = true) : FS l a b c p q = true := by
 rw [FS, h, Bool.true_and]; exact List.any_eq_true.2 ⟨_, QaL hi, hp⟩
theorem PJ {α : Type} {s : List α} {p : α -> Bool} {i : Nat} (h : i < s.length) (ha : (s.take i).any p = false) (hp : p s[i] = false) : (s.take (i + 1)).any p = false := by
 rw [List.take_succ_eq_append_getElem h, List.any_append, ha]; simp [hp]
def YF (x : Cu) : Bool := Gm x.e x.a x.b x.c x.p x.q x.f
def KV (s : List (Cu × Cu) × List (Cu × Cu)) : Bool := KU s.1 && KU s.2 && s.1.all fun x => YF x.1 && YF x.2
def Fp (s : List (Cu × Cu) × List (Cu × Cu)) (a b c : Int) (p q : List UInt8) : Bool :=
 KV s && JZ a b c p q && (if p = [] then FS s.1 a b c p q else FS s.2 a b c p q)
theorem X8 {s : List (Cu × Cu) × List (Cu × Cu)} (h : KU s.1 = false \/ KU s.2 = false) : KV s = false := by
 rw [KV]; rcases h with h | h <;> simp [h]
theorem XG {s : List (Cu × Cu) × List (Cu × Cu)} {i : Nat} (hi : i < s.1.length) (h : YF s.1[i].1 = false \/ YF s.1[i].2 = false) : KV s = false := by
 have : (s.1.all fun x => YF x.1 && YF x.2) = false := Yg hi (by rcases h with h | h <;> simp [h])
 rw [KV, this, Bool.and_false]
theorem HA {s : List (Cu × Cu) × List (Cu × Cu)} {i : Nat} (h1 : KU s.1 = true) (h2 : KU s.2 = true) (hi : s.1.length <= i) (h : (s.1.take i).all (fun x => YF x.1 && YF x.2) = true) : KV s = true := by
 rw [QaW hi] at h
 rw [KV, h1, h2, h]; rfl
theorem CJ {H : QaD} {S : Nat -> Bool} {k n : Nat} {b : Box} (hS : S k = true) (hb : lk H k = some b) (hp : b.pr = true) (hn : n = b.rows.length) : (D.osl k n).fz H S = .sl b.rows := by
 simp only [D.fz, D.fzS, hS, hb, if_true, hp, hn, and_self]
abbrev S5 := List (Cu × Cu) × List (Cu × Cu)
def I64 (x : Int) : Prop := -9223372036854775808 <= x /\ x <= 9223372036854775807
theorem M0 (x : Int) : I64 (IntKind.i64.wrap x) := by
 unfold IntKind.wrap I64
 simp only [IntKind.bits, IntKind.signed, Bool.true_and]
 split
 ·rename_i h
  have := of_decide_eq_true h
  omega
 ·rename_i h
  have : ¬ (x % 2 ^ 64 >= 2 ^ (64 - 1)) := fun hh => h (decide_eq_true hh)
  omega
def ME (h m : Int) : Int := if KT .and .i64 h m = h then 2 else if KT .and .i64 h m = 0 then 0 else 1
structure Vr where
 a : Int
 b : Int
 c : Int
 p : List UInt8
 q : List UInt8
def NZ : List Vr := [⟨1, 0, 0, [], []⟩, ⟨1, 2, 0, [], []⟩, ⟨2, 0, 0, [97, 46, 49], []⟩, ⟨2, 0, 0, [], []⟩]
theorem Y7 {i : Nat} : ((i : Int) - 1).toNat = i - 1 := Wa
end M25
namespace Go.Proofs
open Go Go.Abs M3 M25
theorem Kx  : Ok Tryd.prog 38 [] (.agg [.int .i64 (-1), .int .i64 0, .int .i64 0, .int .i64 0, .str [], .str [], .bool false]) := by
 refine Ok.ofT ZS Tryd.func38 BJ (QaG Z) ?_
 show TW _ _ tf38.body _ _
 refine Qd fun K hK => ZT Z (kc1 hK Z ?_)
 refine Qd fun K hK => Zy Z Z (ZG Z Z Z Z Z Z Z Z (kc1 hK Z ?_))
 refine Qn (HD (cs := [_, _, _, _, _, _, _]) Z Z Z Z ?_)
 exact rfl
theorem KQ  : Ok Tryd.prog 39 [] (.agg [.int .i64 1, .int .i64 0, .int .i64 0, .int .i64 0, .str [], .str [], .bool false]) := by
 refine Ok.ofT ZS Tryd.func39 BK (QaG Z) ?_
 show TW _ _ tf39.body _ _
 refine Qd fun K hK => ZT Z (kc1 hK Z ?_)
 refine Qd fun K hK => Zy Z Z (ZG Z Z Z Z Z Z Z Z (kc1 hK Z ?_))
 refine Qn (HD (cs := [_, _, _, _, _, _, _]) Z Z Z Z ?_)
 exact rfl
theorem Kz {a b c : Int} {p q : List UInt8} : Ok Tryd.prog 81 [.agg [.int .i64 a, .int .i64 b, .int .i64 c, .str p, .str q]] (.bool (Fr a b c)) := by
 refine Ok.ofT ZS Tryd.func81 Qau (QaG Z) ?_
 show TW _ _ tf81.body _ _
 refine Qd fun K hK => Zq Z Z Z (Qa Z (kc1 hK Z ?_))
 refine Qd fun K hK => Qg Z Z (Qw Z Z Z (Xy Z Z (Qa Z ?_)))
 refine Qo (g := 6) Z (fun h1 => ?_) (fun h1 => ?_)
 ·try rw [h1]
  try simp only [qB] at h1
  refine Qb Z (Qg Z Z (Qb Z (Qw Z Z Z (Qb Z (Xy Z Z (Qf Z Z (Qa Z ?_)))))))
  refine Qo (g := 11) Z (fun h2 => ?_) (fun h2 => ?_)
  ·try rw [h2]
   try simp only [qB] at h2
   refine Qb Z (Qg Z Z (Qb Z (Qw Z Z Z (Qb Z (Xy Z Z (Qf Z Z (Qa Z (kc1 hK Z ?_))))))))
   refine Qn (Qe Z ?_)
   (repeat clear hK K); simp_all [Fr]
  ·try rw [h2]
   try simp only [qB] at h2
   refine gn3 Z Z Z (Qf Z Z (Qa Z (kc1 hK Z ?_)))
   refine Qn (Qe Z ?_)
   (repeat clear hK K); simp_all [Fr]
 ·try rw [h1]
  try simp only [qB] at h1
  refine gn3 Z Z Z (Qf Z Z (Qa Z (gn3 Z Z Z (Qf Z Z (Qa Z (kc1 hK Z ?_))))))
  refine Qn (Qe Z ?_)
  (repeat clear hK K); simp_all [Fr]
open Go Go.Abs M3 M25
theorem Xh {e a b c : Int} {p q : List UInt8} {f : Bool} : Ok Tryd.prog 70 [.agg [.int .i64 e, .int .i64 a, .int .i64 b, .int .i64 c, .str p, .str q, .bool f]] (.bool (Gm e a b c p q f)) := by
 refine Ok.ofT ZS Tryd.func70 Qaj (QaG Z) ?_
 show TW _ _ tf70.body _ _
 refine Qd fun K hK => Zq Z Z Z (Qa Z (kc1 hK Z ?_))
 refine Qd fun K hK => Qg Z Z (Qw Z Z Z (Z3 Z Z (Qa Z ?_)))
 refine Qo (g := 6) Z (fun h1 => ?_) (fun h1 => ?_)
 ·try rw [h1]
  try simp only [qB] at h1
  refine gn4 Z Z Z Z (Qq Z (Qq Z (Qq Z (Qq Z (gn2 Z Z (Qq Z (Qq Z ?_)))))))
  refine Qq Z (Qq Z (Y8 Z (Qf Z Z (Qa Z (kc1 hK Z ?_)))))
  refine Qn (Qe Z ?_)
  (repeat clear hK K); simp_all [Gm]
 ·try rw [h1]
  try simp only [qB] at h1
  refine Qb Z (Qg Z Z (Qb Z (Qw Z Z Z (Qb Z (Zm Z (Qb Z (Qa Z ?_)))))))
  refine Qo (g := 10) Z (fun h2 => ?_) (fun h2 => ?_)
  ·try rw [h2]
   try simp only [qB] at h2
   refine Qb Z (Qg Z Z (Qb Z (Qg Z Z (Qb Z (Qw Z Z Z (Qb Z (Jb Z Z (Qb Z (Qf Z Z (Qb Z (Qa Z ?_)))))))))))
   refine Qo (g := 16) Z (fun h3 => ?_) (fun h3 => ?_)
   ·try rw [h3]
    try simp only [qB] at h3
    refine Qb Z (Qg Z Z (Qb Z (QA (cs := [_, _, _, _, _]) Z Z Z Z (Qb Z (QB (Kz) Z Z (.inr Z) (Qb Z (Zm Z (Qb Z (Qf Z Z (Qf Z Z (Qa Z ?_)))))))))))
    refine kc1 hK Z ?_
    refine Qn (Qe Z ?_)
    (repeat clear hK K); simp_all [Gm]
   ·try rw [h3]
    try simp only [qB] at h3
    refine gn4 Z Z Z Z (Qb Z (Qf Z Z (Qf Z Z (Qa Z (kc1 hK Z ?_)))))
    refine Qn (Qe Z ?_)
    (repeat clear hK K); simp_all [Gm]
  ·try rw [h2]
   try simp only [qB] at h2
   refine gn4 Z Z Z Z (Qb Z (Qf Z Z (Qb Z (Qa Z (gn4 Z Z Z Z ?_)))))
   refine Qb Z (Qf Z Z (Qf Z Z (Qa Z (kc1 hK Z ?_))))
   refine Qn (Qe Z ?_)
   (repeat clear hK K); simp_all [Gm]
theorem Xi  : Ok Tryd.prog 29 [] (Yj [(Xj, KA)]) := by
 refine Ok.ofT ZS Tryd.func29 BA (QaG Z) ?_
 show TW _ _ tf29.body _ _
 refine Qd fun K hK => Qa Z (hK _ _ (Xz (QZ) ?_))
 refine Qd fun K hK => QB (Kx) Z Z (.inl Z) (QB (KQ) Z Z (.inl Z) (Zy Z Z (Zi Z Z (Qa Z (kc1 hK Z ?_)))))
 refine Qn (YP Z ?_)
 rfl
theorem He  : Ok Tryd.prog 19 [] (LN ([(Xj, KA)], [(Xj, KA)])) := by
 refine Ok.ofT ZS Tryd.func19 Br (QaG Z) ?_
 show TW _ _ tf19.body _ _
 refine Qd fun K hK => ZT Z (kc1 hK Z ?_)
 refine Qd fun K hK => QB (Xi) Z Z (.inl Z) (QB (Xi) Z Z (.inl Z) (Zy Z Z (ZG Z Z Z Z Z Z Z Z (kc1 hK Z ?_))))
 refine Qn (Post.eq (HD (ds := [.sl _, .sl _]) (cs := [_, _]) Z Z Z Z Z) ?_)
 rfl
open Go Go.Abs M3 M25
theorem _root_.Wl {p : Prop} (h : p := by first | exact Qv (by omega) (by omega) | rfl) : p := h
theorem YJ {l : List (Cu × Cu)} (hl : Sm l) : Ok Tryd.prog 69 [Yj l] (.bool (KU l)) := by
 refine Ok.ofT ZS Tryd.func69 Qai (QaG Z) ?_
 show TW _ _ tf69.body _ _
 have hn := hl.1
 refine Qd fun K hK => Qa Z (kc1 hK Z ?_)
 refine Qz ?_ -- 0
 refine Qd fun K hK => Qa Z (kc2 hK Z Z ?_)
 refine Qy ?_
 refine Zd (ι := Nat) (fun i => ⟨[(0, Yj l), (3, .int .i64 i)], []⟩) (fun i => i <= l.length /\ (List.range i).all (L0 l) = true) (fun i => l.length - i) 0 ?_ ?_ ?_
 ·exact Q3 (kp2 rfl rfl)
 ·exact ⟨QaS _, rfl⟩
 intro i hI
 try dsimp only
 refine Qz ?_ -- 1
 refine Qd fun K hK => mv2 Z Z (QK Z Z (ZZ Z Z (kc3 hK Z Z Z ?_)))
 refine Qr Z (fun h1 => ?_) (fun h1 => ?_)
 ·try rw [h1]
  try simp only [qA] at h1
  refine Qp (ks2 Z Z ?_)
  refine Qz ?_ -- 2
  refine Qy (Qd fun K hK => mv2 Z Z (QH Z Z Z Wa (QX Wa) Z (QV (ds0 := [20, 19, 18, 17, 16, 15, 14, 13, 12, 11, 10, 9, 8, 7, 6, 5, 4, 3, 2, 1, 0]) (cs := [_, _, _, _, _, _, _, _, _, _, _, _, _, _]) Z Z Z Z Z Z (Q2 (ds0 := [19, 18, 17, 16, 15, 14, 13, 12, 11, 10, 9, 8, 7, 6, 5, 4, 3, 2, 1, 0]) (YZ (hl.at (i := i) Wa).1.1 (hl.at (i := i) Wa).1.2 (hl.at (i := i) Wa).2.1 (hl.at (i := i) Wa).2.2) Z Z (.inr Z) Z Z (Zm Z (Qa Z ?_))))))
  refine Qo (g := 16) Z (fun h2 => ?_) (fun h2 => ?_)
  ·try rw [h2]
   try simp only [qA] at h2
   refine gn3 Z Z Z (Qq Z (Qq Z (Qq Z (Qq Z (Qq Z (Qq Z (Qq Z (Qq Z (Qq Z ?_)))))))))
   refine Qq Z (Qq Z (Qq Z (Qq Z (Y8 Z (Qf Z Z (kc3 hK Z Z Z ?_))))))
   refine QW Z (Qd fun K hK => Qa Z (kc1 hK Z ?_))
   refine Qn (Qi (Qh (QC (Qi (Qh (Qe Z ?_))))))
   first
    | exact (Kj hI.2 Wa).symm
    | exact (Yx (i := i) Wa (JF Wa (.inl h2))).symm
    | (simp only [Y7] at *; exact (Yx (i := i) Wa (JF Wa (.inr ⟨Wa, h4⟩))).symm)
  ·try rw [h2]
   try simp only [qA] at h2
   refine Qb Z (Qa Z (Qb Z (Y9 Z Z (Qb Z (Qa Z ?_)))))
   refine Qo (g := 19) Z (fun h3 => ?_) (fun h3 => ?_)
   ·try rw [h3]
    try simp only [qA] at h3
    refine Qb Z (Qa Z (Qb Z (Qa Z (Qb Z (HV Z Z Wl (Qb Z (QH Z Z Z Wa (Q6 Wa Wa) Z (Qb Z (Za Z Z (Qb Z (QV (ds0 := [3, 2, 1, 0]) (cs := [_, _, _, _, _, _, _]) Z Z Z Z Z Z ?_)))))))))))
    refine Qb Z (Qa Z (Qb Z (Qa Z (Qb Z (QH Z Z Z Wa (QX Wa) Z (Qb Z (Za Z Z (Qb Z (QV (ds0 := [3, 2, 1, 0]) (cs := [_, _, _, _, _, _, _]) Z Z Z Z Z Z (Qb Z (Q2 (ds0 := [2, 1, 0]) (YY (hl.at (i := ((i : Int) - 1).toNat) Wa).2.1 (hl.at (i := ((i : Int) - 1).toNat) Wa).2.2 (hl.at (i := i) Wa).1.1 (hl.at (i := i) Wa).1.2) Z Z (.inr Z) Z Z ?_)))))))))))
    refine Qb Z (Nk Z Z (Qb Z (Qf Z Z (Qf Z Z (kc3 hK Z Z Z ?_)))))
    refine Qr Z (fun h4 => ?_) (fun h4 => ?_)
    ·try rw [h4]
     try simp only [qA] at h4
     refine Qd fun K hK => Qa Z (kc1 hK Z ?_)
     refine Qn (Qi (Qh (QC (Qi (Qh (Qe Z ?_))))))
     first
      | exact (Kj hI.2 Wa).symm
      | exact (Yx (i := i) Wa (JF Wa (.inl h2))).symm
      | (simp only [Y7] at *; exact (Yx (i := i) Wa (JF Wa (.inr ⟨Wa, h4⟩))).symm)
    ·try rw [h4]
     try simp only [qA] at h4
     refine Qp (Qj (ks2 Z Z (QP fun K hK => Qa Z (Q9 Z Z Wl (Qa Z (hK _ ?_))))))
     refine Ql (i + 1) ?_ ?_ ?_
     ·exact Q3 (kp2 rfl rfl)
     ·exact ⟨Wa, GN hI.2 (P7 Wa h2 (by first | exact .inl Wa | (simp only [Y7] at *; exact .inr (Int.not_le.1 h4))))⟩
     ·first | omega | (simp only; omega) | (dsimp only; omega)
   ·try rw [h3]
    try simp only [qA] at h3
    refine gn4 Z Z Z Z (gn4 Z Z Z Z (gn4 Z Z Z Z ?_))
    refine Y8 Z (Qb Z (Qf Z Z (Qf Z Z (kc3 hK Z Z Z ?_))))
    refine Zo Z (Qp (Qj (ks2 Z Z (QP fun K hK => Qa Z (Q9 Z Z Wl (Qa Z (hK _ ?_)))))))
    refine Ql (i + 1) ?_ ?_ ?_
    ·exact Q3 (kp2 rfl rfl)
    ·exact ⟨Wa, GN hI.2 (P7 Wa h2 (by first | exact .inl Wa | (simp only [Y7] at *; exact .inr (Int.not_le.1 h4))))⟩
    ·first | omega | (simp only; omega) | (dsimp only; omega)
 ·try rw [h1]
  try simp only [qA] at h1
  refine Q1 (QD (Qu (QE (QM (QZ) (Qd fun K hK => Qa Z (kc1 hK Z ?_))))))
  refine Qn (Qe Z ?_)
  first
   | exact (Kj hI.2 Wa).symm
   | exact (Yx (i := i) Wa (JF Wa (.inl h2))).symm
   | (simp only [Y7] at *; exact (Yx (i := i) Wa (JF Wa (.inr ⟨Wa, h4⟩))).symm)
open Go Go.Abs M3 M25
theorem XP {l : List (Cu × Cu)} (hl : Sm l) {a b c : Int} {p q : List UInt8} (hp : p.length <= 1048576) (hq : q.length <= 1048576) : Ok Tryd.prog 57 [Yj l, .agg [.int .i64 a, .int .i64 b, .int .i64 c, .str p, .str q]] (.bool (FS l a b c p q)) := by
 refine Ok.ofT ZS Tryd.func57 B6 (QaG Z) ?_
 show TW _ _ tf57.body _ _
 have hn := hl.1
 refine Qd fun K hK => Zq Z Z Z (Qa Z (kc2 hK Z Z ?_))
 refine Qz ?_ -- 0
 refine Qd fun K hK => Qa Z (kc3 hK Z Z Z ?_)
 refine Qy ?_
 refine Zd (ι := Nat) (fun i => ⟨[(0, Yj l), (3, .ref 3 0 0), (5, .int .i64 i)], [(3, ⟨[[.int .i64 a, .int .i64 b, .int .i64 c, .str p, .str q]], 5, 41, true⟩)]⟩) (fun i => i <= l.length /\ (l.take i).any (fun s => Fq s a b c p q) = false) (fun i => l.length - i) 0 ?_ ?_ ?_
 ·exact QQ (l := [0, 3, 5]) (lH := [3]) (kp3 rfl rfl rfl) (Qc rfl Qk) rfl rfl rfl
 ·exact ⟨QaS _, by simp⟩
 intro i hI
 try dsimp only
 refine Qz ?_ -- 1
 refine Qd fun K hK => mv2 Z Z (QK Z Z (ZZ Z Z (Qa Z ?_)))
 refine Qo (g := 10) Z (fun h1 => ?_) (fun h1 => ?_)
 ·try rw [h1]
  try simp only [qA] at h1
  refine Qb Z (Qa Z (Qb Z (QB (YJ hl) Z Z (.inr Z) (Qf Z Z (kc4 hK Z Z Z Z ?_)))))
  refine Qr Z (fun h2 => ?_) (fun h2 => ?_)
  ·try rw [h2]
   try simp only [qA] at h2
   refine Qp (ks3 Z Z Z ?_)
   refine Qz ?_ -- 2
   refine Qy (Qd fun K hK => mv2 Z Z (QH Z Z Z Wa (QX Wa) Z (QV (ds0 := [0]) (cs := [_, _, _, _, _, _, _, _, _, _, _, _, _, _]) Z Z Z Z Z Z (QV (ds0 := [0]) (cs := [_, _, _, _, _]) Z Z Z Z Z Z (Q2 (ds0 := []) (Ky (hl.at (i := i) Wa).1.1 (hl.at (i := i) Wa).1.2 (hl.at (i := i) Wa).2.1 (hl.at (i := i) Wa).2.2 hp hq) Z Z (.inr Z) Z Z (kc4 hK Z Z Z Z ?_))))))
   refine Qr Z (fun h3 => ?_) (fun h3 => ?_)
   ·try rw [h3]
    try simp only [qA] at h3
    refine Qd fun K hK => Qa Z (kc1 hK Z ?_)
    refine Qn (Qi (Qh (QC (Qi (Qh (Qe Z ?_))))))
    first
     | exact (Kd (i := i) Wa hI.2).symm
     | exact (Ke h2).symm
     | exact (Kf h2 (i := i) Wa h3).symm
   ·try rw [h3]
    try simp only [qA] at h3
    refine Qp (Qj (ks3 Z Z Z (QP fun K hK => Qa Z (Q9 Z Z Wl (Qa Z (hK _ ?_))))))
    refine Ql (i + 1) ?_ ?_ ?_
    ·exact QQ (l := [0, 3, 5]) (lH := [3]) (kp3 rfl rfl rfl) (Qc rfl Qk) rfl rfl rfl
    ·exact ⟨Wa, PJ Wa hI.2 h3⟩
    ·first | omega | (simp only; omega) | (dsimp only; omega)
  ·try rw [h2]
   try simp only [qA] at h2
   refine Q1 (QD (Qu (QE (QM (QZ) (Qd fun K hK => Qa Z (kc1 hK Z ?_))))))
   refine Qn (Qe Z ?_)
   first
    | exact (Kd (i := i) Wa hI.2).symm
    | exact (Ke h2).symm
    | exact (Kf h2 (i := i) Wa h3).symm
 ·try rw [h1]
  try simp only [qA] at h1
  refine gn2 Z Z (Qf Z Z (kc4 hK Z Z Z Z ?_))
  refine Zo Z (Q1 (QD (Qu (QE (QM (QZ) (Qd fun K hK => Qa Z (kc1 hK Z ?_)))))))
  refine Qn (Qe Z ?_)
  first
   | exact (Kd (i := i) Wa hI.2).symm
   | exact (Ke h2).symm
   | exact (Kf h2 (i := i) Wa h3).symm
theorem XQ {s : List (Cu × Cu) × List (Cu × Cu)} (h1s : Sm s.1) (h2s : Sm s.2) : Ok Tryd.prog 55 [LN s] (.bool (KV s)) := by
 refine Ok.ofT ZS Tryd.func55 B4 (QaG Z) ?_
 show TW _ _ tf55.body _ _
 have hn := h1s.1
 refine Qd fun K hK => Zq Z Z Z (Qa Z (kc1 hK Z ?_))
 refine Qz ?_ -- 0
 refine Qd fun K hK => Qg Z Z (Qw Z Z Z (QB (YJ h1s) Z Z (.inr Z) (Zm Z (Qa Z ?_))))
 refine Qo (g := 8) Z (fun h1 => ?_) (fun h1 => ?_)
 ·try rw [h1]
  try simp only [qA] at h1
  refine gn4 Z Z Z Z (Qf Z Z (kc2 hK Z Z ?_))
  refine QW Z (Qd fun K hK => Qa Z (kc1 hK Z ?_))
  refine Qn (Qh (Qe Z ?_))
  first
   | exact (HA (i := i) h1 h2 Wa hI.2).symm
   | exact (XG (i := i) Wa (.inl h4)).symm
   | exact (XG (i := i) Wa (.inr h5)).symm
   | exact (X8 (.inl h1)).symm
   | exact (X8 (.inr h2)).symm
 ·try rw [h1]
  try simp only [qA] at h1
  refine Qb Z (Qg Z Z (Qb Z (Qw Z Z Z (Qb Z (QB (YJ h2s) Z Z (.inr Z) (Qb Z (Zm Z (Qf Z Z (kc2 hK Z Z ?_)))))))))
  refine Qr Z (fun h2 => ?_) (fun h2 => ?_)
  ·try rw [h2]
   try simp only [qA] at h2
   refine Qd fun K hK => Qa Z (kc1 hK Z ?_)
   refine Qn (Qh (Qe Z ?_))
   first
    | exact (HA (i := i) h1 h2 Wa hI.2).symm
    | exact (XG (i := i) Wa (.inl h4)).symm
    | exact (XG (i := i) Wa (.inr h5)).symm
    | exact (X8 (.inl h1)).symm
    | exact (X8 (.inr h2)).symm
  ·try rw [h2]
   try simp only [qA] at h2
   refine Qp (ks1 Z ?_)
   refine Qz ?_ -- 1
   refine Qd fun K hK => Qa Z (kc2 hK Z Z ?_)
   refine Qy ?_
   refine Zd (ι := Nat) (fun i => ⟨[(1, .ref 1 0 0), (3, .int .i64 i)], [(1, ⟨[[Yj s.1, Yj s.2]], 2, 48, true⟩)]⟩) (fun i => i <= s.1.length /\ (s.1.take i).all (fun x => YF x.1 && YF x.2) = true) (fun i => s.1.length - i) 0 ?_ ?_ ?_
   ·exact QQ (l := [1, 3]) (lH := [1]) (kp2 rfl rfl) (Qc rfl Qk) rfl rfl rfl
   ·exact ⟨QaS _, by simp⟩
   intro i hI
   try dsimp only
   refine Qz ?_ -- 2
   refine Qd fun K hK => Qa Z (Qg Z Z (Qw Z Z Z (QK Z Z (ZZ Z Z (kc3 hK Z Z Z ?_)))))
   refine Qr Z (fun h3 => ?_) (fun h3 => ?_)
   ·try rw [h3]
    try simp only [qA] at h3
    refine Qp (ks2 Z Z ?_)
    refine Qz ?_ -- 3
    refine Qy (Qd fun K hK => Qg Z Z (Qw Z Z Z (Qa Z (QH Z Z Z Wa (QX Wa) Z (Za Z Z (QA (cs := [_, _, _, _, _, _, _]) Z Z Z Z (QB (Xh) Z Z (.inr Z) (Zm Z (Qa Z ?_)))))))))
    refine Qo (g := 29) Z (fun h4 => ?_) (fun h4 => ?_)
    ·try rw [h4]
     try simp only [qA] at h4
     refine gn4 Z Z Z Z (gn4 Z Z Z Z (Qf Z Z (kc3 hK Z Z Z ?_)))
     refine QW Z (Qd fun K hK => Qa Z (kc1 hK Z ?_))
     refine Qn (Qi (Qh (QC (Qi (Qh (Qe Z ?_))))))
     first
      | exact (HA (i := i) h1 h2 Wa hI.2).symm
      | exact (XG (i := i) Wa (.inl h4)).symm
      | exact (XG (i := i) Wa (.inr h5)).symm
      | exact (X8 (.inl h1)).symm
      | exact (X8 (.inr h2)).symm
    ·try rw [h4]
     try simp only [qA] at h4
     refine Qb Z (Qg Z Z (Qb Z (Qw Z Z Z (Qb Z (Qa Z (Qb Z (QH Z Z Z Wa (QX Wa) Z (Qb Z (Za Z Z (Qb Z (QA (cs := [_, _, _, _, _, _, _]) Z Z Z Z ?_)))))))))))
     refine Qb Z (QB (Xh) Z Z (.inr Z) (Qb Z (Zm Z (Qf Z Z (kc3 hK Z Z Z ?_)))))
     refine Qr Z (fun h5 => ?_) (fun h5 => ?_)
     ·try rw [h5]
      try simp only [qA] at h5
      refine Qd fun K hK => Qa Z (kc1 hK Z ?_)
      refine Qn (Qi (Qh (QC (Qi (Qh (Qe Z ?_))))))
      first
       | exact (HA (i := i) h1 h2 Wa hI.2).symm
       | exact (XG (i := i) Wa (.inl h4)).symm
       | exact (XG (i := i) Wa (.inr h5)).symm
       | exact (X8 (.inl h1)).symm
       | exact (X8 (.inr h2)).symm
     ·try rw [h5]
      try simp only [qA] at h5
      refine Qp (Qj (ks2 Z Z (QP fun K hK => Qa Z (Q9 Z Z Wl (Qa Z (hK _ ?_))))))
      refine Ql (i + 1) ?_ ?_ ?_
      ·exact QQ (l := [1, 3]) (lH := [1]) (kp2 rfl rfl) (Qc rfl Qk) rfl rfl rfl
      ·exact ⟨Wa, Q4 Wa hI.2 (by rw [show YF s.1[i].1 = true from h4, show YF s.1[i].2 = true from h5]; rfl)⟩
      ·first | omega | (simp only; omega) | (dsimp only; omega)
   ·try rw [h3]
    try simp only [qA] at h3
    refine Q1 (QD (Qu (QE (QM (QZ) (Qd fun K hK => Qa Z (kc1 hK Z ?_))))))
    refine Qn (Qe Z ?_)
    first
     | exact (HA (i := i) h1 h2 Wa hI.2).symm
     | exact (XG (i := i) Wa (.inl h4)).symm
     | exact (XG (i := i) Wa (.inr h5)).symm
     | exact (X8 (.inl h1)).symm
     | exact (X8 (.inr h2)).symm
theorem Hf {s : List (Cu × Cu) × List (Cu × Cu)} (h1s : Sm s.1) (h2s : Sm s.2) {a b c : Int} {p q : List UInt8} (hp : p.length <= 1048576) (hq : q.length <= 1048576) : Ok Tryd.prog 37 [LN s, .agg [.int .i64 a, .int .i64 b, .int .i64 c, .str p, .str q]] (.bool (Fp s a b c p q)) := by
 refine Ok.ofT ZS Tryd.func37 BI (QaG Z) ?_
 show TW _ _ tf37.body _ _
 refine Qd fun K hK => Zq Z Z Z (Zq Z Z Z (Qa Z (kc2 hK Z Z ?_)))
 refine Qz ?_ -- 0
 refine Qd fun K hK => QA (cs := [_, _]) Z Z Z Z (QB (XQ h1s h2s) Z Z (.inr Z) (Zm Z (Qa Z ?_)))
 refine Qo (g := 8) Z (fun h1 => ?_) (fun h1 => ?_)
 ·try rw [h1]
  try simp only [qB] at h1
  refine gn3 Z Z Z (Qf Z Z (kc3 hK Z Z Z ?_))
  refine QW Z (Qd fun K hK => Qa Z (kc1 hK Z ?_))
  refine Qn (Qh (Qe Z ?_))
  (repeat clear hK K); simp_all [Fp]
 ·try rw [h1]
  try simp only [qB] at h1
  refine Qb Z (QA (cs := [_, _, _, _, _]) Z Z Z Z (Qb Z (QB (Zu hp hq) Z Z (.inr Z) (Qb Z (Zm Z (Qf Z Z (kc3 hK Z Z Z ?_)))))))
  refine Qr Z (fun h2 => ?_) (fun h2 => ?_)
  ·try rw [h2]
   try simp only [qB] at h2
   refine Qd fun K hK => Qa Z (kc1 hK Z ?_)
   refine Qn (Qh (Qe Z ?_))
   (repeat clear hK K); simp_all [Fp]
  ·try rw [h2]
   try simp only [qB] at h2
   refine Qp (ks2 Z Z ?_)
   refine Qz ?_ -- 1
   refine Qd fun K hK => Qg Z Z (Qw Z Z Z (Jb Z Z (kc3 hK Z Z Z ?_)))
   refine Qr Z (fun h3 => ?_) (fun h3 => ?_)
   ·try rw [h3]
    try simp only [qB] at h3
    refine Qd fun K hK => Qg Z Z (Qw Z Z Z (QA (cs := [_, _, _, _, _]) Z Z Z Z (QB (XP h1s hp hq) Z Z (.inr Z) (Qa Z (kc1 hK Z ?_)))))
    refine Qn (Qh (Qe Z ?_))
    (repeat clear hK K); simp_all [Fp]
   ·try rw [h3]
    try simp only [qB] at h3
    refine Qp (ks2 Z Z (Qd fun K hK => Qg Z Z (Qw Z Z Z (QA (cs := [_, _, _, _, _]) Z Z Z Z (QB (XP h2s hp hq) Z Z (.inr Z) (Qa Z (kc1 hK Z ?_)))))))
    refine Qn (Qe Z ?_)
    (repeat clear hK K); simp_all [Fp]
end Go.Proofs
namespace M25
open Go Go.Abs M3
structure Zr where
 u : Int
 s : S5
structure CandT where
 v : Vr
 sh : Int
 ns : List (List Zr)
 bs : List Zr
structure FM where
 n : List UInt8
 f : List UInt8
 cs : List CandT
abbrev Qs := List FM
def Mo (x : Zr) : List D := [.int .i64 x.u, Yj x.s.1, Yj x.s.2]
def YC (l : List Zr) : D := .sl (l.map Mo)
def JV (l : List (List Zr)) : D := .sl (l.map fun r => [YC r])
def Mm (c : CandT) : List D := [.int .i64 c.v.a, .int .i64 c.v.b, .int .i64 c.v.c, .str c.v.p, .str c.v.q, .int .i64 c.sh, JV c.ns, YC c.bs]
def Lb (l : List CandT) : D := .sl (l.map Mm)
def ZI (u : FM) : List D := [.str u.n, .str u.f, Lb u.cs]
def ZC (w : Qs) : D := .agg [.sl (w.map ZI)]
structure Gt where
 u : Int
 m : Int
 deriving DecidableEq
structure JH where
 u : Int
 m : Int
 l : Int
 c : Int
 deriving DecidableEq
structure RowT where
 k : Int
 u : Int
 a : Int
 b : Int
 t : List Gt
abbrev RR (a b : Int) : Int := KT .and .i64 a b
abbrev bor (a b : Int) : Int := KT .or .i64 a b
abbrev C9 (a b : Int) : Int := KT .andNot .i64 a b
def uAt (w : Qs) (u : Int) : Option FM := if u < 0 then none else w[u.toNat]?
theorem Ll {w : Qs} {u : Int} (h0 : 0 <= u) (h : u < w.length) : uAt w u = some (w[u.toNat]'Wa) := by
 rw [uAt, if_neg Wa, List.getElem?_eq_getElem Wa]
theorem L9 {w : Qs} {u : Int} (h : u < 0 \/ (w.length : Int) <= u) : uAt w u = none := by
 unfold uAt
 split
 ·rfl
 ·rw [List.getElem?_eq_none]; omega
def DU (w : Qs) (u : Int) : Int := match uAt w u with
 | none => 0
 | some x => 2 ^ (min x.cs.length 16 + 1) - 1
def Tc (v : Vr) : Prop := v.p.length <= 1048576 /\ v.q.length <= 1048576
structure WSm (w : Qs) : Prop where
 len : w.length <= 48
 cs : ∀ u ∈ w, u.cs.length <= 16
 vs : ∀ u ∈ w, ∀ c ∈ u.cs, Tc c.v
 ns : ∀ u ∈ w, ∀ c ∈ u.cs, c.ns.length <= 1000 /\ c.bs.length <= 1000
 nl : ∀ u ∈ w, ∀ c ∈ u.cs, ∀ r ∈ c.ns, r.length <= 1000
 nw : ∀ u ∈ w, ∀ c ∈ u.cs, ∀ r ∈ c.ns, ∀ x ∈ r, Sm x.s.1 /\ Sm x.s.2
 bw : ∀ u ∈ w, ∀ c ∈ u.cs, ∀ x ∈ c.bs, Sm x.s.1 /\ Sm x.s.2
def Dj (s : S5) (v : Vr) : Bool := Fp s v.a v.b v.c v.p v.q
def KB (s : S5) (l : List CandT) : Nat -> Int
 | 0 => 0
 | n + 1 => KB s l n + match l[n]? with
  | some c => if Dj s c.v = true then 2 ^ (n + 1) else 0
  | none => 0
theorem P6 (s : S5) (l : List CandT) : ∀ n, 0 <= KB s l n /\ KB s l n <= 2 ^ (n + 1) - 2
 | 0 => by simp [KB]
 | n + 1 => by
  obtain ⟨h1, h2⟩ := P6 s l n
  have h3 : (2 : Int) ^ (n + 1 + 1) = 2 ^ (n + 1) * 2 := Int.pow_succ ..
  have h4 : (0 : Int) < 2 ^ (n + 1) := Int.pow_pos Wa
  rw [KB, h3]
  generalize (2 : Int) ^ (n + 1) = z at *
  split
  ·split <;> omega
  ·omega
theorem Sq {s : S5} {l : List CandT} {i : Nat} (h : i < l.length) (hp : Dj s l[i].v = true) : KB s l (i + 1) = KB s l i + 2 ^ (i + 1) := by
 rw [KB, List.getElem?_eq_getElem h]; simp only [hp, if_true]
theorem TJ {s : S5} {l : List CandT} {i : Nat} (h : i < l.length) (hp : Dj s l[i].v = false) : KB s l (i + 1) = KB s l i := by
 rw [KB, List.getElem?_eq_getElem h]; simp only [hp, QaO, if_false, Int.add_zero]
def Ld (w : Qs) (x : Zr) : Int := match uAt w x.u with
 | none => 0
 | some un => KB x.s un.cs (min un.cs.length 16)
theorem Sn {w : Qs} {x : Zr} (h0 : 0 <= x.u) (h : x.u < w.length) : Ld w x = KB x.s (w[x.u.toNat]'Wa).cs (min (w[x.u.toNat]'Wa).cs.length 16) := by
 rw [Ld, Ll h0 h]
theorem TH {w : Qs} {x : Zr} (h : x.u < 0 \/ (w.length : Int) <= x.u) : Ld w x = 0 := by rw [Ld, L9 h]
def So (w : Qs) (c : List Int) (u : Int) : Int := match uAt w u with
 | none => 0
 | some x => if (c.length : Int) <= u then 0 else if c.getD u.toNat 0 < -1 \/ ((min x.cs.length 16 : Nat) : Int) <= c.getD u.toNat 0 then 0 else 2 ^ (c.getD u.toNat 0 + 1).toNat
def inW (w : Qs) (u : Int) : Bool := decide (0 <= u) && decide (u < w.length)
/-! ### Trails -/
def FT (w : Qs) (l : List JH) (u : Int) : Int := l.foldl (fun a s => if s.u = u /\ inW w u = true then s.m else a) (DU w u)
def DV (l : List JH) : Int := match l.getLast? with
 | none => 0
 | some s => s.l
def TG (l : List JH) (u : Int) : Bool := l.any fun s => decide (s.u = u) && decide (s.c = -1)
def CL (w : Qs) (l : List JH) (inc : List Gt) : Bool := inc.all fun t => decide (ME (FT w l t.u) t.m = 2)
def NL (have_ : Int -> Int) : List Gt -> Int -> Int
 | [], at_ => at_
 | t :: r, at_ => if ME (have_ t.u) t.m = 0 then -1 else if ME (have_ t.u) t.m = 1 then (if 0 <= at_ then -1 else NL have_ r t.u) else NL have_ r at_
def DW (w : Qs) (l : List JH) (inc : List Gt) : Int := NL (FT w l) inc (-1)
def Rf (w : Qs) (l : List JH) : Nat -> List (List Gt) -> Int × Int
 | _, [] => (-1, -1)
 | i, x :: r => if CL w l x = true then (i, -1) else if 0 <= DW w l x then (i, DW w l x) else Rf w l (i + 1) r
def CK (w : Qs) (db : List (List Gt)) (l : List JH) : Int × Int := Rf w l 0 db
end M25
namespace M25
open Go Go.Abs M3
section
variable {fr : QaE} {H : QaD} {t u : Nat}
theorem Te {k n : Nat} {b : Box} {d : D} (hb : lk H k = some b) (hp : b.pr = true) (hn : n = b.rows.length) (hd : .sl b.rows = d) : JD ⟨fr, H⟩ (.osl k n) = d := by
 unfold JD; rw [CJ (S := FN) rfl hb hp hn]; exact hd
theorem Jx {e : Z8} {k n : Nat} {b : Box} {d : D} (h : lk fr t = some (.osl k n)) (hb : lk H k = some b) (hp : b.pr = true) (hn : n = b.rows.length) (hd : .sl b.rows = d) (he : e = .ret \/ e = .normal := by first | exact .inl rfl | exact .inr rfl) : Post [.tmp t] d e ⟨fr, H⟩ :=
 YP h (Te hb hp hn hd) he
end
theorem MF {w : Qs} {c : List Int} {u : Int} (h0 : 0 <= u) (h1 : u < w.length) (h2 : u < c.length) (h : ¬ c[u.toNat]'Wa < -1) (h' : ¬ min (((w[u.toNat]'Wa).cs.length : Nat) : Int) 16 <= c[u.toNat]'Wa) : So w c u = 2 ^ (c[u.toNat]'Wa + 1).toNat := by
 rw [So, Ll h0 h1]
 simp only []
 rw [if_neg Wa, List.getD_eq_getElem?_getD, List.getElem?_eq_getElem Wa]
 simp only [Option.getD_some]
 rw [if_neg]
 omega
end M25
namespace M25
open Go Go.Abs M3
open Go Go.Abs M3
/-! ### Bits of numbers -/
theorem PH (e : Int) : IntKind.i64.wrap e = (BitVec.ofInt 64 e).toInt := by
 have hb : (BitVec.ofInt 64 e).toInt = if e % 18446744073709551616 < 9223372036854775808 then e % 18446744073709551616 else e % 18446744073709551616 - 18446744073709551616 := by
  rw [BitVec.toInt_ofInt]; rfl
 rw [hb]
 unfold IntKind.wrap
 simp only [IntKind.bits, IntKind.signed, Bool.true_and]
 split
 ·rename_i h
  have := of_decide_eq_true h
  split <;> omega
 ·rename_i h
  have : ¬ (e % 2 ^ 64 >= 2 ^ (64 - 1)) := fun hh => h (decide_eq_true hh)
  split <;> omega
theorem Fx (b : BitVec 64) : BitVec.ofInt 64 (b.toNat : Int) = b := by
 rw [BitVec.ofInt_natCast, BitVec.ofNat_toNat, BitVec.setWidth_eq]
theorem DJ (x y : Int) : BitVec.ofInt 64 (RR x y) = BitVec.ofInt 64 x &&& BitVec.ofInt 64 y := by
 show BitVec.ofInt 64 (IntKind.i64.wrap ((BitVec.ofInt 64 x &&& BitVec.ofInt 64 y).toNat : Int)) = _
 rw [PH, BitVec.ofInt_toInt, Fx]
theorem Cy (x y : Int) : BitVec.ofInt 64 (bor x y) = BitVec.ofInt 64 x ||| BitVec.ofInt 64 y := by
 show BitVec.ofInt 64 (IntKind.i64.wrap ((BitVec.ofInt 64 x ||| BitVec.ofInt 64 y).toNat : Int)) = _
 rw [PH, BitVec.ofInt_toInt, Fx]
theorem TA {x : Int} (h : I64 x) : IntKind.i64.wrap x = x := Qv h.1 h.2
theorem T6 {x : Int} (h : I64 x) : (BitVec.ofInt 64 x).toInt = x := by rw [<- PH, TA h]
theorem LQ (x y : Int) : I64 (RR x y) := M0 _
theorem DR (x y : Int) : I64 (bor x y) := M0 _
def tb (x : Int) (i : Nat) : Bool := (BitVec.ofInt 64 x).getLsbD i
theorem D7 (x y : Int) (i : Nat) : tb (RR x y) i = (tb x i && tb y i) := by rw [tb, DJ, BitVec.getLsbD_and]; rfl
theorem D8 (x y : Int) (i : Nat) : tb (bor x y) i = (tb x i || tb y i) := by rw [tb, Cy, BitVec.getLsbD_or]; rfl
theorem TV (x : Int) {i : Nat} (h : 64 <= i) : tb x i = false := BitVec.getLsbD_of_ge _ i h
theorem Lk {x y : Int} (hx : I64 x) (hy : I64 y) (h : ∀ i, tb x i = tb y i) : x = y := by
 rw [<- T6 hx, <- T6 hy]
 congr 1
 exact BitVec.eq_of_getLsbD_eq fun i _ => h i
theorem NX (i : Nat) : tb 0 i = false := by
 show (BitVec.ofInt 64 0).getLsbD i = false
 rw [show BitVec.ofInt 64 0 = 0#64 from rfl, BitVec.getLsbD_zero]
theorem Pk {x : Int} (hx : I64 x) : x = 0 ↔ ∀ i, tb x i = false := by
 constructor
 ·rintro rfl i; exact NX i
 ·intro h; exact Lk hx ⟨Wa, Wa⟩ fun i => by rw [h i, NX]
theorem SZ (n : Nat) {i : Nat} (h : i < 64) : tb (n : Int) i = n.testBit i := by
 rw [tb, BitVec.ofInt_natCast, BitVec.getLsbD_ofNat]; simp [h]
theorem Rh {k : Nat} (hk : k < 64) (i : Nat) : tb ((2 : Int) ^ k) i = decide (i = k) := by
 have e : ((2 ^ k : Nat) : Int) = (2 : Int) ^ k := by simp
 by_cases h : i < 64
 ·rw [<- e, SZ _ h, Nat.testBit_two_pow]
  exact decide_eq_decide.2 eq_comm
 ·rw [TV _ Wa]; exact (decide_eq_false Wa).symm
theorem Td {x m : Int} : RR x m = 0 ↔ ∀ i, tb x i = true -> tb m i = false := by
 rw [Pk (LQ x m)]
 refine forall_congr' fun i => ?_
 rw [D7]; cases tb x i <;> cases tb m i <;> simp
def Lo (x : Int) : Prop := 0 <= x /\ x < 131072
theorem Np {x : Int} {k : Nat} (hk : k < 64) : RR x (2 ^ k) = 0 ↔ tb x k = false := by
 rw [Td]
 constructor
 ·intro h
  cases hx : tb x k
  ·rfl
  ·have := h k hx; rw [Rh hk] at this; simp at this
 ·intro h i hi
  rw [Rh hk]
  by_cases e : i = k
  ·subst e; rw [h] at hi; cases hi
  ·exact decide_eq_false e
open Go Go.Abs M3
/-! ### Trails: the loops' laws -/
def Dv (w : Qs) (l : List JH) : Prop := ∀ s ∈ l, Lo s.m
open Go Go.Abs M3
open Go Go.Abs M3
/-! ### prop: what is left of each unit, scans -/
structure Du (w : Qs) (db : List (List Gt)) (l : List JH) (a : Nat) (k : Nat) : Prop where
  ha : a < db.length
  hk : k < db[a].length
  eq : CK w db l = ((a : Int), db[a][k].u)
  one : ME (FT w l db[a][k].u) db[a][k].m = 1
  two : ∀ j, ∀ hj : j < db[a].length, j ≠ k -> ME (FT w l db[a][j].u) db[a][j].m = 2
def Bb (w : Qs) (l : List JH) (t : Gt) (c : Int) : JH := ⟨t.u, C9 (FT w l t.u) t.m, DV l, c⟩
open Go Go.Abs M3
/-! ### Sets that are made: moderate sizes -/
def SmN (n : Nat) (l : List (Cu × Cu)) : Prop := l.length <= n /\ ∀ s ∈ l, Cu.sm s.1 /\ Cu.sm s.2
def C7 (n : Nat) (s : S5) : Prop := SmN n s.1 /\ SmN n s.2
def bnd (i : Nat) : Nat := 4 * 2 ^ i
def Cs (s : S5) : Prop := C7 600000 s
def v0 : Vr := ⟨0, 0, 0, [], []⟩
/-! ### Made sets may be -/
def VsL (l : List Vr) : Prop := l.Sublist NZ \/ l = [v0]
def Dy (s : S5) : Prop := Cs s /\ KV s = true
structure CR where
 v : Vr
 x : D
 y : D
 z : D
def dCR (r : CR) : List D := [.int .i64 r.v.a, .int .i64 r.v.b, .int .i64 r.v.c, .str r.v.p, .str r.v.q, r.x, r.y, r.z]
def C8 (zs : List CR) : Prop := VsL (zs.map CR.v)
structure UR where
 n : List UInt8
 f : List UInt8
 k : Nat
 cs : List CR
def dUR (u : UR) : List D := [.str u.n, .str u.f, .osl u.k u.cs.length]
structure Fam (H : QaD) (kg ku eu ec : Nat) (us : List UR) : Prop where
 ne : ku ≠ kg
 u : ∃ pr, lk H ku = some ⟨us.map dUR, 3, eu, pr⟩
 c : ∀ y ∈ us, y.k ≠ kg /\ ∃ pr, lk H y.k = some ⟨y.cs.map dCR, 8, ec, pr⟩
 v : ∀ y ∈ us, y.cs.length <= 16 /\ ∀ z ∈ y.cs, Tc z.v
 vs : ∀ y ∈ us, C8 y.cs
end M25
namespace M25
open Go Go.Abs M3
/-! ### The boxes of a world under way -/
def T1 (us : List UR) : Prop := ∀ j, ∀ h : j < us.length, us[j].k = 500001 + j
def zr (v : Vr) (sh : Int) : CR := ⟨v, .int .i64 sh, .fsl [], .fsl []⟩
def Dt (u : UR) : Prop := u.cs.length <= 4 /\ ∀ z ∈ u.cs, ∃ v sh, z = zr v sh /\ Tc v
section
variable {l : List Nat} {fr fr1 fr' : QaE} {B : QaD} {kg eg eu ec : Nat} {L : List Int} {J : Int} {us : List UR}
end
def u0 (v : Vr) : UR := ⟨[], [], 500001, [zr v (-1)]⟩
def names5 : List (List UInt8) := [[97, 110, 116], [98, 101, 101], [99, 111, 119], [100, 111, 103], [101, 108, 107]]
structure UnitsIn (us : List UR) : Prop where
 keys : T1 us
 fresh : ∀ u ∈ us, Dt u
 first : ∃ z rest, us = ⟨[], [], 500001, [z]⟩ :: rest
/-! ### What units are called, and of which NZ they are -/
def nmR (r : Nat) : List UInt8 := names5.getD (r / 2) []
def ftR (r : Nat) : List UInt8 := if r % 2 = 1 then [102] else []
def shp (u : UR) : List UInt8 × List UInt8 × List Vr := (u.n, u.f, u.cs.map CR.v)
inductive UL : Nat -> List (List UInt8 × List UInt8 × List Vr) -> Prop
 | base : UL 0 [([], [], [v0])]
 | snoc {b r : Nat} {l : List (List UInt8 × List UInt8 × List Vr)} {vs : List Vr} (h : UL b l) (hb : b <= r) (hr : r < 10) (hf : r % 2 = 1 -> 2 <= l.length) (hc : vs.Sublist NZ) : UL (r + 1) (l ++ [(nmR r, ftR r, vs)])
 | up {b b' : Nat} {l : List (List UInt8 × List UInt8 × List Vr)} (h : UL b l) (hb : b <= b') : UL b' l
end M25
namespace M25
open Go Go.Abs M3
/-! ### A world under way: one candidate after the other is filled -/
section
variable {us : List UR} {eu ec eg : Nat} {L : List Int} {J : Int} {b4 : Box}
end
/-! ### Filled candidates -/
def DC (n : Nat) (x : Zr) : Prop := 0 < x.u /\ x.u < n /\ Dy x.s
structure T0 (n : Nat) (c : CandT) : Prop where
 v : Tc c.v
 nl : c.ns.length <= 10
 nr : ∀ r ∈ c.ns, (1 <= r.length /\ r.length <= 2) /\ ∀ x ∈ r, DC n x
 bl : c.bs.length <= 1
 bw : ∀ x ∈ c.bs, DC n x
def Ba (c : CandT) : CR := ⟨c.v, .int .i64 c.sh, JV c.ns, YC c.bs⟩
def Co (n : Nat) (z : CR) : Prop := ∃ c, z = Ba c /\ T0 n c
def Dq (z : CR) : Prop := ∃ v sh, z = zr v sh /\ Tc v
structure Prog (n : Nat) (us : List UR) (i k : Nat) : Prop where
 keys : T1 us
 len : us.length = n /\ 2 <= n /\ n <= 11
 cl : ∀ u ∈ us, u.cs.length <= 4
 done : ∀ j, ∀ hj : j < us.length, ∀ m, ∀ hm : m < us[j].cs.length, (j < i \/ (j = i /\ m < k)) -> Co n us[j].cs[m]
 fresh : ∀ j, ∀ hj : j < us.length, ∀ m, ∀ hm : m < us[j].cs.length, ¬ (j < i \/ (j = i /\ m < k)) -> Dq us[j].cs[m]
 ul : ∃ b, UL b (us.map shp)
def Be (x : FM) : List UInt8 × List UInt8 × List Vr := (x.n, x.f, x.cs.map CandT.v)
structure WMade (w : Qs) : Prop where
 sm : WSm w
 len : 2 <= w.length /\ w.length <= 11
 cs : ∀ u ∈ w, u.cs.length <= 4
 cand : ∀ u ∈ w, ∀ c ∈ u.cs, T0 w.length c
 ul : ∃ b, UL b (w.map Be)
end M25
namespace M25
open Go Go.Abs M3
/-! ### Trails that may be -/
open Go Go.Abs M3
/-! ### What every program says -/
/-! ### A world's facts, and more -/
end M25
namespace M25
open Go Go.Abs M3
/-! ### What a run is: steps, one open after the other -/
inductive RN (w : Qs) (db : List (List Gt)) : List JH -> List JH -> Prop
 | nil (l : List JH) : RN w db l l
 | cons {l x : List JH} (a k : Nat) (ho : Du w db l a k) (h : RN w db (l ++ [Bb w l ((db[a]'ho.ha)[k]'ho.hk) a]) x) : RN w db l x
section
variable {w : Qs} {db : List (List Gt)}
def Below (w : Qs) (b l : List JH) : Prop := ∀ u i, tb (FT w b u) i = true -> tb (FT w l u) i = true
/-! ### Sound: a choice stays -/
end
end M25
namespace M25
open Go Go.Abs M3
end M25
namespace M25
open Go Go.Abs M3
/-! ### More of runs -/
open Go Go.Abs M3
/-! ### The facts in another order -/
open Go Go.Abs M3
/-! ### How long a run is -/
structure Good (w : Qs) (l : List JH) : Prop where
 p : Dv w l
 nz : ∀ u, inW w u = true -> FT w l u ≠ 0
 le : ∀ u i, tb (FT w l u) i = true -> tb (DU w u) i = true
open Go Go.Abs M3
/-! ### Masks are of values that there are -/
/-! ### Each step of a run -/
end M25
namespace M25
open Go Go.Abs M3
open Go Go.Abs M3
/-! ### One without terms -/
open M3
def XV (e a b c : Int) (p q : List UInt8) (f : Bool) : Bool := !decide (e = 0) || (!f && decide (p = []) && !(decide (a = 0) && (decide (b = 0) && (decide (c = 0) && (decide (p = []) && (decide (q = []) && true))))))
def Yy (x : Cu) : Bool := XV x.e x.a x.b x.c x.p x.q x.f
theorem T9 {e a b c : Int} {p q : List UInt8} {f : Bool} (h : Ys e a b c p q f = true) : q = [] := by
 unfold Ys at h
 split at h
 ·simp at h; exact h.2
 ·simp at h; exact h.1.2.2.2.2.2
theorem HN {x : Cu} (h : x.q = []) : Yy x = YF x := by
 rw [Yy, YF, XV, Gm, Fr, h]
 cases decide (x.e = 0) <;> cases x.f <;> cases hp : decide (x.p = []) <;> cases decide (x.a = 0) <;> cases decide (x.b = 0) <;> cases decide (x.c = 0) <;> simp_all
theorem HL {x : Cu} (h : YF x = true) : Yy x = true := by
 rw [YF, Gm, Fr] at h
 rw [Yy, XV]
 revert h
 cases decide (x.e = 0) <;> cases x.f <;> cases hp : decide (x.p = []) <;> cases decide (x.a = 0) <;> cases decide (x.b = 0) <;> cases decide (x.c = 0) <;> simp
theorem DX {l : List (Cu × Cu)} (h : KU l = true) {s : Cu × Cu} (hs : s ∈ l) : s.1.q = [] /\ s.2.q = [] := by
 obtain ⟨i, hi, rfl⟩ := List.mem_iff_getElem.1 hs
 have := QaQ.1 h i (Qa2.2 hi)
 rw [Pt hi, QaK] at this
 have h1 := this.1
 simp only [MD, J0, QaK] at h1
 exact ⟨T9 h1.1.1, T9 h1.1.2⟩
theorem GH {s : List (Cu × Cu) × List (Cu × Cu)} {i : Nat} (hi : s.1.length <= i) (h : (s.1.take i).all (fun x => Yy x.1 && Yy x.2) = true) : KV s = (KU s.1 && KU s.2) := by
 rw [QaW hi] at h
 rw [KV]
 cases h1 : KU s.1 with
 | false => rfl
 | true =>
  have : (s.1.all fun x => YF x.1 && YF x.2) = true := by
   rw [QaQ] at h ⊢
   intro x hx
   obtain ⟨q1, q2⟩ := DX h1 hx
   rw [<- HN q1, <- HN q2]
   exact h x hx
  rw [this, Bool.true_and, Bool.and_true]
theorem XW {s : List (Cu × Cu) × List (Cu × Cu)} {i : Nat} (hi : i < s.1.length) (h : Yy s.1[i].1 = false \/ Yy s.1[i].2 = false) : KV s = false :=
 XG hi (h.imp (fun h => by cases e : YF s.1[i].1 with
  | false => rfl
  | true => rw [HL e] at h; cases h) (fun h => by cases e : YF s.1[i].2 with
  | false => rfl
  | true => rw [HL e] at h; cases h))
end M25
namespace Go.Abs
open Go
/-! ### Cells told otherwise -/
section
variable {fr : QaE} {H : QaD}
end
end Go.Abs
namespace Go.Abs
abbrev gD : D := .ptr [.int .i64 0, .int .i64 0, .int .i64 0, .str [], .str []]
end Go.Abs
namespace Go.Proofs
open Go Go.Abs M3 M25
theorem G0 {l : List (Cu × Cu)} (hl : Sm l) : Ok Tryd.prog 67 [Yj l] (.bool (KU l)) := by
 refine Ok.ofT ZS Tryd.func67 Qag (QaG Z) ?_
 show TW _ _ tf67.body _ _
 have hn := hl.1
 refine Qd fun K hK => Qa Z (kc1 hK Z ?_)
 refine Qz ?_ -- 0
 refine Qd fun K hK => Qa Z (QK Z Z (Qa Z (kc4 hK Z Z Z Z ?_)))
 refine Qy ?_
 refine Zd (ι := Nat) (fun i => ⟨[(0, Yj l), (5, Yj l), (6, .int .i64 l.length), (7, .int .i64 i)], []⟩) (fun i => i <= l.length /\ (List.range i).all (L0 l) = true) (fun i => l.length - i) 0 ?_ ?_ ?_
 ·exact QQ (l := [0, 5, 6, 7]) (kp4 rfl rfl rfl rfl) Qk (by simp [Yj, List.length_map]) rfl rfl
 ·exact ⟨QaS _, rfl⟩
 intro i hI
 try dsimp only
 refine Qd fun K hK => ZZ Z Z (kc5 hK Z Z Z Z Z ?_)
 refine Qz ?_ -- 1
 refine Qr Z (fun h1 => ?_) (fun h1 => ?_)
 ·try rw [h1]
  try simp only [qA] at h1
  refine Qp (ks4 Z Z Z Z ?_)
  refine Qz ?_ -- 2
  refine Qy (Qd fun K hK => Qa Z (QH Z Z Z Wa (QX Wa) Z (QA (cs := [_, _, _, _, _, _, _, _, _, _, _, _, _, _]) Z Z Z Z (ZT Z (Qa Z (ZG Z Z Z Z Z Z Z Z (kc6 hK Z Z Z Z Z Z ?_)))))))
  refine Qd fun K hK => QV (ds0 := [17, 16, 15, 14, 13, 12, 11, 10, 9, 8, 7, 6, 5, 4, 3, 2, 1, 0]) (cs := [_, _, _, _, _, _, _, _, _, _, _, _, _, _]) Z Z Z Z Z Z (Q2 (ds0 := [16, 15, 14, 13, 12, 11, 10, 9, 8, 7, 6, 5, 4, 3, 2, 1, 0]) (Hb (hl.at (i := i) Wa).1.1 (hl.at (i := i) Wa).1.2 (hl.at (i := i) Wa).2.1 (hl.at (i := i) Wa).2.2) Z Z (.inr Z) Z Z (Zm Z (Qa Z ?_)))
  refine Qo (g := 15) Z (fun h2 => ?_) (fun h2 => ?_)
  ·try rw [h2]
   try simp only [qA] at h2
   refine gn3 Z Z Z (Qq Z (Qq Z (Qq Z (Qq Z (Qq Z (Qq Z (Qq Z (Qq Z (Qq Z ?_)))))))))
   refine Qq Z (Y8 Z (Qf Z Z (kc5 hK Z Z Z Z Z ?_)))
   refine QW Z (Qd fun K hK => Qa Z (kc1 hK Z ?_))
   refine Qn (Qi (Qh (QC (Qi (Qh (Qe Z ?_))))))
   first
    | exact (Kj hI.2 Wa).symm
    | exact (Yx (i := i) Wa (JF Wa (.inl h2))).symm
    | (simp only [Y7] at *; exact (Yx (i := i) Wa (JF Wa (.inr ⟨Wa, h4⟩))).symm)
  ·try rw [h2]
   try simp only [qA] at h2
   refine Qb Z (Qa Z (Qb Z (Y9 Z Z (Qb Z (Qa Z ?_)))))
   refine Qo (g := 18) Z (fun h3 => ?_) (fun h3 => ?_)
   ·try rw [h3]
    try simp only [qA] at h3
    refine Qb Z (Qa Z (Qb Z (Qa Z (Qb Z (HV Z Z Wb (Qb Z (QH Z Z Z Wa (Q6 Wa Wa) Z (Qb Z (Za Z Z (Qb Z (QV (ds0 := [3, 2, 1, 0]) (cs := [_, _, _, _, _, _, _]) Z Z Z Z Z Z ?_)))))))))))
    refine Qb Z (Qg Z Z (Qb Z (QV (ds0 := [3, 2, 1, 0]) (cs := [_, _, _, _, _, _, _]) Z Z Z Z Z Z (Qb Z (Q2 (ds0 := [2, 1, 0]) (Ha (hl.at (i := ((i : Int) - 1).toNat) Wa).2.1 (hl.at (i := ((i : Int) - 1).toNat) Wa).2.2 (hl.at (i := i) Wa).1.1 (hl.at (i := i) Wa).1.2) Z Z (.inr Z) Z Z (Qb Z (Nk Z Z (Qb Z (Qf Z Z (Qf Z Z (kc5 hK Z Z Z Z Z ?_)))))))))))
    refine Qr Z (fun h4 => ?_) (fun h4 => ?_)
    ·try rw [h4]
     try simp only [qA] at h4
     refine Qd fun K hK => Qa Z (kc1 hK Z ?_)
     refine Qn (Qi (Qh (QC (Qi (Qh (Qe Z ?_))))))
     first
      | exact (Kj hI.2 Wa).symm
      | exact (Yx (i := i) Wa (JF Wa (.inl h2))).symm
      | (simp only [Y7] at *; exact (Yx (i := i) Wa (JF Wa (.inr ⟨Wa, h4⟩))).symm)
    ·try rw [h4]
     try simp only [qA] at h4
     refine Qp (Qj (ks4 Z Z Z Z (QP fun K hK => Q9 Z Z Wb (Qa Z (hK _ ?_)))))
     refine Ql (i + 1) ?_ ?_ ?_
     ·exact QQ (l := [0, 5, 6, 7]) (lH := []) (kp4 rfl rfl rfl rfl) Qk rfl rfl rfl
     ·exact ⟨Wa, GN hI.2 (P7 Wa h2 (by first | exact .inl Wa | (simp only [Y7] at *; exact .inr (Int.not_le.1 h4))))⟩
     ·first | omega | (simp only; omega) | (dsimp only; omega)
   ·try rw [h3]
    try simp only [qA] at h3
    refine gn4 Z Z Z Z (gn4 Z Z Z Z (gn2 Z Z (Qb Z (Qf Z Z ?_))))
    refine Qf Z Z (kc5 hK Z Z Z Z Z ?_)
    refine Zo Z (Qp (Qj (ks4 Z Z Z Z (QP fun K hK => Q9 Z Z Wb (Qa Z (hK _ ?_))))))
    refine Ql (i + 1) ?_ ?_ ?_
    ·exact QQ (l := [0, 5, 6, 7]) (lH := []) (kp4 rfl rfl rfl rfl) Qk rfl rfl rfl
    ·exact ⟨Wa, GN hI.2 (P7 Wa h2 (by first | exact .inl Wa | (simp only [Y7] at *; exact .inr (Int.not_le.1 h4))))⟩
    ·first | omega | (simp only; omega) | (dsimp only; omega)
 ·try rw [h1]
  try simp only [qA] at h1
  refine Q1 (QD (Qu (QE (QM (QZ) (Qd fun K hK => Qa Z (kc1 hK Z ?_))))))
  refine Qn (Qe Z ?_)
  first
   | exact (Kj hI.2 Wa).symm
   | exact (Yx (i := i) Wa (JF Wa (.inl h2))).symm
   | (simp only [Y7] at *; exact (Yx (i := i) Wa (JF Wa (.inr ⟨Wa, h4⟩))).symm)
theorem Mh {l : List (Cu × Cu)} (hl : Sm l) {a b c : Int} {p q : List UInt8} (hp : p.length <= 1048576) (hq : q.length <= 1048576) : Ok Tryd.prog 54 [Yj l, .agg [.int .i64 a, .int .i64 b, .int .i64 c, .str p, .str q]] (.bool (FS l a b c p q)) := by
 refine Ok.ofT ZS Tryd.func54 BZ (QaG Z) ?_
 show TW _ _ tf54.body _ _
 have hn := hl.1
 refine Qd fun K hK => Zq Z Z Z (Qa Z (kc2 hK Z Z ?_))
 refine Qz ?_ -- 0
 refine Qd fun K hK => Qa Z (QB (G0 hl) Z Z (.inr Z) (Zm Z (kc3 hK Z Z Z ?_)))
 refine Qr Z (fun h1 => ?_) (fun h1 => ?_)
 ·try rw [h1]
  try simp only [qA] at h1
  refine Qd fun K hK => Qa Z (kc1 hK Z ?_)
  refine Qn (Qh (Qe Z ?_))
  first
   | exact (Kd (i := i) Wa hI.2).symm
   | exact (Ke h1).symm
   | exact (Kf h1 (i := i) Wa h3).symm
 ·try rw [h1]
  try simp only [qA] at h1
  refine Qp (ks2 Z Z ?_)
  refine Qz ?_ -- 1
  refine Qd fun K hK => Qa Z (QK Z Z (Qa Z (kc4 hK Z Z Z Z ?_)))
  refine Qy ?_
  refine Zd (ι := Nat) (fun i => ⟨[(3, .ref 3 0 0), (10, Yj l), (11, .int .i64 l.length), (12, .int .i64 i)], [(3, ⟨[[.int .i64 a, .int .i64 b, .int .i64 c, .str p, .str q]], 5, 41, true⟩)]⟩) (fun i => i <= l.length /\ (l.take i).any (fun s => Fq s a b c p q) = false) (fun i => l.length - i) 0 ?_ ?_ ?_
  ·exact QQ (l := [3, 10, 11, 12]) (lH := [3]) (kp4 rfl rfl rfl rfl) (Qc rfl Qk) (by simp [Yj, List.length_map]) rfl rfl
  ·exact ⟨QaS _, by simp⟩
  intro i hI
  try dsimp only
  refine Qd fun K hK => ZZ Z Z (kc5 hK Z Z Z Z Z ?_)
  refine Qz ?_ -- 2
  refine Qr Z (fun h2 => ?_) (fun h2 => ?_)
  ·try rw [h2]
   try simp only [qA] at h2
   refine Qp (ks4 Z Z Z Z ?_)
   refine Qz ?_ -- 3
   refine Qy (Qd fun K hK => QH Z Z Z Wa (QX Wa) Z (QA (cs := [_, _, _, _, _, _, _, _, _, _, _, _, _, _]) Z Z Z Z (ZT Z (ZG Z Z Z Z Z Z Z Z (kc5 hK Z Z Z Z Z ?_)))))
   refine Qd fun K hK => QA (cs := [_, _, _, _, _, _, _, _, _, _, _, _, _, _]) Z Z Z Z (QA (cs := [_, _, _, _, _]) Z Z Z Z (QB (Pb (hl.at (i := i) Wa).1.1 (hl.at (i := i) Wa).1.2 (hl.at (i := i) Wa).2.1 (hl.at (i := i) Wa).2.2 hp hq) Z Z (.inr Z) (kc5 hK Z Z Z Z Z ?_)))
   refine Qr Z (fun h3 => ?_) (fun h3 => ?_)
   ·try rw [h3]
    try simp only [qA] at h3
    refine Qd fun K hK => Qa Z (kc1 hK Z ?_)
    refine Qn (Qi (Qh (QC (Qi (Qh (Qe Z ?_))))))
    first
     | exact (Kd (i := i) Wa hI.2).symm
     | exact (Ke h1).symm
     | exact (Kf h1 (i := i) Wa h3).symm
   ·try rw [h3]
    try simp only [qA] at h3
    refine Qp (Qj (ks4 Z Z Z Z (QP fun K hK => Q9 Z Z Wb (Qa Z (hK _ ?_)))))
    refine Ql (i + 1) ?_ ?_ ?_
    ·exact QQ (l := [3, 10, 11, 12]) (lH := [3]) (kp4 rfl rfl rfl rfl) (Qc rfl Qk) rfl rfl rfl
    ·exact ⟨Wa, PJ Wa hI.2 h3⟩
    ·first | omega | (simp only; omega) | (dsimp only; omega)
  ·try rw [h2]
   try simp only [qA] at h2
   refine Q1 (QD (Qu (QE (QM (QZ) (Qd fun K hK => Qa Z (kc1 hK Z ?_))))))
   refine Qn (Qe Z ?_)
   first
    | exact (Kd (i := i) Wa hI.2).symm
    | exact (Ke h1).symm
    | exact (Kf h1 (i := i) Wa h3).symm
theorem Hg {e a b c : Int} {p q : List UInt8} {f : Bool} : Ok Tryd.prog 66 [.agg [.int .i64 e, .int .i64 a, .int .i64 b, .int .i64 c, .str p, .str q, .bool f], gD] (.bool (XV e a b c p q f)) := by
 refine Ok.ofTG (ds := [.agg [.int .i64 e, .int .i64 a, .int .i64 b, .int .i64 c, .str p, .str q, .bool f]]) (dg := gD) ZS Tryd.func66 Qaf (QaG Z) ?_
 show TW _ _ tf66.body _ _
 refine Qd fun K hK => Zq Z Z Z (Qa Z (kc2 hK Z Z ?_))
 refine Qd fun K hK => Qg Z Z (Qw Z Z Z (Z3 Z Z (Qa Z ?_)))
 refine Qo (g := 6) Z (fun h1 => ?_) (fun h1 => ?_)
 ·try rw [h1]
  try simp only [qB] at h1
  refine gn4 Z Z Z Z (Qq Z (Qq Z (Qq Z (Qq Z (gn2 Z Z (Qq Z (Qq Z ?_)))))))
  refine Qq Z (Qq Z (Y8 Z (Qf Z Z (Qa Z (kc1 hK Z ?_)))))
  refine Qn (Qe Z ?_)
  (repeat clear hK K); simp_all [XV]
 ·try rw [h1]
  try simp only [qB] at h1
  refine Qb Z (Qg Z Z (Qb Z (Qw Z Z Z (Qb Z (Zm Z (Qb Z (Qa Z ?_)))))))
  refine Qo (g := 10) Z (fun h2 => ?_) (fun h2 => ?_)
  ·try rw [h2]
   try simp only [qB] at h2
   refine Qb Z (Qg Z Z (Qb Z (Qg Z Z (Qb Z (Qw Z Z Z (Qb Z (Jb Z Z (Qb Z (Qf Z Z (Qb Z (Qa Z ?_)))))))))))
   refine Qo (g := 16) Z (fun h3 => ?_) (fun h3 => ?_)
   ·try rw [h3]
    try simp only [qB] at h3
    refine Qb Z (Qg Z Z (Qb Z (QA (cs := [_, _, _, _, _]) Z Z Z Z (Qb Z (QA (cs := [_, _, _, _, _]) Z Z Z Z (Qb Z (T3 Z Z Z (Qb Z (Qf Z Z (Qf Z Z (Qa Z ?_)))))))))))
    refine kc1 hK Z ?_
    refine Qn (Qe Z ?_)
    (repeat clear hK K); simp_all [XV]
   ·try rw [h3]
    try simp only [qB] at h3
    refine gn4 Z Z Z Z (Qb Z (Qf Z Z (Qf Z Z (Qa Z (kc1 hK Z ?_)))))
    refine Qn (Qe Z ?_)
    (repeat clear hK K); simp_all [XV]
  ·try rw [h2]
   try simp only [qB] at h2
   refine gn4 Z Z Z Z (Qb Z (Qf Z Z (Qb Z (Qa Z (gn4 Z Z Z Z ?_)))))
   refine Qb Z (Qf Z Z (Qf Z Z (Qa Z (kc1 hK Z ?_))))
   refine Qn (Qe Z ?_)
   (repeat clear hK K); simp_all [XV]
end Go.Proofs
