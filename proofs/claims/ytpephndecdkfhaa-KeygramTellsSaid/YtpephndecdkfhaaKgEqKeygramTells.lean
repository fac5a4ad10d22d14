/- KeygramTells: what its proof leads to. No condition. -/
import Derived.Test.YtpephndecdkfhaaKgPqKeygramTells
namespace Go.Proofs.Ytpephndecdkfhaa
open Go.RowKit Go.Proofs.YtpephndecdkfhaaW.PrintWords Go.Proofs.YtpephndecdkfhaaW.PrintLast Go.Proofs.YtpephndecdkfhaaW.PrintMore
set_option linter.unusedVariables false
set_option linter.unusedSimpArgs false
theorem rd_whole {x : Int} (h0 : 0 ≤ x) (h1 : x < 18446744073709551616) (r : List Int) : rdNum 0 0 (encN x ++ r) = (x, ((encN x).length : Int), 0) := by
  have := rdNum_encN x r 0 0 h0 (by omega) (fun h => by omega) (by omega)
  rw [this]; simp
theorem number_whole {x : Int} (h0 : 0 ≤ x) (h1 : x < 18446744073709551616) (r : List Int) (t : Int) : (RS.number ⟨encN x ++ r, t, 0⟩) = (⟨r, t + (encN x).length, 0⟩, x) := by
  unfold RS.number
  simp [rd_whole h0 h1 r]
theorem up_whole {x m e : Int} (h0 : 0 ≤ x) (h1 : x ≤ m) (hm : m < 18446744073709551616) (r : List Int) (t : Int) : (RS.up ⟨encN x ++ r, t, 0⟩ m e) = (⟨r, t + (encN x).length, 0⟩, x) := by
  rw [RS.up_yes rfl (by rw [number_whole h0 (by omega)]) (by rw [number_whole h0 (by omega)]; exact ⟨by omega, h1⟩), number_whole h0 (by omega)]
theorem take_whole (k r : List Int) (t : Int) : (RS.take ⟨k ++ r, t, 0⟩ (k.length : Int)) = (⟨r, t + k.length, 0⟩, k) := by
  unfold RS.take
  simp
  omega
theorem key_whole {k : List Int} (hk : 1 ≤ k.length ∧ k.length ≤ 8) (r : List Int) (t : Int) : ∃ t', kKey ⟨gkey k ++ r, t, 0⟩ = (⟨r, t', 0⟩, k) := by
  unfold gkey kKey
  have hu : RS.up ⟨encN (k.length : Int) ++ k ++ r, t, 0⟩ 8 5 = (⟨k ++ r, t + (encN (k.length : Int)).length, 0⟩, (k.length : Int)) := by
    rw [List.append_assoc]; exact up_whole (by omega) (by omega) (by decide) _ t
  rw [kU_ok (by rw [hu]; intro h; have := h.2; simp at this; omega), hu]
  exact ⟨_, take_whole k r _⟩
theorem gkeys_whole : ∀ {keys : List (List Int)} (h : ∀ k ∈ keys, 1 ≤ k.length ∧ k.length ≤ 8) (r : List Int) (t : Int) (ks : List (List Int)), ∃ t', gkeys keys.length ⟨keys.flatMap gkey ++ r, t, 0⟩ ks = (ks ++ keys, ⟨r, t', 0⟩)
  | [], _, r, t, ks => ⟨t, by simp [gkeys]⟩
  | k :: l, h, r, t, ks => by
    obtain ⟨t1, h1⟩ := key_whole (h k (by simp)) (l.flatMap gkey ++ r) t
    obtain ⟨t2, h2⟩ := gkeys_whole (keys := l) (fun x hx => h x (List.mem_cons_of_mem _ hx)) r t1 (ks ++ [k])
    refine ⟨t2, ?_⟩
    rw [List.flatMap_cons, List.append_assoc, List.length_cons, gkeys, h1, if_pos rfl, h2, List.append_assoc]
    rfl
/-- What stands behind the magic byte. -/
def gbody (a s r c f : Int) (keys : List (List Int)) : List Int := encN a ++ (encN s ++ (encN r ++ (encN c ++ (encN f ++ (encN (keys.length : Int) ++ keys.flatMap gkey)))))
theorem gbytes_body (a s r c f : Int) (keys : List (List Int)) : gbytes a s r c f keys = 75 :: gbody a s r c f keys := by
  unfold gbytes gbody; simp [encAll]
structure RightG (a s r c f : Int) (keys : List (List Int)) : Prop where
  a : 0 ≤ a ∧ a < 18446744073709551616
  s : 0 ≤ s ∧ s < 18446744073709551616
  r : 1 ≤ r ∧ r ≤ 512
  c : 1 ≤ c ∧ c ≤ 512
  f : 0 ≤ f ∧ f < 18446744073709551616
  n : keys.length ≤ 64
  k : ∀ k ∈ keys, 1 ≤ k.length ∧ k.length ≤ 8
theorem parse_whole {a s r c f : Int} {keys : List (List Int)} (h : RightG a s r c f keys) (tl : List Int) : ∃ t, kK (gbody a s r c f keys ++ tl) = (keys, ⟨tl, t, 0⟩) ∧ (kA (gbody a s r c f keys ++ tl)).2 = a ∧ (kB (gbody a s r c f keys ++ tl)).2 = s ∧ (kR (gbody a s r c f keys ++ tl)).2 = r ∧ (kC (gbody a s r c f keys ++ tl)).2 = c ∧ (kF (gbody a s r c f keys ++ tl)).2 = f := by
  have e : gbody a s r c f keys ++ tl = encN a ++ (encN s ++ (encN r ++ (encN c ++ (encN f ++ (encN (keys.length : Int) ++ (keys.flatMap gkey ++ tl)))))) := by unfold gbody; simp
  rw [e]
  have hA : kA _ = _ := number_whole h.a.1 h.a.2 (encN s ++ (encN r ++ (encN c ++ (encN f ++ (encN (keys.length : Int) ++ (keys.flatMap gkey ++ tl)))))) 0
  have hB := number_whole h.s.1 h.s.2 (encN r ++ (encN c ++ (encN f ++ (encN (keys.length : Int) ++ (keys.flatMap gkey ++ tl))))) (0 + (encN a).length)
  have hR := up_whole (e := 5) (by have := h.r; omega : (0 : Int) ≤ r) h.r.2 (by decide) (encN c ++ (encN f ++ (encN (keys.length : Int) ++ (keys.flatMap gkey ++ tl)))) (0 + (encN a).length + (encN s).length)
  have hC := up_whole (e := 5) (by have := h.c; omega : (0 : Int) ≤ c) h.c.2 (by decide) (encN f ++ (encN (keys.length : Int) ++ (keys.flatMap gkey ++ tl))) (0 + (encN a).length + (encN s).length + (encN r).length)
  have hF := number_whole h.f.1 h.f.2 (encN (keys.length : Int) ++ (keys.flatMap gkey ++ tl)) (0 + (encN a).length + (encN s).length + (encN r).length + (encN c).length)
  have hN := up_whole (e := 6) (by omega : (0 : Int) ≤ (keys.length : Int)) (by have := h.n; omega : (keys.length : Int) ≤ 64) (by decide) (keys.flatMap gkey ++ tl) (0 + (encN a).length + (encN s).length + (encN r).length + (encN c).length + (encN f).length)
  obtain ⟨t, hK⟩ := gkeys_whole h.k tl (0 + (encN a).length + (encN s).length + (encN r).length + (encN c).length + (encN f).length + (encN (keys.length : Int)).length) []
  refine ⟨t, ?_, ?_, ?_, ?_, ?_, ?_⟩
  · unfold kK kN kF kC kR kB; rw [hA, hB, hR, hC, hF, hN]; simpa using hK
  · rw [hA]
  · unfold kB; rw [hA, hB]
  · unfold kR kB; rw [hA, hB, hR]
  · unfold kC kR kB; rw [hA, hB, hR, hC]
  · unfold kF kC kR kB; rw [hA, hB, hR, hC, hF]
end Go.Proofs.Ytpephndecdkfhaa
