/- What the functions on semaphores hand back, as plain functions. -/
import Derived.Test.YtmmkbiljjhigfaaSemPlain
namespace Go.Proofs.Ytmmkbiljjhigfaa

def tryAcq (s : SemD) (c : Int) : SemD × Bool × Bool :=
  if semB s = true ∧ 1 ≤ c ∧ c ≤ s.limit then
    if s.q.length = 0 ∧ c ≤ s.free then (⟨s.free - c, s.limit, s.q⟩, true, true) else (s, false, true)
  else (SemD.zero, false, false)
def acq (s : SemD) (t c : Int) : SemD × Bool × Bool :=
  if semB s = true ∧ thrB t = true ∧ t ∉ s.q.map (·.1) ∧ 1 ≤ c ∧ c ≤ s.limit then
    if s.q.length = 0 ∧ c ≤ s.free then (⟨s.free - c, s.limit, s.q⟩, true, true) else (⟨s.free, s.limit, s.q ++ [(t, c)]⟩, false, true)
  else (SemD.zero, false, false)
def rel (s : SemD) (c : Int) : SemD × List Int × Bool :=
  if semB s = true ∧ 1 ≤ c ∧ c ≤ s.limit - s.free then (⟨(serve (s.free + c) s.q).1, s.limit, (serve (s.free + c) s.q).2.1⟩, (serve (s.free + c) s.q).2.2, true)
  else (SemD.zero, [], false)
end Go.Proofs.Ytmmkbiljjhigfaa
