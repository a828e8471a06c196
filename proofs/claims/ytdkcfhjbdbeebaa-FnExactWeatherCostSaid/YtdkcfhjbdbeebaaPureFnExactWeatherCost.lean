/- Proves that on every 64-bit cost and either weather flag the plain form of the law FnExactWeatherCost answers true.
   Conditions: the first argument is a 64-bit signed integer; none else. -/
import Derived.Test.YtdkcfhjbdbeebaaPFnExactWeatherCostx1
namespace Go.Proofs.Ytdkcfhjbdbeebaa.Pure
open Go.RowKit Go.Proofs.Ytdkcfhjbdbeebaa.PFnExactWeatherCost Go.Proofs.YtdkcfhjbdbeebaaW.PrintWords Go.Proofs.YtdkcfhjbdbeebaaW.PrintLast

/-- YOURS: ∀ (a0 : Int) (a1 : Bool), (Lit.int .i64 a0).wf = true → laws_FnExactWeatherCost.f a0 a1 = some true
What it reaches (each with k first where it has rounds; `.mono`: more rounds tell the same; `.l0`, ..: its loops, with `.mono_l`): spec_l1In.f, spec_csWeather.f, spec_WeatherCost.f, impl_inRange.f, impl_isWeather.f, impl_weatherCost.f, impl_WeatherCost.f, laws_FnExactWeatherCost.f -/
theorem FnExactWeatherCost : laws_FnExactWeatherCost.Pure := by
  intro a0 a1 _
  by_cases h0 : 0 ≤ a0
  · by_cases h2 : a0 ≤ 2
    · have h : a0 = 0 ∨ a0 = 1 ∨ a0 = 2 := by omega
      rcases h with rfl | rfl | rfl <;> cases a1 <;> decide +kernel
    · simp [laws_FnExactWeatherCost.f, spec_WeatherCost.f, spec_l1In.f, impl_WeatherCost.f, impl_isWeather.f, impl_inRange.f, h0, h2]
  · simp [laws_FnExactWeatherCost.f, spec_WeatherCost.f, spec_l1In.f, impl_WeatherCost.f, impl_isWeather.f, impl_inRange.f, h0]

end Go.Proofs.Ytdkcfhjbdbeebaa.Pure
