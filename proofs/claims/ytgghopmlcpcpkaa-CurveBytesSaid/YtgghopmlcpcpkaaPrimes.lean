/- A step of the proof: what a function of the program computes, or a plain law of numbers. -/
import Derived.Test.YtgghopmlcpcpkaaLucas
set_option linter.unusedVariables false
set_option linter.unusedSimpArgs false
namespace PlainK
theorem pr_2 : IsPrime 2 := prime_small 0 (by decide) (by decide) (by decide +kernel)
theorem root_5 : Root 5 2 := by
  refine root_of_ok 3 [2, 2] ?_ (by decide +kernel)
  intro q hq
  simp only [List.mem_cons, List.not_mem_nil, or_false] at hq
  rcases hq with rfl | rfl
  all_goals first | exact pr_2
theorem pr_3 : IsPrime 3 := prime_small 0 (by decide) (by decide) (by decide +kernel)
theorem root_13 : Root 13 2 := by
  refine root_of_ok 4 [2, 2, 3] ?_ (by decide +kernel)
  intro q hq
  simp only [List.mem_cons, List.not_mem_nil, or_false] at hq
  rcases hq with rfl | rfl | rfl
  all_goals first | exact pr_2 | exact pr_3
theorem root_3 : Root 3 2 := by
  refine root_of_ok 2 [2] ?_ (by decide +kernel)
  intro q hq
  simp only [List.mem_cons, List.not_mem_nil, or_false] at hq
  rcases hq with rfl
  all_goals first | exact pr_2
theorem root_7 : Root 7 3 := by
  refine root_of_ok 3 [2, 3] ?_ (by decide +kernel)
  intro q hq
  simp only [List.mem_cons, List.not_mem_nil, or_false] at hq
  rcases hq with rfl | rfl
  all_goals first | exact pr_2 | exact pr_3
theorem pr_166667 : IsPrime 166667 := prime_small 407 (by decide) (by decide) (by decide +kernel)
theorem root_1000003 : Root 1000003 2 := by
  refine root_of_ok 20 [2, 3, 166667] ?_ (by decide +kernel)
  intro q hq
  simp only [List.mem_cons, List.not_mem_nil, or_false] at hq
  rcases hq with rfl | rfl | rfl
  all_goals first | exact pr_2 | exact pr_3 | exact pr_166667
theorem pr_5 : IsPrime 5 := prime_small 1 (by decide) (by decide) (by decide +kernel)
theorem pr_7 : IsPrime 7 := prime_small 1 (by decide) (by decide) (by decide +kernel)
theorem pr_11 : IsPrime 11 := prime_small 2 (by decide) (by decide) (by decide +kernel)
theorem pr_13 : IsPrime 13 := prime_small 2 (by decide) (by decide) (by decide +kernel)
theorem pr_31 : IsPrime 31 := prime_small 4 (by decide) (by decide) (by decide +kernel)
theorem pr_41 : IsPrime 41 := prime_small 5 (by decide) (by decide) (by decide +kernel)
theorem pr_61 : IsPrime 61 := prime_small 6 (by decide) (by decide) (by decide +kernel)
theorem pr_151 : IsPrime 151 := prime_small 11 (by decide) (by decide) (by decide +kernel)
theorem pr_331 : IsPrime 331 := prime_small 17 (by decide) (by decide) (by decide +kernel)
theorem pr_1321 : IsPrime 1321 := prime_small 35 (by decide) (by decide) (by decide +kernel)
theorem root_2305843009213693951 : Root 2305843009213693951 37 := by
  refine root_of_ok 61 [2, 3, 3, 5, 5, 7, 11, 13, 31, 41, 61, 151, 331, 1321] ?_ (by decide +kernel)
  intro q hq
  simp only [List.mem_cons, List.not_mem_nil, or_false] at hq
  rcases hq with rfl | rfl | rfl | rfl | rfl | rfl | rfl | rfl | rfl | rfl | rfl | rfl | rfl | rfl
  all_goals first | exact pr_2 | exact pr_3 | exact pr_5 | exact pr_7 | exact pr_11 | exact pr_13 | exact pr_31 | exact pr_41 | exact pr_61 | exact pr_151 | exact pr_331 | exact pr_1321
theorem pr_13441 : IsPrime 13441 := prime_small 114 (by decide) (by decide) (by decide +kernel)
theorem pr_29 : IsPrime 29 := prime_small 4 (by decide) (by decide) (by decide +kernel)
theorem pr_7723 : IsPrime 7723 := prime_small 86 (by decide) (by decide) (by decide +kernel)
theorem pr_5323 : IsPrime 5323 := prime_small 71 (by decide) (by decide) (by decide +kernel)
theorem pr_2621 : IsPrime 2621 := prime_small 50 (by decide) (by decide) (by decide +kernel)
theorem pr_24809 : IsPrime 24809 := prime_small 156 (by decide) (by decide) (by decide +kernel)
theorem pr_13331831 : IsPrime 13331831 := prime_small 3650 (by decide) (by decide) (by decide +kernel)
theorem root_173378833005251801 : Root 173378833005251801 6 := by
  refine root_of_ok 58 [2, 2, 2, 5, 5, 2621, 24809, 13331831] ?_ (by decide +kernel)
  intro q hq
  simp only [List.mem_cons, List.not_mem_nil, or_false] at hq
  rcases hq with rfl | rfl | rfl | rfl | rfl | rfl | rfl | rfl
  all_goals first | exact pr_2 | exact pr_5 | exact pr_2621 | exact pr_24809 | exact pr_13331831
theorem pr_173378833005251801 : IsPrime 173378833005251801 := root_173378833005251801.prime
theorem root_22149492674086928081353 : Root 22149492674086928081353 5 := by
  refine root_of_ok 75 [2, 2, 2, 3, 5323, 173378833005251801] ?_ (by decide +kernel)
  intro q hq
  simp only [List.mem_cons, List.not_mem_nil, or_false] at hq
  rcases hq with rfl | rfl | rfl | rfl | rfl | rfl
  all_goals first | exact pr_2 | exact pr_3 | exact pr_5323 | exact pr_173378833005251801
theorem pr_22149492674086928081353 : IsPrime 22149492674086928081353 := root_22149492674086928081353.prime
theorem root_132896956044521568488119 : Root 132896956044521568488119 6 := by
  refine root_of_ok 77 [2, 3, 22149492674086928081353] ?_ (by decide +kernel)
  intro q hq
  simp only [List.mem_cons, List.not_mem_nil, or_false] at hq
  rcases hq with rfl | rfl | rfl
  all_goals first | exact pr_2 | exact pr_3 | exact pr_22149492674086928081353
theorem pr_132896956044521568488119 : IsPrime 132896956044521568488119 := root_132896956044521568488119.prime
theorem pr_1627 : IsPrime 1627 := prime_small 39 (by decide) (by decide) (by decide +kernel)
theorem pr_2657 : IsPrime 2657 := prime_small 50 (by decide) (by decide) (by decide +kernel)
theorem pr_4423 : IsPrime 4423 := prime_small 65 (by decide) (by decide) (by decide +kernel)
theorem pr_41201 : IsPrime 41201 := prime_small 201 (by decide) (by decide) (by decide +kernel)
theorem pr_96557 : IsPrime 96557 := prime_small 309 (by decide) (by decide) (by decide +kernel)
theorem pr_7240687 : IsPrime 7240687 := prime_small 2689 (by decide) (by decide) (by decide +kernel)
theorem pr_107590001 : IsPrime 107590001 := prime_small 10371 (by decide) (by decide) (by decide +kernel)
theorem root_255515944373312847190720520512484175977 : Root 255515944373312847190720520512484175977 3 := by
  refine root_of_ok 128 [2, 2, 2, 7, 7, 11, 1627, 2657, 4423, 41201, 96557, 7240687, 107590001] ?_ (by decide +kernel)
  intro q hq
  simp only [List.mem_cons, List.not_mem_nil, or_false] at hq
  rcases hq with rfl | rfl | rfl | rfl | rfl | rfl | rfl | rfl | rfl | rfl | rfl | rfl | rfl
  all_goals first | exact pr_2 | exact pr_7 | exact pr_11 | exact pr_1627 | exact pr_2657 | exact pr_4423 | exact pr_41201 | exact pr_96557 | exact pr_7240687 | exact pr_107590001
theorem pr_255515944373312847190720520512484175977 : IsPrime 255515944373312847190720520512484175977 := root_255515944373312847190720520512484175977.prime
theorem root_205115282021455665897114700593932402728804164701536103180137503955397371 : Root 205115282021455665897114700593932402728804164701536103180137503955397371 10 := by
  refine root_of_ok 237 [2, 3, 5, 29, 29, 31, 7723, 132896956044521568488119, 255515944373312847190720520512484175977] ?_ (by decide +kernel)
  intro q hq
  simp only [List.mem_cons, List.not_mem_nil, or_false] at hq
  rcases hq with rfl | rfl | rfl | rfl | rfl | rfl | rfl | rfl | rfl
  all_goals first | exact pr_2 | exact pr_3 | exact pr_5 | exact pr_29 | exact pr_31 | exact pr_7723 | exact pr_132896956044521568488119 | exact pr_255515944373312847190720520512484175977
theorem pr_205115282021455665897114700593932402728804164701536103180137503955397371 : IsPrime 205115282021455665897114700593932402728804164701536103180137503955397371 := root_205115282021455665897114700593932402728804164701536103180137503955397371.prime
theorem root_115792089237316195423570985008687907853269984665640564039457584007908834671663 : Root 115792089237316195423570985008687907853269984665640564039457584007908834671663 3 := by
  refine root_of_ok 256 [2, 3, 7, 13441, 205115282021455665897114700593932402728804164701536103180137503955397371] ?_ (by decide +kernel)
  intro q hq
  simp only [List.mem_cons, List.not_mem_nil, or_false] at hq
  rcases hq with rfl | rfl | rfl | rfl | rfl
  all_goals first | exact pr_2 | exact pr_3 | exact pr_7 | exact pr_13441 | exact pr_205115282021455665897114700593932402728804164701536103180137503955397371
theorem pr_149 : IsPrime 149 := prime_small 11 (by decide) (by decide) (by decide +kernel)
theorem pr_631 : IsPrime 631 := prime_small 24 (by decide) (by decide) (by decide +kernel)
theorem pr_16699 : IsPrime 16699 := prime_small 128 (by decide) (by decide) (by decide +kernel)
theorem pr_85831 : IsPrime 85831 := prime_small 291 (by decide) (by decide) (by decide +kernel)
theorem pr_4681609 : IsPrime 4681609 := prime_small 2162 (by decide) (by decide) (by decide +kernel)
theorem root_107361793816595537 : Root 107361793816595537 3 := by
  refine root_of_ok 57 [2, 2, 2, 2, 16699, 85831, 4681609] ?_ (by decide +kernel)
  intro q hq
  simp only [List.mem_cons, List.not_mem_nil, or_false] at hq
  rcases hq with rfl | rfl | rfl | rfl | rfl | rfl | rfl
  all_goals first | exact pr_2 | exact pr_16699 | exact pr_85831 | exact pr_4681609
theorem pr_107361793816595537 : IsPrime 107361793816595537 := root_107361793816595537.prime
theorem pr_17 : IsPrime 17 := prime_small 3 (by decide) (by decide) (by decide +kernel)
theorem pr_59 : IsPrime 59 := prime_small 6 (by decide) (by decide) (by decide +kernel)
theorem pr_4051 : IsPrime 4051 := prime_small 62 (by decide) (by decide) (by decide +kernel)
theorem pr_120233 : IsPrime 120233 := prime_small 345 (by decide) (by decide) (by decide +kernel)
theorem pr_44706919 : IsPrime 44706919 := prime_small 6685 (by decide) (by decide) (by decide +kernel)
theorem root_174723607534414371449 : Root 174723607534414371449 3 := by
  refine root_of_ok 68 [2, 2, 2, 17, 59, 4051, 120233, 44706919] ?_ (by decide +kernel)
  intro q hq
  simp only [List.mem_cons, List.not_mem_nil, or_false] at hq
  rcases hq with rfl | rfl | rfl | rfl | rfl | rfl | rfl | rfl
  all_goals first | exact pr_2 | exact pr_17 | exact pr_59 | exact pr_4051 | exact pr_120233 | exact pr_44706919
theorem pr_174723607534414371449 : IsPrime 174723607534414371449 := root_174723607534414371449.prime
theorem pr_109 : IsPrime 109 := prime_small 9 (by decide) (by decide) (by decide +kernel)
theorem pr_293 : IsPrime 293 := prime_small 16 (by decide) (by decide) (by decide +kernel)
theorem pr_305873 : IsPrime 305873 := prime_small 552 (by decide) (by decide) (by decide +kernel)
theorem pr_28181 : IsPrime 28181 := prime_small 166 (by decide) (by decide) (by decide +kernel)
theorem root_545358713 : Root 545358713 5 := by
  refine root_of_ok 30 [2, 2, 2, 41, 59, 28181] ?_ (by decide +kernel)
  intro q hq
  simp only [List.mem_cons, List.not_mem_nil, or_false] at hq
  rcases hq with rfl | rfl | rfl | rfl | rfl | rfl
  all_goals first | exact pr_2 | exact pr_41 | exact pr_59 | exact pr_28181
theorem pr_545358713 : IsPrime 545358713 := root_545358713.prime
theorem pr_461 : IsPrime 461 := prime_small 20 (by decide) (by decide) (by decide +kernel)
theorem pr_1627771 : IsPrime 1627771 := prime_small 1274 (by decide) (by decide) (by decide +kernel)
theorem root_297159362677 : Root 297159362677 2 := by
  refine root_of_ok 39 [2, 2, 3, 3, 11, 461, 1627771] ?_ (by decide +kernel)
  intro q hq
  simp only [List.mem_cons, List.not_mem_nil, or_false] at hq
  rcases hq with rfl | rfl | rfl | rfl | rfl | rfl | rfl
  all_goals first | exact pr_2 | exact pr_3 | exact pr_11 | exact pr_461 | exact pr_1627771
theorem pr_297159362677 : IsPrime 297159362677 := root_297159362677.prime
theorem root_29047611873442575647497758179 : Root 29047611873442575647497758179 2 := by
  refine root_of_ok 95 [2, 293, 305873, 545358713, 297159362677] ?_ (by decide +kernel)
  intro q hq
  simp only [List.mem_cons, List.not_mem_nil, or_false] at hq
  rcases hq with rfl | rfl | rfl | rfl | rfl
  all_goals first | exact pr_2 | exact pr_293 | exact pr_305873 | exact pr_545358713 | exact pr_297159362677
theorem pr_29047611873442575647497758179 : IsPrime 29047611873442575647497758179 := root_29047611873442575647497758179.prime
theorem root_341948486974166000522343609283189 : Root 341948486974166000522343609283189 2 := by
  refine root_of_ok 109 [2, 2, 3, 3, 3, 109, 29047611873442575647497758179] ?_ (by decide +kernel)
  intro q hq
  simp only [List.mem_cons, List.not_mem_nil, or_false] at hq
  rcases hq with rfl | rfl | rfl | rfl | rfl | rfl | rfl
  all_goals first | exact pr_2 | exact pr_3 | exact pr_109 | exact pr_29047611873442575647497758179
theorem pr_341948486974166000522343609283189 : IsPrime 341948486974166000522343609283189 := root_341948486974166000522343609283189.prime
theorem root_115792089237316195423570985008687907852837564279074904382605163141518161494337 : Root 115792089237316195423570985008687907852837564279074904382605163141518161494337 7 := by
  refine root_of_ok 256 [2, 2, 2, 2, 2, 2, 3, 149, 631, 107361793816595537, 174723607534414371449, 341948486974166000522343609283189] ?_ (by decide +kernel)
  intro q hq
  simp only [List.mem_cons, List.not_mem_nil, or_false] at hq
  rcases hq with rfl | rfl | rfl | rfl | rfl | rfl | rfl | rfl | rfl | rfl | rfl | rfl
  all_goals first | exact pr_2 | exact pr_3 | exact pr_149 | exact pr_631 | exact pr_107361793816595537 | exact pr_174723607534414371449 | exact pr_341948486974166000522343609283189
end PlainK
