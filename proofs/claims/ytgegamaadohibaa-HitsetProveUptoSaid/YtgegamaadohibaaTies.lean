/- The functions of this seat's program are those of the table: each is compared by the kernel. No condition. -/
import Derived.Test.YtgegamaadohibaaCL
import Derived.Test.YtgegamaadohibaaX
import Derived.Test.YtgegamaadohibaaChecked
import Derived.Test.YtgegamaadohibaaGr
import Derived.Test.YtgegamaadohibaaXg
namespace Go.Abs
open Go Go.Proofs
namespace YtgegamaadohibaaT

def fmL : List Nat := [0, 0, 0, 391, 392, 393, 394, 395, 396, 397, 398, 399, 400, 401, 402, 403, 404, 405, 406, 407, 408, 409, 410, 411, 412, 413, 143, 414, 415, 416, 417, 418, 419, 420, 421, 422, 423, 424, 425, 426, 427, 147, 428, 429, 430, 431, 432, 433, 434, 435, 436, 437, 438, 439, 440, 441, 442, 162, 163, 443, 444, 445, 446, 447, 448, 449, 245, 450, 451, 452, 453, 177, 178, 179, 180, 181, 182, 183, 184, 185, 186, 187, 454, 455, 456, 457, 194, 195, 196, 197, 198, 199, 458, 208, 0, 0, 0, 0, 0, 0, 0, 0, 0, 0, 0, 0, 214, 0, 0, 215, 0]
def fm (f : Nat) : Nat := fmL.getD f 0

theorem mixed : Try.prog.follows .mixedOrders = true := by kernel_rfl
def TieAll (n : Nat) : Prop := ∀ f, f < n → TieOK Try.prog fm XT f
theorem tie0 : TieAll 0 := fun f h => absurd h (Nat.not_lt_zero f)
theorem TieAll.s {n : Nat} (h : TieAll n) (k : TieOK Try.prog fm XT n) : TieAll (n + 1) := fun f hf => by
  rcases Nat.lt_or_ge f n with h1 | h1
  · exact h f h1
  · have : f = n := by omega
    subst this; exact k

theorem t0 : TieOK Try.prog fm XT 0 := tie_none (by kernel_rfl)
theorem t1 : TieOK Try.prog fm XT 1 := tie_none (by kernel_rfl)
theorem t2 : TieOK Try.prog fm XT 2 := tie_none (by kernel_rfl)
theorem t3 : TieOK Try.prog fm XT 3 := tie_fn (g := 391) (F := f391) (by kernel_rfl) (by kernel_rfl) (by kernel_rfl) (by kernel_rfl) (by decide)
theorem t4 : TieOK Try.prog fm XT 4 := tie_none (by kernel_rfl)
theorem t5 : TieOK Try.prog fm XT 5 := tie_none (by kernel_rfl)
theorem t6 : TieOK Try.prog fm XT 6 := tie_fn (g := 394) (F := f394) (by kernel_rfl) (by kernel_rfl) (by kernel_rfl) (by kernel_rfl) (by decide)
theorem t7 : TieOK Try.prog fm XT 7 := tie_fn (g := 395) (F := f395) (by kernel_rfl) (by kernel_rfl) (by kernel_rfl) (by kernel_rfl) (by decide)
theorem t8 : TieOK Try.prog fm XT 8 := tie_fn (g := 396) (F := f396) (by kernel_rfl) (by kernel_rfl) (by kernel_rfl) (by kernel_rfl) (by decide)
theorem t9 : TieOK Try.prog fm XT 9 := tie_fn (g := 397) (F := f397) (by kernel_rfl) (by kernel_rfl) (by kernel_rfl) (by kernel_rfl) (by decide)
theorem t10 : TieOK Try.prog fm XT 10 := tie_none (by kernel_rfl)
theorem t11 : TieOK Try.prog fm XT 11 := tie_none (by kernel_rfl)
theorem t12 : TieOK Try.prog fm XT 12 := tie_fn (g := 400) (F := f400) (by kernel_rfl) (by kernel_rfl) (by kernel_rfl) (by kernel_rfl) (by decide)
theorem t13 : TieOK Try.prog fm XT 13 := tie_fn (g := 401) (F := f401) (by kernel_rfl) (by kernel_rfl) (by kernel_rfl) (by kernel_rfl) (by decide)
theorem t14 : TieOK Try.prog fm XT 14 := tie_fn (g := 402) (F := f402) (by kernel_rfl) (by kernel_rfl) (by kernel_rfl) (by kernel_rfl) (by decide)
theorem t15 : TieOK Try.prog fm XT 15 := tie_fn (g := 403) (F := f403) (by kernel_rfl) (by kernel_rfl) (by kernel_rfl) (by kernel_rfl) (by decide)
theorem t16 : TieOK Try.prog fm XT 16 := tie_fn (g := 404) (F := f404) (by kernel_rfl) (by kernel_rfl) (by kernel_rfl) (by kernel_rfl) (by decide)
theorem t17 : TieOK Try.prog fm XT 17 := tie_fn (g := 405) (F := f405) (by kernel_rfl) (by kernel_rfl) (by kernel_rfl) (by kernel_rfl) (by decide)
theorem t18 : TieOK Try.prog fm XT 18 := tie_none (by kernel_rfl)
theorem t19 : TieOK Try.prog fm XT 19 := tie_none (by kernel_rfl)
theorem t20 : TieOK Try.prog fm XT 20 := tie_fn (g := 408) (F := f408) (by kernel_rfl) (by kernel_rfl) (by kernel_rfl) (by kernel_rfl) (by decide)
theorem t21 : TieOK Try.prog fm XT 21 := tie_fn (g := 409) (F := f409) (by kernel_rfl) (by kernel_rfl) (by kernel_rfl) (by kernel_rfl) (by decide)
theorem t22 : TieOK Try.prog fm XT 22 := tie_fn (g := 410) (F := f410) (by kernel_rfl) (by kernel_rfl) (by kernel_rfl) (by kernel_rfl) (by decide)
theorem t23 : TieOK Try.prog fm XT 23 := tie_fn (g := 411) (F := f411) (by kernel_rfl) (by kernel_rfl) (by kernel_rfl) (by kernel_rfl) (by decide)
theorem t24 : TieOK Try.prog fm XT 24 := tie_fn (g := 412) (F := f412) (by kernel_rfl) (by kernel_rfl) (by kernel_rfl) (by kernel_rfl) (by decide)
theorem t25 : TieOK Try.prog fm XT 25 := tie_fn (g := 413) (F := f413) (by kernel_rfl) (by kernel_rfl) (by kernel_rfl) (by kernel_rfl) (by decide)
theorem t26 : TieOK Try.prog fm XT 26 := tie_clone mixed (g := 143) (n := 8) (es := 1) (z := [(.int .i64 0)]) (by kernel_rfl) (by kernel_rfl) (by kernel_rfl) (by decide)
theorem t27 : TieOK Try.prog fm XT 27 := tie_fn (g := 414) (F := f414) (by kernel_rfl) (by kernel_rfl) (by kernel_rfl) (by kernel_rfl) (by decide)
theorem t28 : TieOK Try.prog fm XT 28 := tie_fn (g := 415) (F := f415) (by kernel_rfl) (by kernel_rfl) (by kernel_rfl) (by kernel_rfl) (by decide)
theorem t29 : TieOK Try.prog fm XT 29 := tie_fn (g := 416) (F := f416) (by kernel_rfl) (by kernel_rfl) (by kernel_rfl) (by kernel_rfl) (by decide)
theorem t30 : TieOK Try.prog fm XT 30 := tie_fn (g := 417) (F := f417) (by kernel_rfl) (by kernel_rfl) (by kernel_rfl) (by kernel_rfl) (by decide)
theorem t31 : TieOK Try.prog fm XT 31 := tie_fn (g := 418) (F := f418) (by kernel_rfl) (by kernel_rfl) (by kernel_rfl) (by kernel_rfl) (by decide)
theorem t32 : TieOK Try.prog fm XT 32 := tie_none (by kernel_rfl)
theorem t33 : TieOK Try.prog fm XT 33 := tie_fn (g := 420) (F := f420) (by kernel_rfl) (by kernel_rfl) (by kernel_rfl) (by kernel_rfl) (by decide)
theorem t34 : TieOK Try.prog fm XT 34 := tie_fn (g := 421) (F := f421) (by kernel_rfl) (by kernel_rfl) (by kernel_rfl) (by kernel_rfl) (by decide)
theorem t35 : TieOK Try.prog fm XT 35 := tie_fn (g := 422) (F := f422) (by kernel_rfl) (by kernel_rfl) (by kernel_rfl) (by kernel_rfl) (by decide)
theorem t36 : TieOK Try.prog fm XT 36 := tie_fn (g := 423) (F := f423) (by kernel_rfl) (by kernel_rfl) (by kernel_rfl) (by kernel_rfl) (by decide)
theorem t37 : TieOK Try.prog fm XT 37 := tie_fn (g := 424) (F := f424) (by kernel_rfl) (by kernel_rfl) (by kernel_rfl) (by kernel_rfl) (by decide)
theorem t38 : TieOK Try.prog fm XT 38 := tie_fn (g := 425) (F := f425) (by kernel_rfl) (by kernel_rfl) (by kernel_rfl) (by kernel_rfl) (by decide)
theorem t39 : TieOK Try.prog fm XT 39 := tie_fn (g := 426) (F := f426) (by kernel_rfl) (by kernel_rfl) (by kernel_rfl) (by kernel_rfl) (by decide)
theorem t40 : TieOK Try.prog fm XT 40 := tie_fn (g := 427) (F := f427) (by kernel_rfl) (by kernel_rfl) (by kernel_rfl) (by kernel_rfl) (by decide)
theorem t41 : TieOK Try.prog fm XT 41 := tie_fn (g := 147) (F := f147) (by kernel_rfl) (by kernel_rfl) (by kernel_rfl) (by kernel_rfl) (by decide)
theorem t42 : TieOK Try.prog fm XT 42 := tie_fn (g := 428) (F := f428) (by kernel_rfl) (by kernel_rfl) (by kernel_rfl) (by kernel_rfl) (by decide)
theorem t43 : TieOK Try.prog fm XT 43 := tie_fn (g := 429) (F := f429) (by kernel_rfl) (by kernel_rfl) (by kernel_rfl) (by kernel_rfl) (by decide)
theorem t44 : TieOK Try.prog fm XT 44 := tie_fn (g := 430) (F := f430) (by kernel_rfl) (by kernel_rfl) (by kernel_rfl) (by kernel_rfl) (by decide)
theorem t45 : TieOK Try.prog fm XT 45 := tie_fn (g := 431) (F := f431) (by kernel_rfl) (by kernel_rfl) (by kernel_rfl) (by kernel_rfl) (by decide)
theorem t46 : TieOK Try.prog fm XT 46 := tie_fn (g := 432) (F := f432) (by kernel_rfl) (by kernel_rfl) (by kernel_rfl) (by kernel_rfl) (by decide)
theorem t47 : TieOK Try.prog fm XT 47 := tie_fn (g := 433) (F := f433) (by kernel_rfl) (by kernel_rfl) (by kernel_rfl) (by kernel_rfl) (by decide)
theorem t48 : TieOK Try.prog fm XT 48 := tie_fn (g := 434) (F := f434) (by kernel_rfl) (by kernel_rfl) (by kernel_rfl) (by kernel_rfl) (by decide)
theorem t49 : TieOK Try.prog fm XT 49 := tie_fn (g := 435) (F := f435) (by kernel_rfl) (by kernel_rfl) (by kernel_rfl) (by kernel_rfl) (by decide)
theorem t50 : TieOK Try.prog fm XT 50 := tie_fn (g := 436) (F := f436) (by kernel_rfl) (by kernel_rfl) (by kernel_rfl) (by kernel_rfl) (by decide)
theorem t51 : TieOK Try.prog fm XT 51 := tie_fn (g := 437) (F := f437) (by kernel_rfl) (by kernel_rfl) (by kernel_rfl) (by kernel_rfl) (by decide)
theorem t52 : TieOK Try.prog fm XT 52 := tie_fn (g := 438) (F := f438) (by kernel_rfl) (by kernel_rfl) (by kernel_rfl) (by kernel_rfl) (by decide)
theorem t53 : TieOK Try.prog fm XT 53 := tie_fn (g := 439) (F := f439) (by kernel_rfl) (by kernel_rfl) (by kernel_rfl) (by kernel_rfl) (by decide)
theorem t54 : TieOK Try.prog fm XT 54 := tie_none (by kernel_rfl)
theorem t55 : TieOK Try.prog fm XT 55 := tie_fn (g := 441) (F := f441) (by kernel_rfl) (by kernel_rfl) (by kernel_rfl) (by kernel_rfl) (by decide)
theorem t56 : TieOK Try.prog fm XT 56 := tie_fn (g := 442) (F := f442) (by kernel_rfl) (by kernel_rfl) (by kernel_rfl) (by kernel_rfl) (by decide)
theorem t57 : TieOK Try.prog fm XT 57 := tie_fn (g := 162) (F := f162) (by kernel_rfl) (by kernel_rfl) (by kernel_rfl) (by kernel_rfl) (by decide)
theorem t58 : TieOK Try.prog fm XT 58 := tie_fn (g := 163) (F := f163) (by kernel_rfl) (by kernel_rfl) (by kernel_rfl) (by kernel_rfl) (by decide)
theorem t59 : TieOK Try.prog fm XT 59 := tie_fn (g := 443) (F := f443) (by kernel_rfl) (by kernel_rfl) (by kernel_rfl) (by kernel_rfl) (by decide)
theorem t60 : TieOK Try.prog fm XT 60 := tie_fn (g := 444) (F := f444) (by kernel_rfl) (by kernel_rfl) (by kernel_rfl) (by kernel_rfl) (by decide)
theorem t61 : TieOK Try.prog fm XT 61 := tie_fn (g := 445) (F := f445) (by kernel_rfl) (by kernel_rfl) (by kernel_rfl) (by kernel_rfl) (by decide)
theorem t62 : TieOK Try.prog fm XT 62 := tie_fn (g := 446) (F := f446) (by kernel_rfl) (by kernel_rfl) (by kernel_rfl) (by kernel_rfl) (by decide)
theorem t63 : TieOK Try.prog fm XT 63 := tie_fn (g := 447) (F := f447) (by kernel_rfl) (by kernel_rfl) (by kernel_rfl) (by kernel_rfl) (by decide)
theorem t64 : TieOK Try.prog fm XT 64 := tie_fn (g := 448) (F := f448) (by kernel_rfl) (by kernel_rfl) (by kernel_rfl) (by kernel_rfl) (by decide)
theorem t65 : TieOK Try.prog fm XT 65 := tie_fn (g := 449) (F := f449) (by kernel_rfl) (by kernel_rfl) (by kernel_rfl) (by kernel_rfl) (by decide)
theorem t66 : TieOK Try.prog fm XT 66 := tie_cloneN mixed (g := 245) (n := 8) (es := 1) (z := [(.int .i64 0)]) (by kernel_rfl) (by kernel_rfl) (by kernel_rfl) (by decide)
theorem t67 : TieOK Try.prog fm XT 67 := tie_fn (g := 450) (F := f450) (by kernel_rfl) (by kernel_rfl) (by kernel_rfl) (by kernel_rfl) (by decide)
theorem t68 : TieOK Try.prog fm XT 68 := tie_fn (g := 451) (F := f451) (by kernel_rfl) (by kernel_rfl) (by kernel_rfl) (by kernel_rfl) (by decide)
theorem t69 : TieOK Try.prog fm XT 69 := tie_fn (g := 452) (F := f452) (by kernel_rfl) (by kernel_rfl) (by kernel_rfl) (by kernel_rfl) (by decide)
theorem t70 : TieOK Try.prog fm XT 70 := tie_fn (g := 453) (F := f453) (by kernel_rfl) (by kernel_rfl) (by kernel_rfl) (by kernel_rfl) (by decide)
theorem t71 : TieOK Try.prog fm XT 71 := tie_fn (g := 177) (F := f177) (by kernel_rfl) (by kernel_rfl) (by kernel_rfl) (by kernel_rfl) (by decide)
theorem t72 : TieOK Try.prog fm XT 72 := tie_fn (g := 178) (F := f178) (by kernel_rfl) (by kernel_rfl) (by kernel_rfl) (by kernel_rfl) (by decide)
theorem t73 : TieOK Try.prog fm XT 73 := tie_fn (g := 179) (F := f179) (by kernel_rfl) (by kernel_rfl) (by kernel_rfl) (by kernel_rfl) (by decide)
theorem t74 : TieOK Try.prog fm XT 74 := tie_fn (g := 180) (F := f180) (by kernel_rfl) (by kernel_rfl) (by kernel_rfl) (by kernel_rfl) (by decide)
theorem t75 : TieOK Try.prog fm XT 75 := tie_fn (g := 181) (F := f181) (by kernel_rfl) (by kernel_rfl) (by kernel_rfl) (by kernel_rfl) (by decide)
theorem t76 : TieOK Try.prog fm XT 76 := tie_fn (g := 182) (F := f182) (by kernel_rfl) (by kernel_rfl) (by kernel_rfl) (by kernel_rfl) (by decide)
theorem t77 : TieOK Try.prog fm XT 77 := tie_fn (g := 183) (F := f183) (by kernel_rfl) (by kernel_rfl) (by kernel_rfl) (by kernel_rfl) (by decide)
theorem t78 : TieOK Try.prog fm XT 78 := tie_fn (g := 184) (F := f184) (by kernel_rfl) (by kernel_rfl) (by kernel_rfl) (by kernel_rfl) (by decide)
theorem t79 : TieOK Try.prog fm XT 79 := tie_fn (g := 185) (F := f185) (by kernel_rfl) (by kernel_rfl) (by kernel_rfl) (by kernel_rfl) (by decide)
theorem t80 : TieOK Try.prog fm XT 80 := tie_fn (g := 186) (F := f186) (by kernel_rfl) (by kernel_rfl) (by kernel_rfl) (by kernel_rfl) (by decide)
theorem t81 : TieOK Try.prog fm XT 81 := tie_fn (g := 187) (F := f187) (by kernel_rfl) (by kernel_rfl) (by kernel_rfl) (by kernel_rfl) (by decide)
theorem t82 : TieOK Try.prog fm XT 82 := tie_fn (g := 454) (F := f454) (by kernel_rfl) (by kernel_rfl) (by kernel_rfl) (by kernel_rfl) (by decide)
theorem t83 : TieOK Try.prog fm XT 83 := tie_fn (g := 455) (F := f455) (by kernel_rfl) (by kernel_rfl) (by kernel_rfl) (by kernel_rfl) (by decide)
theorem t84 : TieOK Try.prog fm XT 84 := tie_growN Go.Proofs.Ytgegamaadohibaa.growLays rfl (by kernel_rfl) (by decide) (by kernel_rfl) (g := 456) (es := 2) (by kernel_rfl) (by kernel_rfl)
theorem t85 : TieOK Try.prog fm XT 85 := tie_fn (g := 457) (F := f457) (by kernel_rfl) (by kernel_rfl) (by kernel_rfl) (by kernel_rfl) (by decide)
theorem t86 : TieOK Try.prog fm XT 86 := tie_fn (g := 194) (F := f194) (by kernel_rfl) (by kernel_rfl) (by kernel_rfl) (by kernel_rfl) (by decide)
theorem t87 : TieOK Try.prog fm XT 87 := tie_fn (g := 195) (F := f195) (by kernel_rfl) (by kernel_rfl) (by kernel_rfl) (by kernel_rfl) (by decide)
theorem t88 : TieOK Try.prog fm XT 88 := tie_fn (g := 196) (F := f196) (by kernel_rfl) (by kernel_rfl) (by kernel_rfl) (by kernel_rfl) (by decide)
theorem t89 : TieOK Try.prog fm XT 89 := tie_fn (g := 197) (F := f197) (by kernel_rfl) (by kernel_rfl) (by kernel_rfl) (by kernel_rfl) (by decide)
theorem t90 : TieOK Try.prog fm XT 90 := tie_fn (g := 198) (F := f198) (by kernel_rfl) (by kernel_rfl) (by kernel_rfl) (by kernel_rfl) (by decide)
theorem t91 : TieOK Try.prog fm XT 91 := tie_fn (g := 199) (F := f199) (by kernel_rfl) (by kernel_rfl) (by kernel_rfl) (by kernel_rfl) (by decide)
theorem t92 : TieOK Try.prog fm XT 92 := tie_fn (g := 458) (F := f458) (by kernel_rfl) (by kernel_rfl) (by kernel_rfl) (by kernel_rfl) (by decide)
theorem t93 : TieOK Try.prog fm XT 93 := tie_fn (g := 208) (F := f208) (by kernel_rfl) (by kernel_rfl) (by kernel_rfl) (by kernel_rfl) (by decide)
theorem t94 : TieOK Try.prog fm XT 94 := tie_none (by kernel_rfl)
theorem t95 : TieOK Try.prog fm XT 95 := tie_none (by kernel_rfl)
theorem t96 : TieOK Try.prog fm XT 96 := tie_none (by kernel_rfl)
theorem t97 : TieOK Try.prog fm XT 97 := tie_none (by kernel_rfl)
theorem t98 : TieOK Try.prog fm XT 98 := tie_none (by kernel_rfl)
theorem t99 : TieOK Try.prog fm XT 99 := tie_none (by kernel_rfl)
theorem t100 : TieOK Try.prog fm XT 100 := tie_none (by kernel_rfl)
theorem t101 : TieOK Try.prog fm XT 101 := tie_none (by kernel_rfl)
theorem t102 : TieOK Try.prog fm XT 102 := tie_none (by kernel_rfl)
theorem t103 : TieOK Try.prog fm XT 103 := tie_none (by kernel_rfl)
theorem t104 : TieOK Try.prog fm XT 104 := tie_none (by kernel_rfl)
theorem t105 : TieOK Try.prog fm XT 105 := tie_none (by kernel_rfl)
theorem t106 : TieOK Try.prog fm XT 106 := tie_none (by kernel_rfl)
theorem t107 : TieOK Try.prog fm XT 107 := tie_none (by kernel_rfl)
theorem t108 : TieOK Try.prog fm XT 108 := tie_none (by kernel_rfl)
theorem t109 : TieOK Try.prog fm XT 109 := tie_none (by kernel_rfl)
theorem t110 : TieOK Try.prog fm XT 110 := tie_none (by kernel_rfl)
theorem c20 : TieAll 20 := ((((((((((((((((((((tie0.s t0).s t1).s t2).s t3).s t4).s t5).s t6).s t7).s t8).s t9).s t10).s t11).s t12).s t13).s t14).s t15).s t16).s t17).s t18).s t19)
theorem c40 : TieAll 40 := ((((((((((((((((((((c20.s t20).s t21).s t22).s t23).s t24).s t25).s t26).s t27).s t28).s t29).s t30).s t31).s t32).s t33).s t34).s t35).s t36).s t37).s t38).s t39)
theorem c60 : TieAll 60 := ((((((((((((((((((((c40.s t40).s t41).s t42).s t43).s t44).s t45).s t46).s t47).s t48).s t49).s t50).s t51).s t52).s t53).s t54).s t55).s t56).s t57).s t58).s t59)
theorem c80 : TieAll 80 := ((((((((((((((((((((c60.s t60).s t61).s t62).s t63).s t64).s t65).s t66).s t67).s t68).s t69).s t70).s t71).s t72).s t73).s t74).s t75).s t76).s t77).s t78).s t79)
theorem c100 : TieAll 100 := ((((((((((((((((((((c80.s t80).s t81).s t82).s t83).s t84).s t85).s t86).s t87).s t88).s t89).s t90).s t91).s t92).s t93).s t94).s t95).s t96).s t97).s t98).s t99)
theorem c111 : TieAll 111 := (((((((((((c100.s t100).s t101).s t102).s t103).s t104).s t105).s t106).s t107).s t108).s t109).s t110)
theorem fm_len : fmL.length = 111 := by kernel_rfl
theorem xt0 : XT 0 = none := by kernel_rfl
theorem ties : TabOK Try.prog fm XT := tab_of mixed (fun f => by
  rcases Nat.lt_or_ge f 111 with h | h
  · exact c111 f h
  · refine tie_none ?_
    have : fm f = 0 := by
      unfold fm
      rw [List.getD_eq_getElem?_getD, List.getElem?_eq_none (by rw [fm_len]; exact h)]
      rfl
    rw [this]; exact xt0)
end YtgegamaadohibaaT
end Go.Abs
