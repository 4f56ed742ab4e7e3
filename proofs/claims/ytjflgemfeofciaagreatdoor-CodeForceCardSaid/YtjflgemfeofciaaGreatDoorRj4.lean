import Derived.Test.YtjflgemfeofciaaGreatDoorMY7
/- Layer 4: Judge, Ends, CheckEnds of the reference. -/
namespace Go.Proofs.YtjflgemfeofciaaGreatDoor
open Go Go.Ev
set_option linter.unusedVariables false
set_option linter.unusedSimpArgs false
set_option maxRecDepth 10000
def F_r04_places_l1 (p1 : (Int × Int)) : List Piece → List Int → Nat → Option ((List Int))
  | [], d1_1, k1_5 => some (d1_1)
  | y1 :: ys1, d1_1, k1_5 => (cond (decide (p1.1 < y1.fr)) ((cond (decide (y1.fr ≤ p1.2)) (((atI d1_1 ((d1_1.length : Int) - 1)).bind fun y11 => (cond (decide (y11 < (wr (y1.fr - 1)))) ((ck (decide (d1_1.length + 1 ≤ 1000000)) ((ck (decide ((d1_1 ++ [(wr (y1.fr - 1))]).length + 1 ≤ 1000000)) (F_r04_places_l1 p1 ys1 ((d1_1 ++ [(wr (y1.fr - 1))]) ++ [y1.fr]) (k1_5 + 1)))))) ((ck (decide (d1_1.length + 1 ≤ 1000000)) (F_r04_places_l1 p1 ys1 (d1_1 ++ [y1.fr]) (k1_5 + 1))))))) (F_r04_places_l1 p1 ys1 d1_1 (k1_5 + 1)))) (F_r04_places_l1 p1 ys1 d1_1 (k1_5 + 1)))
def F_r04_places (p0 : (List Piece)) (p1 : (Int × Int)) : Option ((List Int)) := ((F_r04_places_l1 p1 p0 [p1.1] 0).bind fun o1_0_1 => ((atI o1_0_1 ((o1_0_1.length : Int) - 1)).bind fun y22 => (cond (decide (y22 < p1.2)) ((ck (decide (o1_0_1.length + 1 ≤ 1000000)) (some (o1_0_1 ++ [p1.2])))) (some o1_0_1))))
def F_r04_value_l1 (p1 : Int) : List Piece → Int → Nat → Option ((Int))
  | [], z1_1, k1_2 => some (z1_1)
  | y1 :: ys1, z1_1, k1_2 => (cond (decide (y1.fr ≤ p1)) (F_r04_value_l1 p1 ys1 (wr (y1.base + (wr (y1.rate * p1)))) (k1_2 + 1)) (some (z1_1)))
def F_r04_value (p0 : (List Piece)) (p1 : Int) : Option (Int) := ((F_r04_value_l1 p1 p0 0 0).bind fun o1_0_1 => some o1_0_1)
def F_r04_extreme_l1 (p0 : (List Piece)) (p2 : Bool) : List Int → Int → Nat → Option ((Int))
  | [], z1_1, k1_2 => some (z1_1)
  | y1 :: ys1, z1_1, k1_2 => ((F_r04_value p0 y1).bind fun q6 => ((F_r04_value p0 z1_1).bind fun q7 => (cond p2 ((cond (decide (q7 < q6)) (F_r04_extreme_l1 p0 p2 ys1 y1 (k1_2 + 1)) (F_r04_extreme_l1 p0 p2 ys1 z1_1 (k1_2 + 1)))) ((cond (decide (q6 < q7)) (F_r04_extreme_l1 p0 p2 ys1 y1 (k1_2 + 1)) (F_r04_extreme_l1 p0 p2 ys1 z1_1 (k1_2 + 1)))))))
def F_r04_extreme (p0 : (List Piece)) (p1 : (Int × Int)) (p2 : Bool) : Option (Int) := ((F_r04_places p0 p1).bind fun q2 => ((q2[0]?).bind fun y3 => ((F_r04_extreme_l1 p0 p2 (List.drop 1 q2) y3 1).bind fun o1_0_1 => some o1_0_1)))
def F_r04_Down (p0 : Int) (p1 : Int) : Option (Int) := (ck (!(decide (p1 = 0))) ((ck (!(decide (p1 = 0))) ((cond (decide ((Int.tmod p0 p1) < 0)) (some (wr ((wr (Int.tdiv p0 p1)) - 1))) (some (wr (Int.tdiv p0 p1))))))))
def F_r04_tonnage (p0 : Version) (p1 : Int) (p2 : (Nat → Int)) : Option (Int) := (cond (decide (p1 = 0)) (((F_r04_value (p0.ln 0) (p2 0)).bind fun q4 => ((F_r04_value (p0.ln 1) (p2 1)).bind fun q5 => ((F_r04_value (p0.ln 2) (p2 2)).bind fun q6 => ((F_r04_value (p0.ln 3) (p2 3)).bind fun q7 => ((F_r04_value (p0.ln 4) (p2 4)).bind fun q8 => ((F_r04_Down (wr ((wr ((wr ((wr ((wr ((0 : Int) + q4)) + q5)) + q6)) + q7)) + q8)) 1000).bind fun q9 => some q9))))))) ((cond (decide (p1 = 1)) (((F_r04_value (p0.ln 5) (p2 0)).bind fun q10 => ((F_r04_value (p0.ln 6) (p2 1)).bind fun q11 => ((F_r04_value (p0.ln 7) (p2 2)).bind fun q12 => ((F_r04_value (p0.ln 8) (p2 3)).bind fun q13 => ((F_r04_value (p0.ln 9) (p2 4)).bind fun q14 => ((F_r04_Down (wr ((wr ((wr ((wr ((wr ((0 : Int) + q10)) + q11)) + q12)) + q13)) + q14)) 1000).bind fun q15 => some q15))))))) (none))))
def F_r04_litres (p0 : T_Plan) : Option ((Nat → (Int × Int))) := some (arr [(p0.Shares 0).Litres, (p0.Shares 1).Litres, (p0.Shares 2).Litres, (p0.Shares 3).Litres, (p0.Shares 4).Litres] (p0.Shares 0).Litres)
def F_r04_end (p0 : Version) (p1 : Int) (p2 : (Nat → (Int × Int))) (p3 : Bool) : Option (T_End) := (cond (decide (p1 = 0)) (((F_r04_extreme (p0.ln 0) (p2 0) p3).bind fun q6 => ((F_r04_extreme (p0.ln 1) (p2 1) p3).bind fun q7 => ((F_r04_extreme (p0.ln 2) (p2 2) p3).bind fun q8 => ((F_r04_extreme (p0.ln 3) (p2 3) p3).bind fun q9 => ((F_r04_extreme (p0.ln 4) (p2 4) p3).bind fun q10 => ((F_r04_tonnage p0 p1 (arr [q6, q7, q8, q9, q10] q6)).bind fun q11 => some (T_End.mk q11 (arr [q6, q7, q8, q9, q10] q6))))))))) ((cond (decide (p1 = 1)) (((F_r04_extreme (p0.ln 5) (p2 0) p3).bind fun q12 => ((F_r04_extreme (p0.ln 6) (p2 1) p3).bind fun q13 => ((F_r04_extreme (p0.ln 7) (p2 2) p3).bind fun q14 => ((F_r04_extreme (p0.ln 8) (p2 3) p3).bind fun q15 => ((F_r04_extreme (p0.ln 9) (p2 4) p3).bind fun q16 => ((F_r04_tonnage p0 p1 (arr [q12, q13, q14, q15, q16] q12)).bind fun q17 => some (T_End.mk q17 (arr [q12, q13, q14, q15, q16] q12))))))))) (none))))
def F_r04_judge (p0 : Version) (p1 : Int) (p2 : (List Room)) : Option ((Int × Int)) := ((F_r04_plan p0 0 p2).bind fun q3 => ((F_r04_litres q3).bind fun q4 => ((F_r04_end p0 p1 q4 false).bind fun q6 => ((F_r04_end p0 p1 q4 true).bind fun q7 => some (q6.Tonnage, q7.Tonnage)))))
end Go.Proofs.YtjflgemfeofciaaGreatDoor
