/-
  The calls of the sanity check of layer 6, as data.
-/
import Derived.KernelRfl
import Derived.Test.YtbdcnekkebhhhaaGreatDoorAf
set_option linter.all false

namespace Go.AI
set_option maxRecDepth 100000
abbrev kI (n : Int) : AV := .sc (.int .i64 n)
abbrev kS (l : List UInt8) : AV := .sc (.string ⟨⟨l⟩⟩)
abbrev kE : AV := kS []
abbrev kZ : AV := .sc (.slice none 0 0)
def pj : AV := .agg [.psl [kI 1, kS [76,105,109,105,116,115], kZ, kE, kZ, .psl [kS [99,97,112], kI 1, kE, kZ] 4 1 (some 1), .psl [kS [112,111,115], kI 12, kE, kI 0, kI 0, kE, kZ, .psl [kI 19, kE, kI 0, kI 0, kE, kZ, kZ, kI 20, kS [99,97,112], kI 0, kI 0, kE, kZ, kZ] 7 2 (some 2), .sc (.bool false)] 9 1 (some 1), kZ, kZ, kZ, .sc (.bool false), kZ, kZ, kZ, kI 2, kS [67,111,117,110,116,101,114], .psl [kS [76,105,109,105,116,115]] 1 1 (some 1), kE, kZ, kZ, kZ, .psl [kS [110], kI 1, kE, kZ] 4 1 (some 1), .psl [kS [108,111,119], kI 13, kE, kI 0, kI 0, kE, kZ, .psl [kI 19, kE, kI 0, kI 0, kE, kZ, kZ, kI 20, kS [110], kI 0, kI 0, kE, kZ, kZ] 7 2 (some 2), .sc (.bool false), kS [104,105,103,104], kI 13, kE, kI 0, kI 0, kE, kZ, .psl [kI 20, kS [110], kI 0, kI 0, kE, kZ, kZ, kI 20, kS [99,97,112], kI 0, kI 0, kE, kZ, kZ] 7 2 (some 2), .sc (.bool false)] 9 2 (some 2), kZ, .sc (.bool false), kZ, .psl [kS [110], .sc (.bool false), kI 19, kE, kI 0, kI 0, kE, kZ, kZ] 9 1 (some 1), .psl [kS [105,110,99], kZ, kI 0, kZ, .psl [kS [114,111,111,109], kI 12, kE, kI 0, kI 0, kE, kZ, .psl [kI 20, kS [110], kI 0, kI 0, kE, kZ, kZ, kI 20, kS [99,97,112], kI 0, kI 0, kE, kZ, kZ] 7 2 (some 2), .sc (.bool false)] 9 1 (some 1), kZ, .psl [kS [110], .sc (.bool false), kI 22, kE, kI 0, kI 0, kE, kZ, .psl [kI 20, kS [110], kI 0, kI 0, kE, kZ, kZ, kI 19, kE, kI 1, kI 0, kE, kZ, kZ] 7 2 (some 2)] 9 1 (some 1), kS [114,101,115,101,116], kZ, kI 0, kZ, kZ, kZ, .psl [kS [110], .sc (.bool false), kI 19, kE, kI 0, kI 0, kE, kZ, kZ] 9 1 (some 1)] 7 2 (some 2)] 14 2 (some 2)]
def q0 : Known2 := ⟨111, [kS [104,105,103,104]], .sc (.bool true)⟩
def q1 : Known2 := ⟨111, [kS [105,110,116]], .sc (.bool false)⟩
def q2 : Known2 := ⟨111, [kS [105,110,99]], .sc (.bool true)⟩
def q3 : Known2 := ⟨111, [kS [108,111,119]], .sc (.bool true)⟩
def q4 : Known2 := ⟨111, [kS [110]], .sc (.bool true)⟩
def q5 : Known2 := ⟨111, [kS [112,111,115]], .sc (.bool true)⟩
def q6 : Known2 := ⟨111, [kS [114,101,115,101,116]], .sc (.bool true)⟩
def q7 : Known2 := ⟨111, [kS [114,111,111,109]], .sc (.bool true)⟩
def q8 : Known2 := ⟨111, [kS [67,111,117,110,116,101,114]], .sc (.bool true)⟩
def q9 : Known2 := ⟨111, [kS [76,105,109,105,116,115]], .sc (.bool true)⟩
def q10 : Known2 := ⟨111, [kS [99,97,112]], .sc (.bool true)⟩
def q11 : Known2 := ⟨20, [kS [99,111,110,116,101,120,116,32,76,105,109,105,116,115,10,32,32,99,111,110,115,116,97,110,116,32,99,97,112,32,58,32,105,110,116,10,32,32,97,120,105,111,109,32,112,111,115,32,58,32,48,32,60,32,99,97,112,10,101,110,100,10,10,109,97,99,104,105,110,101,32,67,111,117,110,116,101,114,32,115,101,101,115,32,76,105,109,105,116,115,10,32,32,118,97,114,32,110,32,58,32,105,110,116,10,32,32,105,110,118,97,114,105,97,110,116,32,108,111,119,32,58,32,48,32,60,61,32,110,10,32,32,105,110,118,97,114,105,97,110,116,32,104,105,103,104,32,58,32,110,32,60,61,32,99,97,112,10,32,32,105,110,105,116,10,32,32,32,32,110,32,58,61,32,48,10,32,32,101,118,101,110,116,32,105,110,99,10,32,32,32,32,119,104,101,110,32,114,111,111,109,32,58,32,110,32,60,32,99,97,112,10,32,32,32,32,110,32,58,61,32,110,32,43,32,49,10,32,32,101,118,101,110,116,32,114,101,115,101,116,10,32,32,32,32,110,32,58,61,32,48,10,101,110,100,10], .sc (.func (.func 21) #[] #[])], .sc (.int .i64 (-1))⟩
def q12 : Known2 := ⟨309, [kS [105,110,116]], .tuple [.agg [kI 1, kE, kZ], kI 0, kI 0]⟩
def q13 : Known2 := ⟨56, [kS [101,110,100], kS [32,9]], kS [101,110,100]⟩
def q14 : Known2 := ⟨56, [kS [109,97,99,104,105,110,101,32,67,111,117,110,116,101,114,32,115,101,101,115,32,76,105,109,105,116,115], kS [32,9]], kS [109,97,99,104,105,110,101,32,67,111,117,110,116,101,114,32,115,101,101,115,32,76,105,109,105,116,115]⟩
def q15 : Known2 := ⟨56, [kS [32,32,101,118,101,110,116,32,105,110,99], kS [32,9]], kS [101,118,101,110,116,32,105,110,99]⟩
def q16 : Known2 := ⟨56, [kS [32,32,101,118,101,110,116,32,114,101,115,101,116], kS [32,9]], kS [101,118,101,110,116,32,114,101,115,101,116]⟩
def q17 : Known2 := ⟨56, [kS [32,32,105,110,105,116], kS [32,9]], kS [105,110,105,116]⟩
def q18 : Known2 := ⟨56, [kS [32,32,105,110,118,97,114,105,97,110,116,32,104,105,103,104,32,58,32,110,32,60,61,32,99,97,112], kS [32,9]], kS [105,110,118,97,114,105,97,110,116,32,104,105,103,104,32,58,32,110,32,60,61,32,99,97,112]⟩
def q19 : Known2 := ⟨56, [kS [32,32,105,110,118,97,114,105,97,110,116,32,108,111,119,32,58,32,48,32,60,61,32,110], kS [32,9]], kS [105,110,118,97,114,105,97,110,116,32,108,111,119,32,58,32,48,32,60,61,32,110]⟩
def q20 : Known2 := ⟨56, [kS [32,32,118,97,114,32,110,32,58,32,105,110,116], kS [32,9]], kS [118,97,114,32,110,32,58,32,105,110,116]⟩
def q21 : Known2 := ⟨56, [kS [32,32,32,32,110,32,58,61,32,110,32,43,32,49], kS [32,9]], kS [110,32,58,61,32,110,32,43,32,49]⟩
def q22 : Known2 := ⟨56, [kS [32,32,32,32,110,32,58,61,32,48], kS [32,9]], kS [110,32,58,61,32,48]⟩
def q23 : Known2 := ⟨56, [kS [32,32,32,32,119,104,101,110,32,114,111,111,109,32,58,32,110,32,60,32,99,97,112], kS [32,9]], kS [119,104,101,110,32,114,111,111,109,32,58,32,110,32,60,32,99,97,112]⟩
def q24 : Known2 := ⟨56, [kS [32,32,97,120,105,111,109,32,112,111,115,32,58,32,48,32,60,32,99,97,112], kS [32,9]], kS [97,120,105,111,109,32,112,111,115,32,58,32,48,32,60,32,99,97,112]⟩
def q25 : Known2 := ⟨56, [kS [32,32,99,111,110,115,116,97,110,116,32,99,97,112,32,58,32,105,110,116], kS [32,9]], kS [99,111,110,115,116,97,110,116,32,99,97,112,32,58,32,105,110,116]⟩
def q26 : Known2 := ⟨56, [kS [99,111,110,116,101,120,116,32,76,105,109,105,116,115], kS [32,9]], kS [99,111,110,116,101,120,116,32,76,105,109,105,116,115]⟩
def q27 : Known2 := ⟨56, [kE, kS [32,9]], kE⟩
def q28 : Known2 := ⟨57, [kS [101,110,100]], .tuple [kS [101,110,100], kE]⟩
def q29 : Known2 := ⟨57, [kS [101,118,101,110,116,32,105,110,99]], .tuple [kS [101,118,101,110,116], kS [105,110,99]]⟩
def q30 : Known2 := ⟨57, [kS [101,118,101,110,116,32,114,101,115,101,116]], .tuple [kS [101,118,101,110,116], kS [114,101,115,101,116]]⟩
def q31 : Known2 := ⟨57, [kS [104,105,103,104,32,58,32,110,32,60,61,32,99,97,112]], .tuple [kS [104,105,103,104], kS [58,32,110,32,60,61,32,99,97,112]]⟩
def q32 : Known2 := ⟨57, [kS [105,110,105,116]], .tuple [kS [105,110,105,116], kE]⟩
def q33 : Known2 := ⟨57, [kS [105,110,118,97,114,105,97,110,116,32,104,105,103,104,32,58,32,110,32,60,61,32,99,97,112]], .tuple [kS [105,110,118,97,114,105,97,110,116], kS [104,105,103,104,32,58,32,110,32,60,61,32,99,97,112]]⟩
def q34 : Known2 := ⟨57, [kS [105,110,118,97,114,105,97,110,116,32,108,111,119,32,58,32,48,32,60,61,32,110]], .tuple [kS [105,110,118,97,114,105,97,110,116], kS [108,111,119,32,58,32,48,32,60,61,32,110]]⟩
def q35 : Known2 := ⟨57, [kS [105,110,99]], .tuple [kS [105,110,99], kE]⟩
def q36 : Known2 := ⟨57, [kS [108,111,119,32,58,32,48,32,60,61,32,110]], .tuple [kS [108,111,119], kS [58,32,48,32,60,61,32,110]]⟩
def q37 : Known2 := ⟨57, [kS [109,97,99,104,105,110,101,32,67,111,117,110,116,101,114,32,115,101,101,115,32,76,105,109,105,116,115]], .tuple [kS [109,97,99,104,105,110,101], kS [67,111,117,110,116,101,114,32,115,101,101,115,32,76,105,109,105,116,115]]⟩
def q38 : Known2 := ⟨57, [kS [110,32,58,32,105,110,116]], .tuple [kS [110], kS [58,32,105,110,116]]⟩
def q39 : Known2 := ⟨57, [kS [110,32,58,61,32,110,32,43,32,49]], .tuple [kS [110], kS [58,61,32,110,32,43,32,49]]⟩
def q40 : Known2 := ⟨57, [kS [110,32,58,61,32,48]], .tuple [kS [110], kS [58,61,32,48]]⟩
def q41 : Known2 := ⟨57, [kS [112,111,115,32,58,32,48,32,60,32,99,97,112]], .tuple [kS [112,111,115], kS [58,32,48,32,60,32,99,97,112]]⟩
def q42 : Known2 := ⟨57, [kS [114,101,115,101,116]], .tuple [kS [114,101,115,101,116], kE]⟩
def q43 : Known2 := ⟨57, [kS [114,111,111,109,32,58,32,110,32,60,32,99,97,112]], .tuple [kS [114,111,111,109], kS [58,32,110,32,60,32,99,97,112]]⟩
def q44 : Known2 := ⟨57, [kS [115,101,101,115,32,76,105,109,105,116,115]], .tuple [kS [115,101,101,115], kS [76,105,109,105,116,115]]⟩
def q45 : Known2 := ⟨57, [kS [118,97,114,32,110,32,58,32,105,110,116]], .tuple [kS [118,97,114], kS [110,32,58,32,105,110,116]]⟩
def q46 : Known2 := ⟨57, [kS [119,104,101,110,32,114,111,111,109,32,58,32,110,32,60,32,99,97,112]], .tuple [kS [119,104,101,110], kS [114,111,111,109,32,58,32,110,32,60,32,99,97,112]]⟩
def q47 : Known2 := ⟨57, [kS [58,32,105,110,116]], .tuple [kS [58], kS [105,110,116]]⟩
def q48 : Known2 := ⟨57, [kS [58,32,110,32,60,32,99,97,112]], .tuple [kS [58], kS [110,32,60,32,99,97,112]]⟩
def q49 : Known2 := ⟨57, [kS [58,32,110,32,60,61,32,99,97,112]], .tuple [kS [58], kS [110,32,60,61,32,99,97,112]]⟩
def q50 : Known2 := ⟨57, [kS [58,32,48,32,60,32,99,97,112]], .tuple [kS [58], kS [48,32,60,32,99,97,112]]⟩
def q51 : Known2 := ⟨57, [kS [58,32,48,32,60,61,32,110]], .tuple [kS [58], kS [48,32,60,61,32,110]]⟩
def q52 : Known2 := ⟨57, [kS [58,61,32,110,32,43,32,49]], .tuple [kS [58,61], kS [110,32,43,32,49]]⟩
def q53 : Known2 := ⟨57, [kS [58,61,32,48]], .tuple [kS [58,61], kS [48]]⟩
def q54 : Known2 := ⟨57, [kS [67,111,117,110,116,101,114,32,115,101,101,115,32,76,105,109,105,116,115]], .tuple [kS [67,111,117,110,116,101,114], kS [115,101,101,115,32,76,105,109,105,116,115]]⟩
def q55 : Known2 := ⟨57, [kS [76,105,109,105,116,115]], .tuple [kS [76,105,109,105,116,115], kE]⟩
def q56 : Known2 := ⟨57, [kS [97,120,105,111,109,32,112,111,115,32,58,32,48,32,60,32,99,97,112]], .tuple [kS [97,120,105,111,109], kS [112,111,115,32,58,32,48,32,60,32,99,97,112]]⟩
def q57 : Known2 := ⟨57, [kS [99,111,110,115,116,97,110,116,32,99,97,112,32,58,32,105,110,116]], .tuple [kS [99,111,110,115,116,97,110,116], kS [99,97,112,32,58,32,105,110,116]]⟩
def q58 : Known2 := ⟨57, [kS [99,111,110,116,101,120,116,32,76,105,109,105,116,115]], .tuple [kS [99,111,110,116,101,120,116], kS [76,105,109,105,116,115]]⟩
def q59 : Known2 := ⟨57, [kS [99,97,112,32,58,32,105,110,116]], .tuple [kS [99,97,112], kS [58,32,105,110,116]]⟩
def q60 : Known2 := ⟨57, [kE], .tuple [kE, kE]⟩
def q61 : Known2 := ⟨194, [kS [110]], .sc (.bool true)⟩
def q62 : Known2 := ⟨194, [kS [99,97,112]], .sc (.bool true)⟩
def q63 : Known2 := ⟨195, [.agg [kI 1, kE, kZ]], .sc (.bool true)⟩
def q64 : Known2 := ⟨252, [.agg [kI 1, kE, kZ]], kZ⟩
def q65 : Known2 := ⟨288, [.agg [kI 12, kE, kI 0, kI 0, kE, kZ, .psl [kI 19, kE, kI 0, kI 0, kE, kZ, kZ, kI 20, kS [99,97,112], kI 0, kI 0, kE, kZ, kZ] 7 2 (some 2)]], .sc (.bool true)⟩
def q66 : Known2 := ⟨288, [.agg [kI 12, kE, kI 0, kI 0, kE, kZ, .psl [kI 20, kS [110], kI 0, kI 0, kE, kZ, kZ, kI 20, kS [99,97,112], kI 0, kI 0, kE, kZ, kZ] 7 2 (some 2)]], .sc (.bool true)⟩
def q67 : Known2 := ⟨288, [.agg [kI 13, kE, kI 0, kI 0, kE, kZ, .psl [kI 19, kE, kI 0, kI 0, kE, kZ, kZ, kI 20, kS [110], kI 0, kI 0, kE, kZ, kZ] 7 2 (some 2)]], .sc (.bool true)⟩
def q68 : Known2 := ⟨288, [.agg [kI 13, kE, kI 0, kI 0, kE, kZ, .psl [kI 20, kS [110], kI 0, kI 0, kE, kZ, kZ, kI 20, kS [99,97,112], kI 0, kI 0, kE, kZ, kZ] 7 2 (some 2)]], .sc (.bool true)⟩
def q69 : Known2 := ⟨288, [.agg [kI 19, kE, kI 0, kI 0, kE, kZ, kZ]], .sc (.bool true)⟩
def q70 : Known2 := ⟨288, [.agg [kI 19, kE, kI 1, kI 0, kE, kZ, kZ]], .sc (.bool true)⟩
def q71 : Known2 := ⟨288, [.agg [kI 20, kS [110], kI 0, kI 0, kE, kZ, kZ]], .sc (.bool true)⟩
def q72 : Known2 := ⟨288, [.agg [kI 20, kS [99,97,112], kI 0, kI 0, kE, kZ, kZ]], .sc (.bool true)⟩
def q73 : Known2 := ⟨288, [.agg [kI 22, kE, kI 0, kI 0, kE, kZ, .psl [kI 20, kS [110], kI 0, kI 0, kE, kZ, kZ, kI 19, kE, kI 1, kI 0, kE, kZ, kZ] 7 2 (some 2)]], .sc (.bool true)⟩
def q74 : Known2 := ⟨378, [.agg [kI 1, kE, kZ]], .tuple [.agg [kI 1, kE, kZ], kI 0]⟩
def q75 : Known2 := ⟨378, [.agg [kI 2, kE, kZ]], .tuple [.agg [kI 2, kE, kZ], kI 0]⟩
def q76 : Known2 := ⟨204, [kI 12], kS [60]⟩
def q77 : Known2 := ⟨204, [kI 13], kS [60,61]⟩
def q78 : Known2 := ⟨204, [kI 19], kE⟩
def q79 : Known2 := ⟨204, [kI 20], kE⟩
def q80 : Known2 := ⟨204, [kI 22], kS [43]⟩
def q81 : Known2 := ⟨88, [kS [32], kI 0], kE⟩
def q82 : Known2 := ⟨88, [kS [32], kI 2], kS [32,32]⟩
def q83 : Known2 := ⟨88, [kS [32], kI 4], kS [32,32,32,32]⟩
def r0 : Known2 := ⟨230, [kS [110,32,43,32,49]], .tuple [.agg [kI 22, kE, kI 0, kI 0, kE, kZ, .psl [kI 20, kS [110], kI 0, kI 0, kE, kZ, kZ, kI 19, kE, kI 1, kI 0, kE, kZ, kZ] 7 2 (some 2)], kI 0, kI 0]⟩
def r1 : Known2 := ⟨230, [kS [110,32,60,32,99,97,112]], .tuple [.agg [kI 12, kE, kI 0, kI 0, kE, kZ, .psl [kI 20, kS [110], kI 0, kI 0, kE, kZ, kZ, kI 20, kS [99,97,112], kI 0, kI 0, kE, kZ, kZ] 7 2 (some 2)], kI 0, kI 0]⟩
def r2 : Known2 := ⟨230, [kS [110,32,60,61,32,99,97,112]], .tuple [.agg [kI 13, kE, kI 0, kI 0, kE, kZ, .psl [kI 20, kS [110], kI 0, kI 0, kE, kZ, kZ, kI 20, kS [99,97,112], kI 0, kI 0, kE, kZ, kZ] 7 2 (some 2)], kI 0, kI 0]⟩
def r3 : Known2 := ⟨230, [kS [48,32,60,32,99,97,112]], .tuple [.agg [kI 12, kE, kI 0, kI 0, kE, kZ, .psl [kI 19, kE, kI 0, kI 0, kE, kZ, kZ, kI 20, kS [99,97,112], kI 0, kI 0, kE, kZ, kZ] 7 2 (some 2)], kI 0, kI 0]⟩
def r4 : Known2 := ⟨230, [kS [48,32,60,61,32,110]], .tuple [.agg [kI 13, kE, kI 0, kI 0, kE, kZ, .psl [kI 19, kE, kI 0, kI 0, kE, kZ, kZ, kI 20, kS [110], kI 0, kI 0, kE, kZ, kZ] 7 2 (some 2)], kI 0, kI 0]⟩
def r5 : Known2 := ⟨230, [kS [48]], .tuple [.agg [kI 19, kE, kI 0, kI 0, kE, kZ, kZ], kI 0, kI 0]⟩
def r6 : Known2 := ⟨83, [.agg [kZ, .psl [kS [99,97,112], kI 1, kE, kZ, kS [110], kI 1, kE, kZ] 4 2 none]], .sc (.bool true)⟩
def r7 : Known2 := ⟨83, [.agg [kZ, .psl [kS [99,97,112], kI 1, kE, kZ] 4 1 none]], .sc (.bool true)⟩
def r8 : Known2 := ⟨83, [.agg [kZ, kZ]], .sc (.bool true)⟩
def r9 : Known2 := ⟨91, [.agg [kI 12, kE, kI 0, kI 0, kE, kZ, .psl [kI 19, kE, kI 0, kI 0, kE, kZ, kZ, kI 20, kS [99,97,112], kI 0, kI 0, kE, kZ, kZ] 7 2 (some 2)]], .sc (.bool true)⟩
def r10 : Known2 := ⟨91, [.agg [kI 12, kE, kI 0, kI 0, kE, kZ, .psl [kI 20, kS [110], kI 0, kI 0, kE, kZ, kZ, kI 20, kS [99,97,112], kI 0, kI 0, kE, kZ, kZ] 7 2 (some 2)]], .sc (.bool true)⟩
def r11 : Known2 := ⟨91, [.agg [kI 13, kE, kI 0, kI 0, kE, kZ, .psl [kI 19, kE, kI 0, kI 0, kE, kZ, kZ, kI 20, kS [110], kI 0, kI 0, kE, kZ, kZ] 7 2 (some 2)]], .sc (.bool true)⟩
def r12 : Known2 := ⟨91, [.agg [kI 13, kE, kI 0, kI 0, kE, kZ, .psl [kI 20, kS [110], kI 0, kI 0, kE, kZ, kZ, kI 20, kS [99,97,112], kI 0, kI 0, kE, kZ, kZ] 7 2 (some 2)]], .sc (.bool true)⟩
def r13 : Known2 := ⟨91, [.agg [kI 19, kE, kI 0, kI 0, kE, kZ, kZ]], .sc (.bool true)⟩
def r14 : Known2 := ⟨91, [.agg [kI 22, kE, kI 0, kI 0, kE, kZ, .psl [kI 20, kS [110], kI 0, kI 0, kE, kZ, kZ, kI 19, kE, kI 1, kI 0, kE, kZ, kZ] 7 2 (some 2)]], .sc (.bool true)⟩
def r15 : Known2 := ⟨293, [.agg [kI 19, kE, kI 0, kI 0, kE, kZ, kZ]], .sc (.bool false)⟩
def r16 : Known2 := ⟨293, [.agg [kI 19, kE, kI 1, kI 0, kE, kZ, kZ]], .sc (.bool false)⟩
def r17 : Known2 := ⟨293, [.agg [kI 20, kS [110], kI 0, kI 0, kE, kZ, kZ]], .sc (.bool false)⟩
def r18 : Known2 := ⟨293, [.agg [kI 20, kS [99,97,112], kI 0, kI 0, kE, kZ, kZ]], .sc (.bool false)⟩
def r19 : Known2 := ⟨41, [.agg [kI 12, kE, kI 0, kI 0, kE, kZ, .psl [kI 19, kE, kI 0, kI 0, kE, kZ, kZ, kI 20, kS [99,97,112], kI 0, kI 0, kE, kZ, kZ] 7 2 (some 2)]], kS [48,32,60,32,99,97,112]⟩
def r20 : Known2 := ⟨41, [.agg [kI 12, kE, kI 0, kI 0, kE, kZ, .psl [kI 20, kS [110], kI 0, kI 0, kE, kZ, kZ, kI 20, kS [99,97,112], kI 0, kI 0, kE, kZ, kZ] 7 2 (some 2)]], kS [110,32,60,32,99,97,112]⟩
def r21 : Known2 := ⟨41, [.agg [kI 13, kE, kI 0, kI 0, kE, kZ, .psl [kI 19, kE, kI 0, kI 0, kE, kZ, kZ, kI 20, kS [110], kI 0, kI 0, kE, kZ, kZ] 7 2 (some 2)]], kS [48,32,60,61,32,110]⟩
def r22 : Known2 := ⟨41, [.agg [kI 13, kE, kI 0, kI 0, kE, kZ, .psl [kI 20, kS [110], kI 0, kI 0, kE, kZ, kZ, kI 20, kS [99,97,112], kI 0, kI 0, kE, kZ, kZ] 7 2 (some 2)]], kS [110,32,60,61,32,99,97,112]⟩
def r23 : Known2 := ⟨41, [.agg [kI 19, kE, kI 0, kI 0, kE, kZ, kZ]], kS [48]⟩
def r24 : Known2 := ⟨41, [.agg [kI 22, kE, kI 0, kI 0, kE, kZ, .psl [kI 20, kS [110], kI 0, kI 0, kE, kZ, kZ, kI 19, kE, kI 1, kI 0, kE, kZ, kZ] 7 2 (some 2)]], kS [110,32,43,32,49]⟩
def km : Known2 := ⟨8, [kS [99,111,110,116,101,120,116,32,76,105,109,105,116,115,10,32,32,99,111,110,115,116,97,110,116,32,99,97,112,32,58,32,105,110,116,10,32,32,97,120,105,111,109,32,112,111,115,32,58,32,48,32,60,32,99,97,112,10,101,110,100,10,10,109,97,99,104,105,110,101,32,67,111,117,110,116,101,114,32,115,101,101,115,32,76,105,109,105,116,115,10,32,32,118,97,114,32,110,32,58,32,105,110,116,10,32,32,105,110,118,97,114,105,97,110,116,32,108,111,119,32,58,32,48,32,60,61,32,110,10,32,32,105,110,118,97,114,105,97,110,116,32,104,105,103,104,32,58,32,110,32,60,61,32,99,97,112,10,32,32,105,110,105,116,10,32,32,32,32,110,32,58,61,32,48,10,32,32,101,118,101,110,116,32,105,110,99,10,32,32,32,32,119,104,101,110,32,114,111,111,109,32,58,32,110,32,60,32,99,97,112,10,32,32,32,32,110,32,58,61,32,110,32,43,32,49,10,32,32,101,118,101,110,116,32,114,101,115,101,116,10,32,32,32,32,110,32,58,61,32,48,10,101,110,100,10]], .tuple [pj, kI 0, kI 0, kI 0]⟩
def kc : Known2 := ⟨9, [pj], .agg [kI 0, kI 0, kE]⟩
def kF : Known2 := ⟨6, [pj], kS [99,111,110,116,101,120,116,32,76,105,109,105,116,115,10,32,32,99,111,110,115,116,97,110,116,32,99,97,112,32,58,32,105,110,116,10,32,32,97,120,105,111,109,32,112,111,115,32,58,32,48,32,60,32,99,97,112,10,101,110,100,10,10,109,97,99,104,105,110,101,32,67,111,117,110,116,101,114,32,115,101,101,115,32,76,105,109,105,116,115,10,32,32,118,97,114,32,110,32,58,32,105,110,116,10,32,32,105,110,118,97,114,105,97,110,116,32,108,111,119,32,58,32,48,32,60,61,32,110,10,32,32,105,110,118,97,114,105,97,110,116,32,104,105,103,104,32,58,32,110,32,60,61,32,99,97,112,10,32,32,105,110,105,116,10,32,32,32,32,110,32,58,61,32,48,10,32,32,101,118,101,110,116,32,105,110,99,10,32,32,32,32,119,104,101,110,32,114,111,111,109,32,58,32,110,32,60,32,99,97,112,10,32,32,32,32,110,32,58,61,32,110,32,43,32,49,10,32,32,101,118,101,110,116,32,114,101,115,101,116,10,32,32,32,32,110,32,58,61,32,48,10,101,110,100,10]⟩
def ka : Known2 := ⟨5, [], .sc (.bool true)⟩
def tq : Tr (List Known2) := (.node (.node (.node (.node (.node .leaf none (.node .leaf none (.node .leaf (some [q0, q1, q2, q3, q4, q5, q6, q7, q8, q9, q10]) .leaf))) none .leaf) none (.node (.node (.node (.node .leaf none (.node .leaf (some [q63]) .leaf)) none .leaf) none .leaf) none .leaf)) none (.node (.node .leaf none (.node .leaf none (.node .leaf (some [q28, q29, q30, q31, q32, q33, q34, q35, q36, q37, q38, q39, q40, q41, q42, q43, q44, q45, q46, q47, q48, q49, q50, q51, q52, q53, q54, q55, q56, q57, q58, q59, q60]) .leaf))) none (.node (.node .leaf none (.node .leaf none (.node (.node (.node .leaf (some [q12]) .leaf) none .leaf) none .leaf))) none .leaf))) none (.node (.node (.node (.node (.node .leaf none (.node (.node (.node .leaf (some [q65, q66, q67, q68, q69, q70, q71, q72, q73]) .leaf) none .leaf) none .leaf)) none .leaf) none (.node .leaf none (.node (.node .leaf (some [q81, q82, q83]) .leaf) (some [q13, q14, q15, q16, q17, q18, q19, q20, q21, q22, q23, q24, q25, q26, q27]) .leaf))) none (.node (.node .leaf (some [q11]) .leaf) none (.node (.node (.node .leaf none (.node .leaf (some [q76, q77, q78, q79, q80]) .leaf)) none .leaf) none (.node .leaf none (.node .leaf none (.node .leaf (some [q64]) .leaf)))))) none (.node (.node (.node (.node (.node .leaf none (.node .leaf (some [q61, q62]) .leaf)) none .leaf) none .leaf) none (.node .leaf none (.node .leaf none (.node .leaf none (.node (.node .leaf (some [q74, q75]) .leaf) none .leaf))))) none .leaf)))
def tqL : List Known2 := [q0, q1, q2, q3, q4, q5, q6, q7, q8, q9, q10, q63, q28, q29, q30, q31, q32, q33, q34, q35, q36, q37, q38, q39, q40, q41, q42, q43, q44, q45, q46, q47, q48, q49, q50, q51, q52, q53, q54, q55, q56, q57, q58, q59, q60, q12, q65, q66, q67, q68, q69, q70, q71, q72, q73, q81, q82, q83, q13, q14, q15, q16, q17, q18, q19, q20, q21, q22, q23, q24, q25, q26, q27, q11, q76, q77, q78, q79, q80, q64, q61, q62, q74, q75]
theorem tq_vals : tq.vals.flatten = tqL := by kernel_rfl
def tr : Tr (List Known2) := (.node (.node (.node (.node (.node .leaf none (.node .leaf none (.node .leaf (some [q0, q1, q2, q3, q4, q5, q6, q7, q8, q9, q10]) .leaf))) none .leaf) none (.node (.node (.node (.node .leaf none (.node .leaf (some [q63]) .leaf)) none .leaf) none (.node (.node .leaf (some [r6, r7, r8]) .leaf) none .leaf)) none (.node .leaf none (.node (.node .leaf (some [r9, r10, r11, r12, r13, r14]) .leaf) none .leaf)))) none (.node (.node .leaf none (.node (.node .leaf (some [r19, r20, r21, r22, r23, r24]) .leaf) none (.node .leaf (some [q28, q29, q30, q31, q32, q33, q34, q35, q36, q37, q38, q39, q40, q41, q42, q43, q44, q45, q46, q47, q48, q49, q50, q51, q52, q53, q54, q55, q56, q57, q58, q59, q60]) .leaf))) none (.node (.node (.node .leaf none (.node (.node (.node .leaf (some [r15, r16, r17, r18]) .leaf) none .leaf) none .leaf)) none (.node .leaf none (.node (.node (.node .leaf (some [q12]) .leaf) none .leaf) none .leaf))) none .leaf))) none (.node (.node (.node (.node (.node .leaf none (.node (.node (.node .leaf (some [q65, q66, q67, q68, q69, q70, q71, q72, q73]) .leaf) none .leaf) none .leaf)) none .leaf) none (.node .leaf none (.node (.node .leaf (some [q81, q82, q83]) .leaf) (some [q13, q14, q15, q16, q17, q18, q19, q20, q21, q22, q23, q24, q25, q26, q27]) .leaf))) none (.node (.node .leaf (some [q11]) .leaf) none (.node (.node (.node .leaf none (.node .leaf (some [q76, q77, q78, q79, q80]) .leaf)) none .leaf) none (.node .leaf none (.node .leaf none (.node .leaf (some [q64]) .leaf)))))) none (.node (.node (.node (.node (.node .leaf none (.node .leaf (some [q61, q62]) .leaf)) none .leaf) none .leaf) none (.node .leaf none (.node .leaf none (.node .leaf none (.node (.node .leaf (some [q74, q75]) .leaf) none .leaf))))) none (.node (.node (.node .leaf none (.node .leaf none (.node .leaf (some [r0, r1, r2, r3, r4, r5]) .leaf))) none .leaf) none .leaf))))
def trL : List Known2 := [q0, q1, q2, q3, q4, q5, q6, q7, q8, q9, q10, q63, r6, r7, r8, r9, r10, r11, r12, r13, r14, r19, r20, r21, r22, r23, r24, q28, q29, q30, q31, q32, q33, q34, q35, q36, q37, q38, q39, q40, q41, q42, q43, q44, q45, q46, q47, q48, q49, q50, q51, q52, q53, q54, q55, q56, q57, q58, q59, q60, r15, r16, r17, r18, q12, q65, q66, q67, q68, q69, q70, q71, q72, q73, q81, q82, q83, q13, q14, q15, q16, q17, q18, q19, q20, q21, q22, q23, q24, q25, q26, q27, q11, q76, q77, q78, q79, q80, q64, q61, q62, q74, q75, r0, r1, r2, r3, r4, r5]
theorem tr_vals : tr.vals.flatten = trL := by kernel_rfl
def ts : Tr (List Known2) := (.node (.node .leaf none (.node (.node .leaf (some [kc]) .leaf) none .leaf)) none (.node (.node (.node .leaf (some [km]) .leaf) none .leaf) none (.node .leaf (some [kF]) .leaf)))
def tsL : List Known2 := [kc, km, kF]
theorem ts_vals : ts.vals.flatten = tsL := by kernel_rfl
end Go.AI
