/- A part of the proof of the tied card of UnknownForced (chapter 39): the law returns true whatever the input. -/
import Derived.Test.YtpgmoinalongnaaGreatDoorV3
import Derived.Test.YtpgmoinalongnaaGreatDoorE
import Derived.KernelRfl
import Derived.Test.YtpgmoinalongnaaGreatDoorProg
set_option linter.unusedVariables false
set_option linter.unusedSimpArgs false
namespace EV
open Go Go.Proofs
set_option maxRecDepth 100000
noncomputable def hm0 : List Nat := [nat_lit 0, nat_lit 0, nat_lit 1, nat_lit 549688729472, nat_lit 2418372750742124259958784, nat_lit 20282409603651670423947251220552, nat_lit 8184, nat_lit 70222774398464, nat_lit 232, nat_lit 36884480810716748800, nat_lit 33590208, nat_lit 549755813344, nat_lit 1073737696, nat_lit 19805831038087345507655340032, nat_lit 232, nat_lit 38992688663772004054421977088]
noncomputable def hm1 : List Nat := [nat_lit 59861106624, nat_lit 2181843369728, nat_lit 1020, nat_lit 17149720025410304000, nat_lit 7253414261231191021453312, nat_lit 10120779131155153815236616131584, nat_lit 1116972813107200, nat_lit 113600, nat_lit 33590208, nat_lit 6596532771776, nat_lit 480, nat_lit 0, nat_lit 228832, nat_lit 1924144807904, nat_lit 68719411168, nat_lit 1126002474086144]
noncomputable def hm2 : List Nat := [nat_lit 865796138177387520, nat_lit 0, nat_lit 0, nat_lit 4260611259904, nat_lit 216297024783941504, nat_lit 412178315136, nat_lit 1073741552, nat_lit 1048032, nat_lit 274878021120, nat_lit 36893487598130953984, nat_lit 288229826863562496, nat_lit 1098974754784, nat_lit 10042169442844622624906974953472, nat_lit 72039993261938688, nat_lit 178405958929139956300394637397647614598445824, nat_lit 353937196389366855456813840212778088780511232]
noncomputable def hm3 : List Nat := [nat_lit 576460715795705344, nat_lit 504, nat_lit 1072689344, nat_lit 562941836386304, nat_lit 120, nat_lit 2164128710144, nat_lit 1360962016070413336703859807058954944512, nat_lit 49805312, nat_lit 0, nat_lit 480, nat_lit 6441398368, nat_lit 457792, nat_lit 16776112, nat_lit 4185536, nat_lit 134184832, nat_lit 2024]
noncomputable def hm4 : List Nat := [nat_lit 467793792, nat_lit 1073741552, nat_lit 0, nat_lit 30081413120, nat_lit 39613779320789211888404593664, nat_lit 232, nat_lit 3458804091944320992, nat_lit 244736, nat_lit 444288, nat_lit 444288, nat_lit 1040128, nat_lit 16352, nat_lit 65504, nat_lit 232, nat_lit 232, nat_lit 232]
noncomputable def hm5 : List Nat := [nat_lit 232, nat_lit 2024, nat_lit 402517728, nat_lit 1048032, nat_lit 8318672, nat_lit 504, nat_lit 9444985168964871511040, nat_lit 113600, nat_lit 113600, nat_lit 2197948464576, nat_lit 34340863424, nat_lit 301052844866775891767296, nat_lit 7083540724767400062464, nat_lit 16105597808, nat_lit 245472, nat_lit 17449245216861056]
noncomputable def hm6 : List Nat := [nat_lit 0, nat_lit 70300024700928, nat_lit 130992, nat_lit 0, nat_lit 8725724278030336, nat_lit 144027774208704512, nat_lit 4080, nat_lit 131064, nat_lit 8184, nat_lit 1904, nat_lit 2096608, nat_lit 3137888, nat_lit 16376, nat_lit 0, nat_lit 77229424375229195844845568, nat_lit 266336320]
noncomputable def hm7 : List Nat := [nat_lit 2040, nat_lit 2305807854839324352, nat_lit 16352, nat_lit 2305807854839324352, nat_lit 33822859152, nat_lit 21698312610894868081007051427003837775872, nat_lit 262136, nat_lit 1190323832482188249282107027720375402496, nat_lit 17524004373425672472118008498585600, nat_lit 7788762122938784758983999383601152, nat_lit 4402340429568, nat_lit 131064, nat_lit 374144419165226394267253967232645593984781265234427904, nat_lit 8358680914959792128, nat_lit 348279002548576841086565074506630789316608, nat_lit 14167115281679387426816]
noncomputable def hm8 : List Nat := [nat_lit 1016, nat_lit 457792, nat_lit 61555219357184, nat_lit 131064, nat_lit 842193661067136, nat_lit 137438949056, nat_lit 0, nat_lit 1008, nat_lit 56, nat_lit 56, nat_lit 457792, nat_lit 32736, nat_lit 356811880641193788235784649198891004837494784, nat_lit 248, nat_lit 6594850979808, nat_lit 128496]
noncomputable def hm9 : List Nat := [nat_lit 34376499072, nat_lit 4158644096, nat_lit 822485702144, nat_lit 35175245283264, nat_lit 120, nat_lit 9007182057536448, nat_lit 270215977608640496, nat_lit 122864, nat_lit 547474079680, nat_lit 2000, nat_lit 2722092780580536884265919947656554872832, nat_lit 2008, nat_lit 108077319012218496, nat_lit 224, nat_lit 4397509111552, nat_lit 4193280]
noncomputable def hm10 : List Nat := [nat_lit 240, nat_lit 549151799296, nat_lit 34634615779328, nat_lit 35417676423792108208128, nat_lit 549755271168, nat_lit 4192256, nat_lit 309558210753471688866267136, nat_lit 16352, nat_lit 0, nat_lit 34090770432, nat_lit 21778061098346035111418113921327262334976, nat_lit 356811880641193788235784649198891004837494784, nat_lit 65938214860800, nat_lit 2475878897844031843297116672, nat_lit 52829038308416, nat_lit 0]
noncomputable def hm11 : List Nat := [nat_lit 604388040832344460849152, nat_lit 8244323938304, nat_lit 33030528, nat_lit 2198486433792, nat_lit 4867768401271526671747687437434880, nat_lit 1073186560, nat_lit 150977376869213158768384, nat_lit 1072168960, nat_lit 587990810545515134976, nat_lit 33548288, nat_lit 2166999531659222246004654080, nat_lit 2398508826115492436104019968, nat_lit 72057594306099200, nat_lit 8, nat_lit 16352, nat_lit 0]
noncomputable def hm12 : List Nat := [nat_lit 16352, nat_lit 0, nat_lit 38988005121346087403077632, nat_lit 2251797602170752, nat_lit 480, nat_lit 8388592, nat_lit 33590208, nat_lit 144115186999947232, nat_lit 2097000, nat_lit 480, nat_lit 16368, nat_lit 103079459840, nat_lit 1134907166224801792, nat_lit 527731221454848, nat_lit 7890306461253730304, nat_lit 16106159104]
noncomputable def hm13 : List Nat := [nat_lit 4520442040417956611268436633772032, nat_lit 1199255519863200990825021440, nat_lit 191572903891423045665708369530099306325954452741160960, nat_lit 524008, nat_lit 33537768, nat_lit 33275824, nat_lit 130496, nat_lit 864, nat_lit 68719967712, nat_lit 9297158874335725616896, nat_lit 2147479248, nat_lit 17941675586088928, nat_lit 504, nat_lit 504, nat_lit 8184, nat_lit 38676029299827888523050976]
noncomputable def hm14 : List Nat := [nat_lit 224, nat_lit 457792, nat_lit 8589858624, nat_lit 74937769144933679104, nat_lit 1125769952362496, nat_lit 16352, nat_lit 0, nat_lit 16773120, nat_lit 32736, nat_lit 4293966848, nat_lit 281471216613376, nat_lit 2040, nat_lit 34634632918976, nat_lit 356811880641193788235784649198891004837494784, nat_lit 6442512128, nat_lit 69805801739909120]
noncomputable def hm15 : List Nat := [nat_lit 131932805363712, nat_lit 123286018324422656, nat_lit 4026539776, nat_lit 70631906881722317310343994521600, nat_lit 131040, nat_lit 18738367497902098372100096, nat_lit 187082913956467841398811267177040735202862828617728, nat_lit 103079459840, nat_lit 1134907166224801792, nat_lit 527731221454848, nat_lit 7890306461253730304, nat_lit 16106159104, nat_lit 4520442040417956611268436633772032, nat_lit 1199255519863200990825021440, nat_lit 191572903891423045665708369530099306325954452741160960, nat_lit 5151562914232099685407623437316096]
noncomputable def hm16 : List Nat := [nat_lit 503875388657123328, nat_lit 131679636709376, nat_lit 15872, nat_lit 1044352, nat_lit 457792, nat_lit 496, nat_lit 524224, nat_lit 24, nat_lit 131040, nat_lit 0, nat_lit 10592286224611577030547840541146988544, nat_lit 16352, nat_lit 5504, nat_lit 2305807854839324352, nat_lit 16911371136, nat_lit 7616]
noncomputable def hm17 : List Nat := [nat_lit 4292738752, nat_lit 6784, nat_lit 70368744046512, nat_lit 19342223899026689428946944, nat_lit 68215103488, nat_lit 68718419968, nat_lit 4277919616, nat_lit 261120, nat_lit 532672512, nat_lit 261872, nat_lit 356811880641193788235784649198891004837494784, nat_lit 0, nat_lit 272728293376, nat_lit 0, nat_lit 356811880641193788235784649198891004837494784, nat_lit 3808]
noncomputable def hm18 : List Nat := [nat_lit 1073668096, nat_lit 4189888, nat_lit 502198256, nat_lit 457792, nat_lit 504, nat_lit 504, nat_lit 25016320, nat_lit 457792, nat_lit 15856, nat_lit 2417851639235855419437056, nat_lit 120, nat_lit 7516192768, nat_lit 261632, nat_lit 2199023247360, nat_lit 0, nat_lit 2040]
noncomputable def hm19 : List Nat := [nat_lit 536870904, nat_lit 0, nat_lit 276701019723909561344, nat_lit 65440, nat_lit 18446181123756592896, nat_lit 356811880641193788235784649198891004837494784, nat_lit 8353600, nat_lit 103079459840, nat_lit 1134907166224801792, nat_lit 527731221454848, nat_lit 7890306461253730304, nat_lit 16106159104, nat_lit 4520442040417956611268436633772032, nat_lit 1199255519863200990825021440, nat_lit 191572903891423045665708369530099306325954452741160960, nat_lit 37778931863369478634496]
noncomputable def hm20 : List Nat := [nat_lit 32640, nat_lit 68719474688, nat_lit 2417851639235855419437056, nat_lit 261632, nat_lit 2199023247360, nat_lit 8184, nat_lit 1904, nat_lit 522304, nat_lit 480, nat_lit 56, nat_lit 916480, nat_lit 16775232, nat_lit 6228864, nat_lit 131666517425792, nat_lit 480, nat_lit 16774912]
noncomputable def hm21 : List Nat := [nat_lit 2097120, nat_lit 457792, nat_lit 240, nat_lit 524220, nat_lit 24, nat_lit 33785728, nat_lit 356811880641193788235784649198891004837494784, nat_lit 232, nat_lit 4080, nat_lit 1827008, nat_lit 131056, nat_lit 1904, nat_lit 134152096, nat_lit 3808, nat_lit 4433196380266240, nat_lit 224]
noncomputable def hm22 : List Nat := [nat_lit 224, nat_lit 8322432, nat_lit 65392, nat_lit 103079459840, nat_lit 1134907166224801792, nat_lit 527731221454848, nat_lit 7890306461253730304, nat_lit 16106159104, nat_lit 4520442040417956611268436633772032, nat_lit 1199255519863200990825021440, nat_lit 191572903891423045665708369530099306325954452741160960, nat_lit 103079459840, nat_lit 1134907166224801792, nat_lit 527731221454848, nat_lit 7890306461253730304, nat_lit 16106159104]
noncomputable def hm23 : List Nat := [nat_lit 4520442040417956611268436633772032, nat_lit 1199255519863200990825021440, nat_lit 191572903891423045665708369530099306325954452741160960, nat_lit 8355784, nat_lit 480, nat_lit 56, nat_lit 536870904, nat_lit 480, nat_lit 56, nat_lit 37640580711207508330496, nat_lit 4286578688, nat_lit 224, nat_lit 103079459840, nat_lit 1134907166224801792, nat_lit 527731221454848, nat_lit 7890306461253730304]
noncomputable def hm24 : List Nat := [nat_lit 16106159104, nat_lit 4520442040417956611268436633772032, nat_lit 1199255519863200990825021440, nat_lit 191572903891423045665708369530099306325954452741160960, nat_lit 8581537792, nat_lit 2417851639235855419437056, nat_lit 261632, nat_lit 2199023247360, nat_lit 267911168, nat_lit 4286578688, nat_lit 492065779578368, nat_lit 457792, nat_lit 240, nat_lit 0, nat_lit 18014381321090304, nat_lit 103079459840]
noncomputable def hm25 : List Nat := [nat_lit 1134907166224801792, nat_lit 527731221454848, nat_lit 7890306461253730304, nat_lit 16106159104, nat_lit 4520442040417956611268436633772032, nat_lit 1199255519863200990825021440, nat_lit 191572903891423045665708369530099306325954452741160960, nat_lit 457792, nat_lit 56, nat_lit 30961727194267136, nat_lit 880, nat_lit 66583552, nat_lit 2417851639235855419437056, nat_lit 261632, nat_lit 2199023247360, nat_lit 2417851639235855419437056]
noncomputable def hm26 : List Nat := [nat_lit 261632, nat_lit 2199023247360, nat_lit 224, nat_lit 457792, nat_lit 29360496, nat_lit 262112, nat_lit 2417851639235855419437056, nat_lit 261632, nat_lit 2199023247360, nat_lit 4286578688, nat_lit 4610542519892045808, nat_lit 8184, nat_lit 32744, nat_lit 32752, nat_lit 183783874711840866936938013258858265847537960091648, nat_lit 5050176389969560855884357697536]
noncomputable def hm27 : List Nat := [nat_lit 2417851639235855419437056, nat_lit 261632, nat_lit 2199023247360, nat_lit 8321088, nat_lit 4286578688, nat_lit 4286578688, nat_lit 1565184, nat_lit 1072693248, nat_lit 4286578688, nat_lit 480, nat_lit 56, nat_lit 56, nat_lit 0, nat_lit 248, nat_lit 248, nat_lit 4286578688]
noncomputable def hm28 : List Nat := [nat_lit 0, nat_lit 457792, nat_lit 16360, nat_lit 16360, nat_lit 0, nat_lit 0, nat_lit 0, nat_lit 0, nat_lit 0, nat_lit 0, nat_lit 0, nat_lit 0, nat_lit 0, nat_lit 0, nat_lit 0, nat_lit 0]
noncomputable def hm29 : List Nat := [nat_lit 0, nat_lit 0, nat_lit 0, nat_lit 0, nat_lit 0, nat_lit 0, nat_lit 0, nat_lit 0, nat_lit 0, nat_lit 0, nat_lit 7]
noncomputable def hms : List (List Nat) := [hm0, hm1, hm2, hm3, hm4, hm5, hm6, hm7, hm8, hm9, hm10, hm11, hm12, hm13, hm14, hm15, hm16, hm17, hm18, hm19, hm20, hm21, hm22, hm23, hm24, hm25, hm26, hm27, hm28, hm29]
noncomputable def nthR {α : Type} (d : α) (l : List α) : Nat → α := List.rec (motive := fun _ => Nat → α) (fun _ => d) (fun x _ ih n => bK (Nat.beq n (nat_lit 0)) x (ih (Nat.sub n (nat_lit 1)))) l
/-- The local temporaries. -/
noncomputable def mk39 (f : Nat) : Nat := nthR (nat_lit 0) (nthR [] hms (Nat.div f (nat_lit 16))) (Nat.mod f (nat_lit 16))
/-- The functions without a body. -/
noncomputable def cd39 (f : Nat) : Nat := bK (Nat.beq f (nat_lit 305)) (nat_lit 1) (bK (Nat.beq f (nat_lit 397)) (nat_lit 2) (nat_lit 0))
/-- The functions behind 'slices.Backward'. -/
noncomputable def bk39 (f : Nat) : Option (P2 Nat Bool) := bK (Nat.beq f (nat_lit 281)) (some ⟨(nat_lit 7), true⟩) none
theorem find305 : Extern.find Tryz.f305 = some Extern.BytealgIndexByte.indexByte := by kernel_rfl
theorem find397 : Extern.find Tryz.f397 = some Extern.AbiNoEscape.same := by kernel_rfl
theorem next305 : Extern.findNext Tryz.f305 = none := by kernel_rfl
theorem next397 : Extern.findNext Tryz.f397 = none := by kernel_rfl
theorem name305 : (Tryz.f305.name == "runtime.NumGoroutine") = false := by kernel_rfl
theorem name397 : (Tryz.f397.name == "runtime.NumGoroutine") = false := by kernel_rfl
theorem body281 : Tryz.f281.body = some (backBody 116 213 3 4 399) := by kernel_rfl
theorem plain281 : plainName Tryz.f281.name = true := by kernel_rfl
theorem size213 : szOf Tryz.prog 213 = some 7 := by kernel_rfl
theorem agg213 : aggT Tryz.prog 213 = some true := by kernel_rfl
theorem globs39 : Tryz.prog.globals.size = 4 := by kernel_rfl
theorem mix39 : Tryz.prog.follows .mixedOrders = true := by kernel_rfl
theorem base39 : Base Tryz.prog 4 mk39 cd39 bk39 := by
  refine ⟨globs39, mix39, fun f q hq => ?_, fun f => ?_, fun f fn h1 hf _ => ?_, fun f fn h1 hf _ => ?_⟩
  · unfold bk39 at hq
    by_cases h : f = 281
    · subst h
      rw [nbT rfl] at hq
      cases hq
      exact ⟨Tryz.f281, 116, 213, 3, 4, 399, Tryz.func281, body281, rfl, rfl, plain281, Tryz.underlying116, size213, agg213⟩
    · rw [nbF h] at hq
      cases hq
  · unfold cd39
    by_cases h : f = 305
    · rw [nbT h]; change (1 : Nat) < 4; decide
    · rw [nbF h]
      by_cases h2 : f = 397
      · change bK (Nat.beq f 397) 2 0 < 4
        rw [nbT h2]; change (2 : Nat) < 4; decide
      · change bK (Nat.beq f 397) 2 0 < 4
        rw [nbF h2]; change (0 : Nat) < 4; decide
  · unfold cd39 at h1
    by_cases h : f = 305
    · subst h
      rw [Tryz.func305] at hf
      cases hf
      exact ⟨name305, next305, find305⟩
    · rw [nbF h] at h1
      have h1 : bK (Nat.beq f 397) 2 0 = 1 := h1
      by_cases h2 : f = 397
      · rw [nbT h2] at h1; cases h1
      · rw [nbF h2] at h1; cases h1
  · unfold cd39 at h1
    by_cases h : f = 305
    · rw [nbT h] at h1; cases h1
    · rw [nbF h] at h1
      have h1 : bK (Nat.beq f 397) 2 0 = 2 := h1
      by_cases h2 : f = 397
      · subst h2
        rw [Tryz.func397] at hf
        cases hf
        exact ⟨name397, next397, find397⟩
      · rw [nbF h2] at h1; cases h1
end EV
