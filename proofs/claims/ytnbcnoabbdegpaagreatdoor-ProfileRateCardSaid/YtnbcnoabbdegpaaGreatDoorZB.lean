/- A part of the proof of the tied card of ProfileRate (chapter 53): the law returns true whatever the input. -/
import Derived.Test.YtnbcnoabbdegpaaGreatDoorZV3
import Derived.Test.YtnbcnoabbdegpaaGreatDoorZE
import Derived.KernelRfl
import Derived.Test.YtnbcnoabbdegpaaGreatDoorProg
set_option linter.unusedVariables false
set_option linter.unusedSimpArgs false
namespace EV
open Go Go.Proofs
set_option maxRecDepth 100000
noncomputable def hm0:List Nat:=[nat_lit 0,nat_lit 0,nat_lit 1,nat_lit 147573952589659627520,nat_lit 161942364179156306041203834232940,nat_lit 1125762468347872,nat_lit 939257472,nat_lit 131192,nat_lit 29226752,nat_lit 944,nat_lit 944,nat_lit 16777184,nat_lit 29930553280,nat_lit 17149720025410304000,nat_lit 1020,nat_lit 348128800103936600867650975623633480712704]
noncomputable def hm1:List Nat:=[nat_lit 540365966869463040,nat_lit 17555670433408,nat_lit 33590208,nat_lit 17589971451872,nat_lit 133007800192,nat_lit 58686464,nat_lit 68719214400,nat_lit 264241024,nat_lit 232,nat_lit 232,nat_lit 232,nat_lit 2061315731168,nat_lit 1125899764234080,nat_lit 33029056,nat_lit 131064,nat_lit 131064]
noncomputable def hm2:List Nat:=[nat_lit 480,nat_lit 244092516695936,nat_lit 72039993261938688,nat_lit 178405958929139956300394637397647614598445824,nat_lit 353937196389366855456813840212778088780511232,nat_lit 10042169442844622624906974953472,nat_lit 79073419869849599501505921024,nat_lit 24,nat_lit 2096128,nat_lit 2064128,nat_lit 2296701798380863744,nat_lit 23287330166102942547292443174857163331877761777920,nat_lit 56,nat_lit 34359733504,nat_lit 56,nat_lit 3137888]
noncomputable def hm3:List Nat:=[nat_lit 467892192,nat_lit 16641536,nat_lit 36894613909898525696,nat_lit 4088,nat_lit 34359733504,nat_lit 2032,nat_lit 18014398375230464,nat_lit 4193200,nat_lit 2024,nat_lit 144115186999947232,nat_lit 270215977608640496,nat_lit 992,nat_lit 16105597808,nat_lit 245472,nat_lit 17449245216861056,nat_lit 0]
noncomputable def hm4:List Nat:=[nat_lit 70300024700928,nat_lit 130992,nat_lit 0,nat_lit 8725724278030336,nat_lit 144027774208704512,nat_lit 4080,nat_lit 8184,nat_lit 1904,nat_lit 2096608,nat_lit 2197948464576,nat_lit 34340863424,nat_lit 301052844866775891767296,nat_lit 7083540724767400062464,nat_lit 7083557640891199619072,nat_lit 567907470111172583040834131131392,nat_lit 992]
noncomputable def hm5:List Nat:=[nat_lit 412331604992,nat_lit 2596148429267450706697830094733312,nat_lit 4062080,nat_lit 0,nat_lit 24,nat_lit 33218755584,nat_lit 65938214860800,nat_lit 7253250978756389213495296,nat_lit 457792,nat_lit 240,nat_lit 480,nat_lit 576460715795705344,nat_lit 1072689344,nat_lit 77229424375229195844845568,nat_lit 587990810545515134976,nat_lit 86912]
noncomputable def hm6:List Nat:=[nat_lit 33548288,nat_lit 52780341379328,nat_lit 126944,nat_lit 2,nat_lit 4816812622450690473326592,nat_lit 137434693120,nat_lit 120,nat_lit 2032,nat_lit 140728898445248,nat_lit 15720800,nat_lit 16769024,nat_lit 39613779320789211888404593664,nat_lit 39613779320789211888404593664,nat_lit 8456699648,nat_lit 8456699648,nat_lit 480]
noncomputable def hm7:List Nat:=[nat_lit 24,nat_lit 274710527232,nat_lit 549754764288,nat_lit 120,nat_lit 523680,nat_lit 131040,nat_lit 56,nat_lit 55339106336252030912,nat_lit 504,nat_lit 504,nat_lit 504,nat_lit 504,nat_lit 7306176,nat_lit 122864,nat_lit 547474079680,nat_lit 2000]
noncomputable def hm8:List Nat:=[nat_lit 2722092780580536884265919947656554872832,nat_lit 2008,nat_lit 35175245283264,nat_lit 108077319012218496,nat_lit 822485702144,nat_lit 120,nat_lit 9007182057536448,nat_lit 113600,nat_lit 1126002474086144,nat_lit 2164128710144,nat_lit 1360962016070413336703859807058954944512,nat_lit 536813536,nat_lit 67108736,nat_lit 1073668096,nat_lit 633825148994063756023420153856,nat_lit 81129676949117181912092749323136]
noncomputable def hm9:List Nat:=[nat_lit 281440616940288,nat_lit 2147452864,nat_lit 4611686001213956096,nat_lit 244736,nat_lit 444288,nat_lit 34090770432,nat_lit 18014381321090304,nat_lit 114432,nat_lit 2,nat_lit 549470601216,nat_lit 5151562914232099685407623437316096,nat_lit 503875388657123328,nat_lit 131679636709376,nat_lit 15872,nat_lit 88,nat_lit 2130702336]
noncomputable def hm10:List Nat:=[nat_lit 2016,nat_lit 457792,nat_lit 16368,nat_lit 457792,nat_lit 16376,nat_lit 549151799296,nat_lit 34634615779328,nat_lit 35417676423792108208128,nat_lit 549755271168,nat_lit 4192256,nat_lit 309558210753471688866267136,nat_lit 16352,nat_lit 0,nat_lit 467793792,nat_lit 7616,nat_lit 4292738752]
noncomputable def hm11:List Nat:=[nat_lit 6784,nat_lit 70368744046512,nat_lit 19342223899026689428946944,nat_lit 159929793547915932888827929020886686579906576384,nat_lit 2198985506784,nat_lit 8184,nat_lit 8589918080,nat_lit 34259103232,nat_lit 4398046248448,nat_lit 2305825412732153856,nat_lit 523680,nat_lit 224,nat_lit 0,nat_lit 1008,nat_lit 0,nat_lit 1008]
noncomputable def hm12:List Nat:=[nat_lit 457792,nat_lit 62914544,nat_lit 4611613450123014144,nat_lit 1912,nat_lit 56,nat_lit 8184,nat_lit 38676029299827888523050976,nat_lit 68719967712,nat_lit 9297158874335725616896,nat_lit 2147479248,nat_lit 17941675586088928,nat_lit 4158644096,nat_lit 2024,nat_lit 1073741552,nat_lit 0,nat_lit 33822859152]
noncomputable def hm13:List Nat:=[nat_lit 21698312610894868081007051427003837775872,nat_lit 262136,nat_lit 1190323832482188249282107027720375402496,nat_lit 17524004373425672472118008498585600,nat_lit 7788762122938784758983999383601152,nat_lit 4402340429568,nat_lit 131064,nat_lit 374144419165226394267253967232645593984781265234427904,nat_lit 8358680914959792128,nat_lit 348279002548576841086565074506630789316608,nat_lit 504,nat_lit 0,nat_lit 53480245512108928,nat_lit 56,nat_lit 32744,nat_lit 32752]
noncomputable def hm14:List Nat:=[nat_lit 183783874711840866936938013258858265847537960091648,nat_lit 5050176389969560855884357697536,nat_lit 88,nat_lit 3058998925085579695201730150005723177426903922435424256,nat_lit 55204842757567676416,nat_lit 16352,nat_lit 0,nat_lit 73785850634912889600,nat_lit 16777184,nat_lit 8184,nat_lit 1904,nat_lit 522304,nat_lit 480,nat_lit 56,nat_lit 916480,nat_lit 16775232]
noncomputable def hm15:List Nat:=[nat_lit 6228864,nat_lit 131666517425792,nat_lit 1044352,nat_lit 480,nat_lit 16774912,nat_lit 2097120,nat_lit 504,nat_lit 224,nat_lit 8589858624,nat_lit 74937769144933679104,nat_lit 1125769952362496,nat_lit 16352,nat_lit 0,nat_lit 16773120,nat_lit 32736,nat_lit 4293966848]
noncomputable def hm16:List Nat:=[nat_lit 281471216613376,nat_lit 1040128,nat_lit 2040,nat_lit 34634632918976,nat_lit 480,nat_lit 356811880641193788235784649198891004837494784,nat_lit 248,nat_lit 842193661067136,nat_lit 1827008,nat_lit 131056,nat_lit 232,nat_lit 1904,nat_lit 1267573086714488239377417175040,nat_lit 0,nat_lit 18014398509489152,nat_lit 536805376]
noncomputable def hm17:List Nat:=[nat_lit 11417807349641901424703414209344336342208741376,nat_lit 55344727024595894272,nat_lit 2080760,nat_lit 7904,nat_lit 2304717116821994496,nat_lit 73786974027094380544,nat_lit 16368,nat_lit 16368,nat_lit 504,nat_lit 2080760,nat_lit 7306176,nat_lit 73786976294584580096,nat_lit 1124731709277952,nat_lit 15856,nat_lit 0,nat_lit 2040]
noncomputable def hm18:List Nat:=[nat_lit 128496,nat_lit 536870904,nat_lit 864,nat_lit 61555219357184,nat_lit 137438949056,nat_lit 444288,nat_lit 2475878897844031843297116672,nat_lit 52829038308416,nat_lit 0,nat_lit 604388040832344460849152,nat_lit 8244323938304,nat_lit 33030528,nat_lit 2198486433792,nat_lit 4867768401271526671747687437434880,nat_lit 1073186560,nat_lit 150977376869213158768384]
noncomputable def hm19:List Nat:=[nat_lit 1072168960,nat_lit 2166999531659222246004654080,nat_lit 2398508826115492436104019968,nat_lit 72057594306099200,nat_lit 8,nat_lit 16352,nat_lit 0,nat_lit 16352,nat_lit 4080,nat_lit 56,nat_lit 33537768,nat_lit 0,nat_lit 248,nat_lit 248,nat_lit 504,nat_lit 120]
noncomputable def hm20:List Nat:=[nat_lit 68215103488,nat_lit 232,nat_lit 480,nat_lit 1134907380971337728,nat_lit 19648601228351528573749734426624,nat_lit 480,nat_lit 4080,nat_lit 356811880641193788235784649198891004837494784,nat_lit 272728293376,nat_lit 0,nat_lit 272728293376,nat_lit 0,nat_lit 33590208,nat_lit 33590208,nat_lit 33590208,nat_lit 492065779578368]
noncomputable def hm21:List Nat:=[nat_lit 457792,nat_lit 457792,nat_lit 240,nat_lit 457792,nat_lit 240,nat_lit 224,nat_lit 25016320,nat_lit 276701019723909561344,nat_lit 65440,nat_lit 18446181123756592896,nat_lit 356811880641193788235784649198891004837494784,nat_lit 8353600,nat_lit 457792,nat_lit 32736,nat_lit 457792,nat_lit 103079459840]
noncomputable def hm22:List Nat:=[nat_lit 1134907166224801792,nat_lit 527731221454848,nat_lit 7890306461253730304,nat_lit 16106159104,nat_lit 4520442040417956611268436633772032,nat_lit 1199255519863200990825021440,nat_lit 191572903891423045665708369530099306325954452741160960,nat_lit 524008,nat_lit 2097000,nat_lit 502198256,nat_lit 457792,nat_lit 56,nat_lit 232,nat_lit 536731904,nat_lit 2079744,nat_lit 4122900099072]
noncomputable def hm23:List Nat:=[nat_lit 2027520,nat_lit 4277919616,nat_lit 261120,nat_lit 3808,nat_lit 4433196380266240,nat_lit 532672512,nat_lit 1117103780003072,nat_lit 17163058560,nat_lit 224,nat_lit 15856,nat_lit 2251797602170752,nat_lit 480,nat_lit 8388592,nat_lit 33590208,nat_lit 496,nat_lit 524224]
noncomputable def hm24:List Nat:=[nat_lit 131040,nat_lit 0,nat_lit 10592286224611577030547840541146988544,nat_lit 16352,nat_lit 5504,nat_lit 2305807854839324352,nat_lit 16911371136,nat_lit 2040,nat_lit 2305807854839324352,nat_lit 68215103488,nat_lit 68718419968,nat_lit 261872,nat_lit 356811880641193788235784649198891004837494784,nat_lit 0,nat_lit 272728293376,nat_lit 0]
noncomputable def hm25:List Nat:=[nat_lit 356811880641193788235784649198891004837494784,nat_lit 16360,nat_lit 16360,nat_lit 16352,nat_lit 0,nat_lit 73785850634912889600,nat_lit 131040,nat_lit 134152096,nat_lit 4397509111552,nat_lit 0,nat_lit 240,nat_lit 262112,nat_lit 232,nat_lit 457792,nat_lit 103079459840,nat_lit 1134907166224801792]
noncomputable def hm26:List Nat:=[nat_lit 527731221454848,nat_lit 7890306461253730304,nat_lit 16106159104,nat_lit 4520442040417956611268436633772032,nat_lit 1199255519863200990825021440,nat_lit 191572903891423045665708369530099306325954452741160960,nat_lit 0,nat_lit 4610542519892045808,nat_lit 8184,nat_lit 0,nat_lit 480,nat_lit 56,nat_lit 37640580711207508330496,nat_lit 224,nat_lit 103079459840,nat_lit 1134907166224801792]
noncomputable def hm27:List Nat:=[nat_lit 527731221454848,nat_lit 7890306461253730304,nat_lit 16106159104,nat_lit 4520442040417956611268436633772032,nat_lit 1199255519863200990825021440,nat_lit 191572903891423045665708369530099306325954452741160960,nat_lit 8581537792,nat_lit 2417851639235855419437056,nat_lit 120,nat_lit 7516192768,nat_lit 261632,nat_lit 2199023247360,nat_lit 8355784,nat_lit 480,nat_lit 56,nat_lit 536870904]
noncomputable def hm28:List Nat:=[nat_lit 27017195552640000,nat_lit 36884464455355695104,nat_lit 30961727194267136,nat_lit 224,nat_lit 224,nat_lit 8322432,nat_lit 65392,nat_lit 880,nat_lit 66583552,nat_lit 936,nat_lit 523248,nat_lit 0,nat_lit 10448029773009037967681152029858612457160704,nat_lit 4189888,nat_lit 457792,nat_lit 524220]
noncomputable def hm29:List Nat:=[nat_lit 33785728,nat_lit 356811880641193788235784649198891004837494784,nat_lit 232,nat_lit 4080,nat_lit 21778061098346035111418113921327262334976,nat_lit 134152096,nat_lit 103079459840,nat_lit 1134907166224801792,nat_lit 527731221454848,nat_lit 7890306461253730304,nat_lit 16106159104,nat_lit 4520442040417956611268436633772032,nat_lit 1199255519863200990825021440,nat_lit 191572903891423045665708369530099306325954452741160960,nat_lit 103079459840,nat_lit 1134907166224801792]
noncomputable def hm30:List Nat:=[nat_lit 527731221454848,nat_lit 7890306461253730304,nat_lit 16106159104,nat_lit 4520442040417956611268436633772032,nat_lit 1199255519863200990825021440,nat_lit 191572903891423045665708369530099306325954452741160960,nat_lit 356811880641193788235784649198891004837494784,nat_lit 457792,nat_lit 2417851639235855419437056,nat_lit 261632,nat_lit 2199023247360,nat_lit 480,nat_lit 56,nat_lit 457792,nat_lit 29360496,nat_lit 262112]
noncomputable def hm31:List Nat:=[nat_lit 2417851639235855419437056,nat_lit 261632,nat_lit 2199023247360,nat_lit 4286578688,nat_lit 224,nat_lit 8321088,nat_lit 166153182560275531675699597790863360,nat_lit 0,nat_lit 56,nat_lit 2266735911759287759665152,nat_lit 0,nat_lit 103079459840,nat_lit 1134907166224801792,nat_lit 527731221454848,nat_lit 7890306461253730304,nat_lit 16106159104]
noncomputable def hm32:List Nat:=[nat_lit 4520442040417956611268436633772032,nat_lit 1199255519863200990825021440,nat_lit 191572903891423045665708369530099306325954452741160960,nat_lit 6442512128,nat_lit 69805801739909120,nat_lit 131932805363712,nat_lit 123286018324422656,nat_lit 4026539776,nat_lit 70631906881722317310343994521600,nat_lit 131040,nat_lit 18738367497902098372100096,nat_lit 187082913956467841398811267177040735202862828617728,nat_lit 2417851639235855419437056,nat_lit 261632,nat_lit 2199023247360,nat_lit 2417851639235855419437056]
noncomputable def hm33:List Nat:=[nat_lit 261632,nat_lit 2199023247360,nat_lit 103079459840,nat_lit 1134907166224801792,nat_lit 527731221454848,nat_lit 7890306461253730304,nat_lit 16106159104,nat_lit 4520442040417956611268436633772032,nat_lit 1199255519863200990825021440,nat_lit 191572903891423045665708369530099306325954452741160960,nat_lit 4286578688,nat_lit 457792,nat_lit 1072693248,nat_lit 4286578688,nat_lit 1565184,nat_lit 548648513024]
noncomputable def hm34:List Nat:=[nat_lit 2417851639235855419437056,nat_lit 261632,nat_lit 2199023247360,nat_lit 37778931863369478634496,nat_lit 32640,nat_lit 68719474688,nat_lit 4286578688,nat_lit 4286578688,nat_lit 2417851639235855419437056,nat_lit 261632,nat_lit 2199023247360,nat_lit 0,nat_lit 4286578688,nat_lit 267911168,nat_lit 4286578688,nat_lit 0]
noncomputable def hm35:List Nat:=[nat_lit 0,nat_lit 0,nat_lit 0,nat_lit 0,nat_lit 0,nat_lit 0,nat_lit 0,nat_lit 0,nat_lit 0,nat_lit 0,nat_lit 0,nat_lit 0,nat_lit 0,nat_lit 0,nat_lit 0,nat_lit 0]
noncomputable def hm36:List Nat:=[nat_lit 0,nat_lit 0,nat_lit 0,nat_lit 0,nat_lit 0,nat_lit 0,nat_lit 0,nat_lit 511]
noncomputable def hms:List (List Nat):=[hm0,hm1,hm2,hm3,hm4,hm5,hm6,hm7,hm8,hm9,hm10,hm11,hm12,hm13,hm14,hm15,hm16,hm17,hm18,hm19,hm20,hm21,hm22,hm23,hm24,hm25,hm26,hm27,hm28,hm29,hm30,hm31,hm32,hm33,hm34,hm35,hm36]
noncomputable def nthR {α:Type} (d:α) (l:List α):Nat → α:=List.rec (motive:=fun _ => Nat → α) (fun _ => d) (fun x _ ih n => bK (Nat.beq n (nat_lit 0)) x (ih (Nat.sub n (nat_lit 1)))) l
/-- The local temporaries;the append that keeps what it appends to. -/
noncomputable def mk53 (f:Nat):Nat:=bK (Nat.beq f (nat_lit 1155178)) (nat_lit 1) (nthR (nat_lit 0) (nthR [] hms (Nat.div f (nat_lit 16))) (Nat.mod f (nat_lit 16)))
/-- The functions without a body. -/
noncomputable def cd53 (f:Nat):Nat:=bK (Nat.beq f (nat_lit 425)) (nat_lit 1) (bK (Nat.beq f (nat_lit 506)) (nat_lit 2) (bK (Nat.beq f (nat_lit 459)) (nat_lit 3) (nat_lit 0)))
/-- The functions behind 'slices.Backward'. -/
noncomputable def bk53 (f:Nat):Option (P2 Nat Bool):=bK (Nat.beq f (nat_lit 395)) (some ⟨(nat_lit 7),true⟩) none
theorem cd_cases (f:Nat):(f = 425 ∧ cd53 f = 1) ∨ (f = 506 ∧ cd53 f = 2) ∨ (f = 459 ∧ cd53 f = 3) ∨ cd53 f = 0:=by
  unfold cd53
  by_cases h:f = 425
  · exact .inl ⟨h,by rw [nbT h];rfl⟩
  · rw [nbF h]
    by_cases h2:f = 506
    · exact .inr (.inl ⟨h2,by change bK (Nat.beq f 506) 2 _ = 2;rw [nbT h2];rfl⟩)
    · change _ ∨ _ ∨ _ ∨ bK (Nat.beq f 506) 2 (bK (Nat.beq f 459) 3 0) = 0
      by_cases h3:f = 459
      · exact .inr (.inr (.inl ⟨h3,by change bK (Nat.beq f 506) 2 (bK (Nat.beq f 459) 3 0) = 3;rw [nbF h2,nbT h3];rfl⟩))
      · exact .inr (.inr (.inr (by rw [nbF h2,nbF h3];rfl)))
theorem find_ib:Extern.find Tryz.f425 = some Extern.BytealgIndexByte.indexByte:=by kernel_rfl
theorem find_ne:Extern.find Tryz.f506 = some Extern.AbiNoEscape.same:=by kernel_rfl
theorem find_cs:Extern.find Tryz.f459 = some Extern.BytealgCount.count:=by kernel_rfl
theorem next_ib:Extern.findNext Tryz.f425 = none:=by kernel_rfl
theorem next_ne:Extern.findNext Tryz.f506 = none:=by kernel_rfl
theorem next_cs:Extern.findNext Tryz.f459 = none:=by kernel_rfl
theorem name_ib:(Tryz.f425.name == "runtime.NumGoroutine") = false:=by kernel_rfl
theorem name_ne:(Tryz.f506.name == "runtime.NumGoroutine") = false:=by kernel_rfl
theorem name_cs:(Tryz.f459.name == "runtime.NumGoroutine") = false:=by kernel_rfl
theorem bodyBk:Tryz.f395.body = some (backBody 161 242 3 4 540):=by kernel_rfl
theorem plainBk:plainName Tryz.f395.name = true:=by kernel_rfl
theorem sizeBk:szOf Tryz.prog 242 = some 7:=by kernel_rfl
theorem aggBk:aggT Tryz.prog 242 = some true:=by kernel_rfl
theorem globs53:Tryz.prog.globals.size = 6:=by kernel_rfl
theorem mix53:Tryz.prog.follows .mixedOrders = true:=by kernel_rfl
theorem base53:Base Tryz.prog 6 mk53 cd53 bk53:=by
  refine ⟨globs53,mix53,fun f q hq => ?_,fun f => ?_,fun f fn h1 hf _ => ?_,fun f fn h1 hf _ => ?_,fun f fn h1 hf _ => ?_⟩
  · unfold bk53 at hq
    by_cases h:f = 395
    · subst h
      rw [nbT rfl] at hq
      cases hq
      exact ⟨Tryz.f395,161,242,3,4,540,Tryz.func395,bodyBk,rfl,rfl,plainBk,Tryz.underlying161,sizeBk,aggBk⟩
    · rw [nbF h] at hq
      cases hq
  · rcases cd_cases f with ⟨_,e⟩ | ⟨_,e⟩ | ⟨_,e⟩ | e <;> rw [e] <;> decide
  · rcases cd_cases f with ⟨e1,e⟩ | ⟨e1,e⟩ | ⟨e1,e⟩ | e
    · subst e1
      rw [Tryz.func425] at hf
      cases hf
      exact ⟨name_ib,next_ib,find_ib⟩
    · rw [e] at h1;cases h1
    · rw [e] at h1;cases h1
    · rw [e] at h1;cases h1
  · rcases cd_cases f with ⟨e1,e⟩ | ⟨e1,e⟩ | ⟨e1,e⟩ | e
    · rw [e] at h1;cases h1
    · subst e1
      rw [Tryz.func506] at hf
      cases hf
      exact ⟨name_ne,next_ne,find_ne⟩
    · rw [e] at h1;cases h1
    · rw [e] at h1;cases h1
  · rcases cd_cases f with ⟨e1,e⟩ | ⟨e1,e⟩ | ⟨e1,e⟩ | e
    · rw [e] at h1;cases h1
    · rw [e] at h1;cases h1
    · subst e1
      rw [Tryz.func459] at hf
      cases hf
      exact ⟨name_cs,next_cs,find_cs⟩
    · rw [e] at h1;cases h1
end EV
