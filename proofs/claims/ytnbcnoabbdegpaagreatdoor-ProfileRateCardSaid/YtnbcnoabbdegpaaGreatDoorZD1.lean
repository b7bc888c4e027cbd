/- A part of the proof of the tied card of ProfileRate (chapter 53): the law returns true whatever the input. -/
import Derived.Test.YtnbcnoabbdegpaaGreatDoorZS
import Derived.Test.YtnbcnoabbdegpaaGreatDoorZU4
import Derived.Test.YtnbcnoabbdegpaaGreatDoorZN
set_option linter.unusedVariables false
set_option linter.unusedSimpArgs false
namespace Go.Proofs.YtnbcnoabbdegpaaGreatDoor.V
open Go.RowKit Go.Proofs.YtnbcnoabbdegpaaGreatDoorW.PrintWords Go.Proofs.YtnbcnoabbdegpaaGreatDoorW.PrintLast Go.Proofs.YtnbcnoabbdegpaaGreatDoorW.PrintMore
attribute [local go_sem] max2_int min2_int max_two min_two
set_option linter.unusedVariables false
set_option linter.unusedSimpArgs false
set_option maxHeartbeats 8000000
set_option maxRecDepth 100000
abbrev CI (w:World) (A:Option Addr) (l:List Int):Prop:=Kd.C (Kd.int .i64) w A l.length l
theorem rdn (l:List Int) (n:Nat):rd l (n:Int) = l.getD n 0:=by unfold rd;rw [Int.toNat_natCast]
theorem natural_trimmed.calls (A:Option Addr) (c:Nat) (l:List Int) (w:World) (hr:CI w A l) (hc:l.length ≤ c) :
  Calls Tryz.prog 281 #[.slice A l.length c] w fun e w' => e = .returned (.slice A (ND.tl l l.length) c) ∧ Drawn0 w w':=by
 have HR:=am hr
 have HC:=am hc
 have HX:=am (Kd.C_max hr)
 clear hr hc
 go_enter Tryz.func281,Tryz.ntmps281
 go_wp2
 go_loopg [0] l.length (fun k v0 w' => ∃ n:Nat,v0 = .slice A n c ∧ n ≤ l.length ∧ n ≤ k ∧ Aside0 (ND.tl l n = ND.tl l l.length) ∧ Drawn0 w w')
 case atStart => exact ⟨l.length,rfl,Nat.le_refl _,Nat.le_refl _,⟨rfl⟩,drw⟩
 case round =>
  obtain ⟨n,rfl,h1,h2,H,nd,rfl⟩:=hrel
  cases n with
  | zero =>
   go_wp2
   go_ret
   exact ⟨by rw [← H.out];rfl,drw⟩
  | succ n =>
   have hX:=HX.out
   obtain ⟨ad,e0,hx⟩:=Kd.at_int HR.out (n:Int) (by omega) (by omega)
   cases e0
   rw [Int.toNat_natCast] at hx
   have hT:=am (show ND.tl l (n + 1) = if rd l (n:Int) = 0 then ND.tl l n else n + 1 by rw [rdn];rfl)
   have hc:=HC.out
   have hnc:n ≤ c:=by omega
   go_wp2
   ·go_roundg n
    case measure => omega
    case rel => exact ⟨n,rfl,by omega,Nat.le_refl _,⟨by rw [← H.out,hT.out,if_pos (eq_of_beq (by assumption))]⟩,drw⟩
   ·go_ret
    exact ⟨by rw [← H.out,hT.out,if_neg (beq_eq_false_iff_ne.1 (by assumption))];rfl,drw⟩
theorem ref02_trim.calls (A:Option Addr) (c:Nat) (l:List Int) (w:World) (hr:CI w A l) (hc:l.length ≤ c) :
  Calls Tryz.prog 274 #[.slice A l.length c] w fun e w' => e = .returned (.slice A (ND.tl l l.length) c) ∧ Drawn0 w w':=by
 have HR:=am hr
 have HC:=am hc
 have HX:=am (Kd.C_max hr)
 clear hr hc
 go_enter Tryz.func274,Tryz.ntmps274
 go_wp2
 go_loopg [0] l.length (fun k v0 w' => ∃ n:Nat,v0 = .slice A n c ∧ n ≤ l.length ∧ n ≤ k ∧ Aside0 (ND.tl l n = ND.tl l l.length) ∧ Drawn0 w w')
 case atStart => exact ⟨l.length,rfl,Nat.le_refl _,Nat.le_refl _,⟨rfl⟩,drw⟩
 case round =>
  obtain ⟨n,rfl,h1,h2,H,nd,rfl⟩:=hrel
  cases n with
  | zero =>
   go_wp2
   go_ret
   exact ⟨by rw [← H.out];rfl,drw⟩
  | succ n =>
   have hX:=HX.out
   obtain ⟨ad,e0,hx⟩:=Kd.at_int HR.out (n:Int) (by omega) (by omega)
   cases e0
   rw [Int.toNat_natCast] at hx
   have hT:=am (show ND.tl l (n + 1) = if rd l (n:Int) = 0 then ND.tl l n else n + 1 by rw [rdn];rfl)
   have hc:=HC.out
   have hnc:n ≤ c:=by omega
   go_wp2
   ·go_roundg n
    case measure => omega
    case rel => exact ⟨n,rfl,by omega,Nat.le_refl _,⟨by rw [← H.out,hT.out,if_pos (eq_of_beq (by assumption))]⟩,drw⟩
   ·go_ret
    exact ⟨by rw [← H.out,hT.out,if_neg (beq_eq_false_iff_ne.1 (by assumption))];rfl,drw⟩
def cmpN (x y:Nat):Int:=if x < y then -1 else if x = y then 0 else 1
theorem natural_compare.calls (A B:Option Addr) (c d:Nat) (x y:Nat) (w:World) (ha:CI w A (ND.digs x)) (hb:CI w B (ND.digs y)) :
  Calls Tryz.prog 282 #[.slice A (ND.digs x).length c,.slice B (ND.digs y).length d] w fun e w' => e = .returned (.int .i64 (cmpN x y)) ∧ Drawn0 w w':=by
 have HA:=am ha
 have HB:=am hb
 have hX:=Kd.C_max ha
 have hY:=Kd.C_max hb
 have HL:=am (fun h:(ND.digs x).length < (ND.digs y).length => ND.length_lt h)
 have HG:=am (fun h:(ND.digs y).length < (ND.digs x).length => ND.length_lt h)
 have HE:=am (ND.cmp_lt' x y)
 have HE2:=am (ND.cmp_lt' y x)
 have HF:=am (ND.digs_inj (x:=x) (y:=y))
 clear ha hb
 generalize ND.digs x = a at *
 generalize ND.digs y = b at *
 go_enter Tryz.func282,Tryz.ntmps282
 go_wp2
 ·go_ret
  exact ⟨by unfold cmpN;rw [if_pos (HL.out (by assumption))];rfl,drw⟩
 ·have hne:=bne_iff_ne.1 (show ((a.length:Int) != (b.length:Int)) = true by assumption)
  have:=HG.out (by omega)
  go_ret
  exact ⟨by unfold cmpN;rw [if_neg (by omega),if_neg (by omega)];rfl,drw⟩
 have hl:a.length = b.length:=by have:=bne_eq_false_iff_eq.1 (show ((a.length:Int) != (b.length:Int)) = false by assumption);omega
 go_loopg [5] a.length (fun k v5 w' => ∃ j:Nat,v5 = .int .i64 ((j:Int) - 1) ∧ j ≤ a.length ∧ j ≤ k ∧ Aside0 (a.drop j = b.drop j) ∧ Drawn0 w w')
 case atStart => exact ⟨a.length,rfl,Nat.le_refl _,Nat.le_refl _,⟨by rw [List.drop_of_length_le (Nat.le_refl _),List.drop_of_length_le (by omega)]⟩,drw⟩
 case round =>
  obtain ⟨j,e5,h1,h2,HD,nd,rfl⟩:=hrel
  cases j with
  | zero =>
   have e0:((0:Nat):Int) - 1 = -1:=rfl
   rw [e0] at e5
   subst e5
   have:=HF.out HD.out
   go_wp2
   go_ret
   exact ⟨by unfold cmpN;rw [if_neg (by omega),if_pos (by omega)];rfl,drw⟩
  | succ j =>
   have e0:((j + 1:Nat):Int) - 1 = j:=by omega
   rw [e0] at e5
   subst e5
   obtain ⟨ad,e1,hx⟩:=Kd.at_int HA.out (j:Int) (by omega) (by omega)
   obtain ⟨bd,e2,hy⟩:=Kd.at_int HB.out (j:Int) (by omega) (by omega)
   cases e1
   cases e2
   rw [Int.toNat_natCast] at hx hy
   have P1:=am (fun h:rd a (j:Int) < rd b (j:Int) => HE.out hl (by omega) HD.out (by rw [← rdn,← rdn];exact h))
   have P2:=am (fun h:rd b (j:Int) < rd a (j:Int) => HE2.out hl.symm (by omega) HD.out.symm (by rw [← rdn,← rdn];exact h))
   have P3:=am (fun h:rd a (j:Int) = rd b (j:Int) => ND.drop_step (by omega) hl HD.out (by rw [← rdn,← rdn];exact h))
   generalize rd a (j:Int) = p at hx P1 P2 P3
   generalize rd b (j:Int) = q at hy P1 P2 P3
   go_wp2
   repeat (go_quiet (fail);try go_wp2)
   ·go_ret
    have:=P1.out (by assumption)
    exact ⟨by unfold cmpN;rw [if_pos this];rfl,drw⟩
   ·have hne:=bne_iff_ne.1 (show (p != q) = true by assumption)
    have:=P2.out (by omega)
    go_ret
    exact ⟨by unfold cmpN;rw [if_neg (by omega),if_neg (by omega)];rfl,drw⟩
   ·have he:=bne_eq_false_iff_eq.1 (show (p != q) = false by assumption)
    go_roundg j
    case measure => omega
    case rel => exact ⟨j,rfl,by omega,Nat.le_refl _,⟨P3.out he⟩,drw⟩
theorem ref02_cmp.calls (A B:Option Addr) (c d:Nat) (x y:Nat) (w:World) (ha:CI w A (ND.digs x)) (hb:CI w B (ND.digs y)) :
  Calls Tryz.prog 124 #[.slice A (ND.digs x).length c,.slice B (ND.digs y).length d] w fun e w' => e = .returned (.int .i64 (cmpN x y)) ∧ Drawn0 w w':=by
 have HA:=am ha
 have HB:=am hb
 have hX:=Kd.C_max ha
 have hY:=Kd.C_max hb
 have HL:=am (fun h:(ND.digs x).length < (ND.digs y).length => ND.length_lt h)
 have HG:=am (fun h:(ND.digs y).length < (ND.digs x).length => ND.length_lt h)
 have HE:=am (ND.cmp_lt' x y)
 have HE2:=am (ND.cmp_lt' y x)
 have HF:=am (ND.digs_inj (x:=x) (y:=y))
 clear ha hb
 generalize ND.digs x = a at *
 generalize ND.digs y = b at *
 go_enter Tryz.func124,Tryz.ntmps124
 go_wp2
 ·have:=HL.out (by assumption)
  go_ret
  exact ⟨by unfold cmpN;rw [if_pos this];rfl,drw⟩
 ·have:=HG.out (by assumption)
  go_ret
  exact ⟨by unfold cmpN;rw [if_neg (by omega),if_neg (by omega)];rfl,drw⟩
 have hl:a.length = b.length:=by omega
 go_loopg [5] a.length (fun k v5 w' => ∃ j:Nat,v5 = .int .i64 ((j:Int) - 1) ∧ j ≤ a.length ∧ j ≤ k ∧ Aside0 (a.drop j = b.drop j) ∧ Drawn0 w w')
 case atStart => exact ⟨a.length,rfl,Nat.le_refl _,Nat.le_refl _,⟨by rw [List.drop_of_length_le (Nat.le_refl _),List.drop_of_length_le (by omega)]⟩,drw⟩
 case round =>
  obtain ⟨j,e5,h1,h2,HD,nd,rfl⟩:=hrel
  cases j with
  | zero =>
   have e0:((0:Nat):Int) - 1 = -1:=rfl
   rw [e0] at e5
   subst e5
   have:=HF.out HD.out
   go_wp2
   go_ret
   exact ⟨by unfold cmpN;rw [if_neg (by omega),if_pos (by omega)];rfl,drw⟩
  | succ j =>
   have e0:((j + 1:Nat):Int) - 1 = j:=by omega
   rw [e0] at e5
   subst e5
   obtain ⟨ad,e1,hx⟩:=Kd.at_int HA.out (j:Int) (by omega) (by omega)
   obtain ⟨bd,e2,hy⟩:=Kd.at_int HB.out (j:Int) (by omega) (by omega)
   cases e1
   cases e2
   rw [Int.toNat_natCast] at hx hy
   have P1:=am (fun h:rd a (j:Int) < rd b (j:Int) => HE.out hl (by omega) HD.out (by rw [← rdn,← rdn];exact h))
   have P2:=am (fun h:rd b (j:Int) < rd a (j:Int) => HE2.out hl.symm (by omega) HD.out.symm (by rw [← rdn,← rdn];exact h))
   have P3:=am (fun h:rd a (j:Int) = rd b (j:Int) => ND.drop_step (by omega) hl HD.out (by rw [← rdn,← rdn];exact h))
   generalize rd a (j:Int) = p at hx P1 P2 P3
   generalize rd b (j:Int) = q at hy P1 P2 P3
   go_wp2
   repeat (go_quiet (fail);try go_wp2)
   ·go_ret
    have:=P1.out (by assumption)
    exact ⟨by unfold cmpN;rw [if_pos this];rfl,drw⟩
   ·repeat (go_quiet (fail);try go_wp2)
    ·have:=P2.out (by assumption)
     go_ret
     exact ⟨by unfold cmpN;rw [if_neg (by omega),if_neg (by omega)];rfl,drw⟩
    ·go_roundg j
     case measure => omega
     case rel => exact ⟨j,rfl,by omega,Nat.le_refl _,⟨P3.out (by omega)⟩,drw⟩
theorem ref02_digit.calls (A:Option Addr) (c:Nat) (l:List Int) (i:Nat) (w:World) (hr:CI w A l) (hi:i ≤ 9223372036854775807) :
  Calls Tryz.prog 275 #[.slice A l.length c,.int .i64 (i:Int)] w fun e w' => e = .returned (.int .i64 (l.getD i 0)) ∧ Drawn0 w w':=by
 have HR:=am hr
 have hX:=Kd.C_max hr
 clear hr
 by_cases h:i < l.length
 ·obtain ⟨ad,e1,hx⟩:=Kd.at_int HR.out (i:Int) (by omega) (by omega)
  cases e1
  rw [Int.toNat_natCast,rdn] at hx
  generalize l.getD i 0 = v at *
  go_enter Tryz.func275,Tryz.ntmps275
  go_wp2
  go_ret
  exact ⟨rfl,drw⟩
 ·have e:l.getD i 0 = 0:=ND.gn (by omega)
  rw [e]
  go_enter Tryz.func275,Tryz.ntmps275
  go_wp2
  go_ret
  exact ⟨rfl,drw⟩
section
variable {ops:Array Oper} {rest:List Oper} {o:Oper} {a:Act} {Q:Exit → Act → World → Prop} {W w:World}
theorem stI {xs:List Int} {g n c:Nat} {W0:World} (p:Tmp) (x:Operand) (i:Nat) (y:Int) (O:Aside0 (RI W0 w (.slice (some ⟨g,0,none⟩) n c) xs)) (hi:i < n)
  (h:∀ w1,Aside0 (RI w1 w (.slice (some ⟨g,0,none⟩) n c) (xs.set i y)) → Aside0 (Below w.heap.size w w1) → W.grownBy w1 (some g) → wpList Tryz.prog ops Q rest a w1)
  (hN:o.dst = none:=by rfl) (hgd:o.guard = none:=by rfl) (ho:o.op = .store 3 (.tmp p) x:=by rfl) (haddr:a.eval (.tmp p) = .pointer (some ⟨g,i,none⟩):=by first | rfl | (go_simp;done) | (go_simp;rfl)) (hx:a.eval x = .int .i64 y:=by first | rfl | (go_simp;done) | (go_simp;rfl))
  (HO:RI W w (.slice (some ⟨g,0,none⟩) n c) xs:=by exact rx) (HB:Below w.heap.size w W:=by exact bel):wpList Tryz.prog ops Q (o :: rest) a W:=
 Kd.R_store (Kd.int .i64) w.heap.size hN hgd 3 (.tmp p) x ho 3 (i:Int) 0 xs y (.int .i64 y) [.int .i64 y] [.int .i64 (rdOf 0 xs i)] (fun _ => True) (fun _ => False)
  haddr (by show i = (i:Int).toNat * 1 + 0;omega) hx rfl (by kernel_rfl) (by intro q hq;rw [List.mem_singleton.1 hq];rfl) HO (by omega) (by omega) rfl
  (fun j u hj => by
   cases j with
   | zero => cases hj;rw [show (i:Int).toNat * (Kd.int .i64).sz + 0 = (i:Int).toNat from Nat.mul_one _];exact (Kd.R_celln (0:Int) HO (i:Int) (by omega) (by omega)).1
   | succ j => cases hj)
  (Nat.le_refl 1) (show _ = _ from rfl) (fun _ hk => hk.elim) HB
  (fun w1 h1 h2 h3 => h w1 ⟨by rw [Int.toNat_natCast] at h1;exact h1⟩ ⟨h2⟩ h3)
theorem mkI {N:Tmp} (n:Nat) (x y:Operand) (hl:n ≤ 1000000)
  (h:∀ g c w1,Aside0 (RI w1 w (.slice (some ⟨g,0,none⟩) n c) (List.replicate n 0)) → Aside0 (Below w.heap.size w w1) → w.heap.size ≤ g → wpList Tryz.prog ops Q rest (a.put (some N) (.slice (some ⟨g,0,none⟩) n c)) w1)
  (hd:o.dst = some N:=by rfl) (hgd:o.guard = none:=by rfl) (ho:o.op = .makeSlice 24 x y:=by rfl) (hx:a.eval x = .int .i64 (n:Int):=by first | rfl | (go_simp;done) | (go_simp;rfl)) (hy:a.eval y = .int .i64 (n:Int):=by first | rfl | (go_simp;done) | (go_simp;rfl))
  (HB:Below w.heap.size w W:=by exact bel):wpList Tryz.prog ops Q (o :: rest) a W:=
 Kd.R_make (Kd.int .i64) w.heap.size 3 hgd hd 24 x y ho (n:Int) hx hy Tryz.underlying24 (.int .i64 0) 8 info3 rfl (by decide) (by decide) (0:Int) (ok:=fun _ => True) (okp:=fun _ => False) (show _ = _ from rfl) (fun _ hk => hk.elim) trivial (by omega) (by omega) HB (below_size HB)
  (fun v1 w1 h1 h2 _ h4 => by
   rw [Int.toNat_natCast] at h1
   obtain ⟨b,hb,_⟩:=h4
   obtain ⟨inner,ho2⟩:=Kd.R_own h1
   have hw:=Kd.R_base h1 b hb
   rcases ho2.2 with ⟨hv,_⟩ | ⟨g',cap',cur,hv,_⟩
   ·rw [hv] at hb
    simp [Value.ownBlock] at hb
   ·rw [List.length_replicate] at hv
    subst hv
    have e:g' = b:=by simpa [Value.ownBlock] using hb
    subst e
    rw [hd]
    exact h g' cap' w1 ⟨h1⟩ ⟨h2⟩ hw)
end
theorem w64 {n:Int} (h:-9223372036854775808 ≤ n ∧ n < 9223372036854775808):wrap64 n = n:=by unfold wrap64;omega
def RetI (w w':World) (e:Ending) (l:List Int):Prop:=∃ A c,e = .returned (.slice A l.length c) ∧ RI w' w (.slice A l.length c) l ∧ Below w.heap.size w w'
theorem retI {w w':World} {v:Value} {l:List Int} (h:RI w' w v l) (hb:Below w.heap.size w w'):RetI w w' (.returned v) l:=by
 obtain ⟨A,c,rfl⟩:=Kd.R_slice h
 exact ⟨A,c,rfl,h,hb⟩
theorem rtk {W w:World} {A:Option Addr} {n c:Nat} {xs:List Int} (R:RI W w (.slice A n c) xs) (ho:ND.ok xs):RI W w (.slice A (ND.tl xs xs.length) c) (ND.digs (ND.val xs)):=by
 rw [← ND.trim_take ho];exact Kd.R_take R (ND.tl_le xs)
theorem rcl {W w:World} {g n c:Nat} {xs:List Int} (R:RI W w (.slice (some ⟨g,0,none⟩) n c) xs) {i:Nat} (hi:i < n):W.cell? ⟨g,i,none⟩ = some (.int .i64 (xs.getD i 0)):=by
 have h:=(Kd.R_celln (0:Int) R (i:Int) (by omega) (by omega)).1
 rwa [Int.toNat_natCast,show rdOf (0:Int) xs (i:Int) = xs.getD i 0 by unfold rdOf;rw [Int.toNat_natCast]] at h
theorem rcs {W w:World} {g n c:Nat} {xs:List Int} {y:Int} {i:Nat} (R:RI W w (.slice (some ⟨g,0,none⟩) n c) (xs.set i y)) (hi:i < n) (hn:n = xs.length):W.cell? ⟨g,i,none⟩ = some (.int .i64 y):=by
 have h:=rcl R hi
 rwa [ND.getD_set_eq _ (by omega)] at h
theorem rhd {W w:World} {P:Option Addr} {n c:Nat} {xs:List Int} (R:RI W w (.slice P n c) xs) (h0:0 < xs.length):∃ g,P = some ⟨g,0,none⟩:=by
 obtain ⟨g,cap,e,_⟩:=Kd.R_form R h0
 injection e with e1
 exact ⟨g,e1⟩
theorem cat {w:World} {A:Option Addr} {l:List Int} (h:CI w A l) {i:Nat} (hi:i < l.length):∃ ad,A = some ad ∧ w.cell? (ad.add i) = some (.int .i64 (l.getD i 0)):=by
 obtain ⟨ad,e,hx⟩:=Kd.at_int h (i:Int) (by omega) (by omega)
 rw [Int.toNat_natCast,rdn] at hx
 exact ⟨ad,e,hx⟩
theorem natural_mul.calls (A B:Option Addr) (c d:Nat) (a b:List Int) (w:World) (ha:CI w A a) (hac:a.length ≤ c) (hb:CI w B b) (hbd:b.length ≤ d) (oa:ND.ok a) (ob:ND.ok b) (hl:a.length + b.length ≤ 1000000) :
  Calls Tryz.prog 283 #[.slice A a.length c,.slice B b.length d] w fun e w' => RetI w w' e (ND.digs (ND.val a * ND.val b)):=by
 have HA:=am ha
 have HC:=am hb
 have HAC:=am hac
 have HBD:=am hbd
 have OA:=am oa
 have OB:=am ob
 have HB:=am (Below.refl w.heap.size w)
 clear ha hb oa ob hac hbd
 go_enter Tryz.func283,Tryz.ntmps283
 go_wp2_with (refine gate_ (.makeSlice 24 (.tmp 15) (.tmp 15)) rfl ?_;refine mkI (a.length + b.length) _ _ (by omega) ?_;intro g q w1 R1 HB1 hg;replace HB:=HB1;clear HB1)
 go_loopg [19] a.length (fun k v19 w' => ∃ (i:Nat) (out:List Int),v19 = .int .i64 (i:Int) ∧ i ≤ a.length ∧ a.length - i ≤ k ∧ Aside0 (RI w' w (.slice (some ⟨g,0,none⟩) (a.length + b.length) q) out) ∧ Aside0 (Below w.heap.size w w') ∧ Aside0 (ND.MI (a.length + b.length) a b i out))
 case atStart => exact ⟨0,_,rfl,Nat.zero_le _,by omega,R1,HB,⟨ND.MI0 _ _ _⟩⟩
 case round =>
  obtain ⟨i,out,rfl,h1,h2,R2,HB2,M⟩:=hrel
  replace HB:=HB2
  clear HB2 R1
  by_cases hi:i < a.length
  ·obtain ⟨ad,e1,hx⟩:=Kd.at_int (rdb:CI _ A a) (i:Int) (by omega) (by omega)
   cases e1
   rw [Int.toNat_natCast,rdn] at hx
   have hxa:=ND.ok_getD OA.out i
   obtain ⟨x,ex⟩:∃ x,a.getD i 0 = x:=⟨_,rfl⟩
   rw [ex] at hx hxa
   have EX:=am ex
   clear ex
   go_wp2
   go_loopg [8,26] b.length (fun k v8 v26 w' => ∃ (j:Nat) (out:List Int) (cy:Int),v8 = .int .i64 cy ∧ v26 = .int .i64 (j:Int) ∧ j ≤ b.length ∧ b.length - j ≤ k ∧ Aside0 (RI w' w (.slice (some ⟨g,0,none⟩) (a.length + b.length) q) out) ∧ Aside0 (Below w.heap.size w w') ∧ Aside0 (ND.MJ (a.length + b.length) a b i j out cy))
   case atStart => exact ⟨0,out,0,rfl,rfl,Nat.zero_le _,by omega,R2,HB,⟨ND.MJ0 M.out⟩⟩
   case round =>
    clear hx M
    obtain ⟨j,out,cy,rfl,rfl,h3,h4,R2,HB2,M⟩:=hrel
    replace HB:=HB2
    clear HB2
    by_cases hj:j < b.length
    ·obtain ⟨bd,e1,hy⟩:=Kd.at_int (rdb:CI _ B b) (j:Int) (by omega) (by omega)
     cases e1
     rw [Int.toNat_natCast,rdn] at hy
     have hz:=(Kd.R_celln (0:Int) R2.out ((i + j:Nat):Int) (by omega) (by omega)).1
     rw [Int.toNat_natCast,show rdOf (0:Int) out ((i + j:Nat):Int) = out.getD (i + j) 0 by unfold rdOf;rw [Int.toNat_natCast]] at hz
     have S:=am (ND.MJs (n:=_) OA.out OB.out M.out h3 (by omega) rfl)
     have hxb:=ND.ok_getD OB.out j
     have hxo:=ND.ok_getD M.out.1 (i + j)
     have hcy:=M.out.2.2.1
     rw [EX.out] at S
     have hxy:0 ≤ x * b.getD j 0 ∧ x * b.getD j 0 ≤ 9999 * 9999:=⟨Int.mul_nonneg hxa.1 hxb.1,Int.mul_le_mul (by omega) (by omega) hxb.1 (by omega)⟩
     generalize b.getD j 0 = y at hy S hxb hxy
     generalize out.getD (i + j) 0 = z at hz S hxo
     go_wp2_with (refine gate_ (.store 3 (.tmp 49) (.tmp 48)) rfl ?_;refine stI 49 _ (i + j) _ R2 (by omega) ?_;intro w2 R3 HB3 _;replace HB:=HB3;clear HB3)
     go_roundg (b.length - (j + 1))
     case measure => omega
     case rel => exact ⟨j + 1,_,_,rfl,by go_num,by omega,by omega,R3,HB,⟨S.out.2⟩⟩
    ·have ej:j = b.length:=by omega
     subst ej
     have S:=am (ND.MIs hi M.out (by omega))
     have hz:=(Kd.R_celln (0:Int) R2.out ((i + b.length:Nat):Int) (by omega) (by omega)).1
     rw [Int.toNat_natCast,show rdOf (0:Int) out ((i + b.length:Nat):Int) = out.getD (i + b.length) 0 by unfold rdOf;rw [Int.toNat_natCast],S.out.1] at hz
     have hcy:=S.out.2.1
     go_wp2_with (refine gate_ (.store 3 (.tmp 62) (.tmp 61)) rfl ?_;refine stI 62 _ (i + b.length) _ R2 (by omega) ?_;intro w2 R3 HB3 _;replace HB:=HB3;clear HB3)
     have e0:(0:Int) + cy = cy:=Int.zero_add cy
     go_roundg (a.length - (i + 1))
     case measure => omega
     case rel => exact ⟨i + 1,_,by go_num,by omega,by omega,R3,HB,⟨S.out.2.2⟩⟩
  ·have ei:i = a.length:=by omega
   subst ei
   have E:=ND.MIend M.out
   have ol:=M.out.2.1
   have oo:=M.out.1
   have T:=natural_trimmed.calls (some ⟨g,0,none⟩) q out wr (rC R2) (by rw [ol];exact rL R2)
   rw [ol] at T
   have hcall:=am T
   clear T
   go_wp2_with (go_at_call 281;refine hcall.out.mono ?_;rintro e w' ⟨rfl,⟨nd,rfl⟩⟩)
   go_ret
   have R:=rtk R2.out oo
   rw [ol,E] at R
   exact retI (Kd.R_drewN R _) bel
section
variable {P:Program} {ops:Array Oper} {a:Act} {w W:World} {Q:Exit → Act → World → Prop} {S:World → Prop} {ds:List Nat} {md:Region.Mode} {T:Bool × List (List Nat × List Nat)} {fuel:Nat} {l l':Array Bool}
theorem runI {o:Oper} {g n c:Nat} {xs:List Int} {p:Tmp} {x:Operand} {i:Nat} {y:Int} (HO:RI W w (.slice (some ⟨g,0,none⟩) n c) xs) (hi:i < n) (ho:o.op = .store 3 (.tmp p) x) (haddr:a.eval (.tmp p) = .pointer (some ⟨g,i,none⟩)) (hx:a.eval x = .int .i64 y) :
  (execOp a.eval o).run Tryz.prog W = .ok .skip (W.setCell ⟨g,i,none⟩ (.int .i64 y)):=by
 have hc:=(Kd.R_celln (0:Int) HO (i:Int) (by omega) (by omega))
 rw [Int.toNat_natCast] at hc
 have h1:=hc.1
 have h2:=hc.2
 have hs:(Instr.storeAt 3 (.pointer (some ⟨g,i,none⟩)) (.int .i64 y)).run Tryz.prog W = .ok () (W.setCell ⟨g,i,none⟩ (.int .i64 y)):=by go_simp
 unfold execOp
 simp only [ho,haddr,hx,Sem.run_bind,Sem.run_pure,Result.andThen_ok,hs]
theorem putI {g n c:Nat} {xs:List Int} (HO:RI W w (.slice (some ⟨g,0,none⟩) n c) xs) (HB:Below w.heap.size w W) (i:Nat) (y:Int) :
  Aside0 (RI (W.setCell ⟨g,i,none⟩ (.int .i64 y)) w (.slice (some ⟨g,0,none⟩) n c) (xs.set i y)) ∧ Aside0 (Below w.heap.size w (W.setCell ⟨g,i,none⟩ (.int .i64 y))) ∧ W.grownBy (W.setCell ⟨g,i,none⟩ (.int .i64 y)) (some g):=by
 have h:=Kd.R_putg HO (i:Int) y
 rw [Int.toNat_natCast] at h
 refine ⟨⟨h.1⟩,⟨HB.grown h.2 (below_size HB) (fun k hk => by
  have e:g = k:=by simpa using hk
  subst e
  exact Kd.R_base HO g (by simp [Value.ownBlock]))⟩,h.2⟩
theorem lsI {g n c:Nat} {xs:List Int} {W0:World} (k:Nat) {oi:Oper} (p:Tmp) (x:Operand) (i:Nat) (y:Int) (O:Aside0 (RI W0 w (.slice (some ⟨g,0,none⟩) n c) xs)) (hin:i < n)
  (h:∀ w1,Aside0 (RI w1 w (.slice (some ⟨g,0,none⟩) n c) (xs.set i y)) → Aside0 (Below w.heap.size w w1) → W.grownBy w1 (some g) → Q .normal a w1)
  (hi:ops[k]? = some oi:=by (simp only [List.getElem?_toArray,List.getElem?_cons_succ,List.getElem?_cons_zero];exact rfl)) (hN:oi.dst = none:=by exact rfl) (hT:rtab md ops = T:=by exact (Aside0.out (by assumption))) (hc:readyT T.2 l.toList = [k]:=by kernel_rfl) (hd:k ∈ ds:=by decide) (hz:readyT T.2 (l.toList.set k true) = []:=by kernel_rfl)
  (hw:Region.wanted oi (yielded ops a.tmps) = true:=by rfl) (ho:oi.op = .store 3 (.tmp p) x:=by rfl) (haddr:a.eval (.tmp p) = .pointer (some ⟨g,i,none⟩):=by rfl) (hx:a.eval x = .int .i64 y:=by rfl)
  (HO:RI W w (.slice (some ⟨g,0,none⟩) n c) xs:=by exact rx) (HB:Below w.heap.size w W:=by exact bel):wpAnyLast Tryz.prog md ops Q S ds (fuel + 1) l a W:=
 lst k (h _ (putI HO HB i y).1 (putI HO HB i y).2.1 (putI HO HB i y).2.2) hi hN hT hc hd hz hw (runI HO hin ho haddr hx)
theorem lsI0 {g n c:Nat} {xs:List Int} {W0:World} (k:Nat) {oi:Oper} (p:Tmp) (x:Operand) (i:Nat) (y:Int) (O:Aside0 (RI W0 w (.slice (some ⟨g,0,none⟩) n c) xs)) (hin:i < n)
  (h:∀ w1,Aside0 (RI w1 w (.slice (some ⟨g,0,none⟩) n c) (xs.set i y)) → Aside0 (Below w.heap.size w w1) → W.grownBy w1 (some g) → wpAnyLast Tryz.prog md ops Q S ds fuel l' a w1)
  (hi:ops[k]? = some oi:=by (simp only [List.getElem?_toArray,List.getElem?_cons_succ,List.getElem?_cons_zero];exact rfl)) (hN:oi.dst = none:=by exact rfl) (hl:(l.toList.set k true).toArray = l':=by (simp only [List.set_cons_succ,List.set_cons_zero];exact rfl)) (hT:rtab md ops = T:=by exact (Aside0.out (by assumption))) (hc:readyT T.2 l.toList = [k]:=by kernel_rfl) (hd:k ∈ ds:=by decide)
  (hw:Region.wanted oi (yielded ops a.tmps) = true:=by rfl) (ho:oi.op = .store 3 (.tmp p) x:=by rfl) (haddr:a.eval (.tmp p) = .pointer (some ⟨g,i,none⟩):=by rfl) (hx:a.eval x = .int .i64 y:=by rfl)
  (HO:RI W w (.slice (some ⟨g,0,none⟩) n c) xs:=by exact rx) (HB:Below w.heap.size w W:=by exact bel):wpAnyLast Tryz.prog md ops Q S ds (fuel + 1) l a W:=
 lst0 k (h _ (putI HO HB i y).1 (putI HO HB i y).2.1 (putI HO HB i y).2.2) hi hN hl hT hc hd hw (runI HO hin ho haddr hx)
end
def T177_8:Bool × List (List Nat × List Nat):=(true,[([],[]),([],[]),([0,1],[0,1]),([2],[2]),([],[]),([],[]),([4,5],[4,5]),([6],[6]),([3,7],[3,7]),([0,1,0,1,2,3,4,5,6,7,8],[0,1]),([9,8,0,1,2,3,4,5,6,7,8],[8,9])])
def B177_8:List Nat:=[0,0,3,7,0,0,48,112,255,511,1023]
theorem t177_8:rtab .any (opsOf Tryz.f284 8) = T177_8:=by kernel_rfl
theorem w177_8:waitsOk T177_8.2 B177_8 = true:=by kernel_rfl
theorem natural_sub.calls (A B:Option Addr) (c d:Nat) (a b:List Int) (w:World) (ha:CI w A a) (hac:a.length ≤ c) (hb:CI w B b) (hbd:b.length ≤ d) (oa:ND.ok a) (ob:ND.ok b) (hl:b.length ≤ a.length) (hv:ND.val b ≤ ND.val a) (hm:a.length ≤ 3000) :
  Calls Tryz.prog 284 #[.slice A a.length c,.slice B b.length d] w fun e w' => RetI w w' e (ND.digs (ND.val a - ND.val b)):=by
 have HA:=am ha
 have HC:=am hb
 have HAC:=am hac
 have HBD:=am hbd
 have OA:=am oa
 have OB:=am ob
 have HV:=am hv
 have HB:=am (Below.refl w.heap.size w)
 clear ha hb oa ob hac hbd hv
 go_enter Tryz.func284,Tryz.ntmps284
 go_wp2_with (go_at_call 26;refine (slices_Clone_int_int.calls A c a a w HA.out HAC.out (if_pos hm)).mono ?_;rintro e w1 ⟨v,rfl,R1,HB1⟩;obtain ⟨P,q,rfl⟩:=Kd.R_slice R1;replace R1:=am R1;replace HB:=am HB1;clear HB1)
 go_loopg [6,12] a.length (fun k v6 v12 w' => ∃ (i:Nat) (out:List Int) (bo:Int),v6 = .int .i64 bo ∧ v12 = .int .i64 (i:Int) ∧ i ≤ a.length ∧ a.length - i ≤ k ∧ Aside0 (RI w' w (.slice P a.length q) out) ∧ Aside0 (Below w.heap.size w w') ∧ Aside0 (ND.SI a b i out bo))
 case atStart => exact ⟨0,a,0,rfl,rfl,Nat.zero_le _,by omega,R1,HB,⟨ND.SI0 _ _⟩⟩
 case round =>
  obtain ⟨i,out,bo,rfl,rfl,h1,h2,R2,HB2,S⟩:=hrel
  replace HB:=HB2
  clear HB2 R1
  have hL:=S.out.1
  by_cases hi:i < a.length
  ·obtain ⟨g,e⟩:=rhd R2.out (by omega)
   subst e
   have hz:=rcl R2.out (i:=i) hi
   rw [ND.SI_get S.out hi] at hz
   have T:=am (ND.SIs (t:=a.getD i 0 - bo - b.getD i 0) OA.out OB.out S.out hi (by omega))
   have hbo:=S.out.2.2.2.2.1
   have hx:=ND.ok_getD OA.out i
   by_cases hib:i < b.length
   ·obtain ⟨bd,e1,hy0⟩:=cat HC.out hib
    cases e1
    have HY:=am hy0
    clear hy0
    have hy:=ND.ok_getD OB.out i
    generalize a.getD i 0 = x at hz T hx
    generalize b.getD i 0 = y at HY T hy
    go_wp2_with (refine gate_ (.store 3 (.tmp 21) (.tmp 20)) rfl ?_;refine stI 21 _ i _ R2 hi ?_;intro w2 R3 HB3 _;replace HB:=HB3;clear HB3;have hz2:=rcs R3.out hi hL.symm;have hy2:=oc1 HY)
    refine stt 11 (fun w' => w'.cell? ⟨g,i,none⟩ = some (.int .i64 (x - bo)) ∧ w'.cell? (bd.add i) = some (.int .i64 y)) [10] _ _ t177_8 w177_8 ⟨hz2,hy2⟩ fun w0 hb hS HT HW => ?_
    replace R3:=rbl R3 hb
    replace HB:=bst hb
    clear hb
    refine pu 0 ?_
    refine pu 1 ?_
    refine pu 2 ?_
    refine tk 3 ?_
    refine pu 4 ?_
    refine pu 5 ?_
    refine pu 6 ?_
    refine tk 7 ?_
    refine pu 8 ?_
    refine pu 9 ?_
    refine lsI 10 35 _ i (wrap64 (x - bo - y)) R3 hi (fun w3 R4 HB3 _ => ?_)
    replace HB:=HB3
    clear HB3
    rw [List.set_set,w64 (by omega)] at R4
    have hz3:=rcs R4.out hi hL.symm
    go_wp2_with (refine gate_ (.store 3 (.tmp 46) (.tmp 45)) rfl ?_;refine stI 46 _ i _ R4 hi ?_;intro w4 R5 HB3 _;replace HB:=HB3;clear HB3;rw [List.set_set] at R5)
    ·go_roundg (a.length - (i + 1))
     case measure => omega
     case rel => exact ⟨i + 1,_,1,rfl,by go_num,by omega,by omega,R5,HB,⟨T.out.2.1 (by assumption)⟩⟩
    ·go_roundg (a.length - (i + 1))
     case measure => omega
     case rel => exact ⟨i + 1,_,0,rfl,by go_num,by omega,by omega,R4,HB,⟨T.out.2.2 (by assumption)⟩⟩
   ·have hy:b.getD i 0 = 0:=ND.gn (by omega)
    rw [hy,Int.sub_zero] at T
    generalize a.getD i 0 = x at hz T hx
    go_wp2_with (first | (refine gate_ (.store 3 (.tmp 21) (.tmp 20)) rfl ?_;refine stI 21 _ i _ R2 hi ?_;intro w2 R3 HB3 _;replace HB:=HB3;clear HB3;have hz2:=rcs R3.out hi hL.symm) | (refine gate_ (.store 3 (.tmp 46) (.tmp 45)) rfl ?_;refine stI 46 _ i _ R3 hi ?_;intro w4 R5 HB3 _;replace HB:=HB3;clear HB3;rw [List.set_set] at R5))
    ·go_roundg (a.length - (i + 1))
     case measure => omega
     case rel => exact ⟨i + 1,_,1,rfl,by go_num,by omega,by omega,R5,HB,⟨T.out.2.1 (by assumption)⟩⟩
    ·go_roundg (a.length - (i + 1))
     case measure => omega
     case rel => exact ⟨i + 1,_,0,rfl,by go_num,by omega,by omega,R3,HB,⟨T.out.2.2 (by assumption)⟩⟩
  ·have ei:i = a.length:=by omega
   subst ei
   have E:=ND.SIend S.out hl HV.out
   have hcall:=natural_trimmed.calls P q out wr (rC R2) (by rw [hL];exact rL R2)
   rw [hL] at hcall
   replace hcall:=am hcall
   go_wp2_with (go_at_call 281;refine hcall.out.mono ?_;rintro e w' ⟨rfl,⟨nd,rfl⟩⟩)
   go_ret
   have R:=rtk R2.out E.1
   rw [hL,E.2] at R
   exact retI (Kd.R_drewN R _) bel
def T182_6:Bool × List (List Nat × List Nat):=(true,[([],[]),([],[]),([0,1],[0,1]),([2],[2]),([],[]),([],[]),([4,5],[4,5]),([3,6],[3,6]),([],[]),([7,8],[7,8]),([9,6,0,1,2,3,4,5,6,7,8,9],[9])])
def B182_6:List Nat:=[0,0,3,7,0,0,48,127,0,511,1023]
theorem t182_6:rtab .any (opsOf Tryz.f183 6) = T182_6:=by kernel_rfl
theorem w182_6:waitsOk T182_6.2 B182_6 = true:=by kernel_rfl
theorem ref02_less.calls (A B:Option Addr) (c d:Nat) (a b:List Int) (w:World) (ha:CI w A a) (hac:a.length ≤ c) (hb:CI w B b) (hbd:b.length ≤ d) (oa:ND.ok a) (ob:ND.ok b) (hl:b.length ≤ a.length) (hv:ND.val b ≤ ND.val a) (hm:a.length ≤ 3000) :
  Calls Tryz.prog 183 #[.slice A a.length c,.slice B b.length d] w fun e w' => RetI w w' e (ND.digs (ND.val a - ND.val b)):=by
 have HA:=am ha
 have HC:=am hb
 have HAC:=am hac
 have HBD:=am hbd
 have OA:=am oa
 have OB:=am ob
 have HV:=am hv
 have HB:=am (Below.refl w.heap.size w)
 clear ha hb oa ob hac hbd hv
 go_enter Tryz.func183,Tryz.ntmps183
 go_wp2
 go_loopg [5,6,7] a.length (fun k v5 v6 v7 w' => ∃ (i:Nat) (out:List Int) (bo:Int),v6 = .int .i64 bo ∧ v7 = .int .i64 (i:Int) ∧ i ≤ a.length ∧ a.length - i ≤ k ∧ Aside0 (RI w' w v5 out) ∧ Aside0 (Below w.heap.size w w') ∧ Aside0 (ND.LI a b i out bo))
 case atStart => exact ⟨0,[],0,rfl,rfl,Nat.zero_le _,by omega,⟨Kd.R_nil _ _ _ _ _⟩,HB,⟨ND.LI0 _ _⟩⟩
 case round =>
  obtain ⟨i,out,bo,rfl,rfl,h1,h2,R2,HB2,S⟩:=hrel
  replace HB:=HB2
  clear HB2
  have hL:=S.out.2.1
  by_cases hi:i < a.length
  ·obtain ⟨ad,e1,hx0⟩:=cat HA.out hi
   cases e1
   have HX:=am hx0
   clear hx0
   have T:=am (ND.LIs (t:=a.getD i 0 - b.getD i 0 - bo) OA.out OB.out S.out rfl)
   have hbo:=S.out.2.2.1
   have hx:=ND.ok_getD OA.out i
   have hy:=ND.ok_getD OB.out i
   have HD:=am (fun W (h:CI W B b) => ref02_digit.calls B d b i W h (by omega))
   have LL:=am (show out.length < 17592186044416 by omega)
   generalize a.getD i 0 = x at HX T hx
   generalize b.getD i 0 = y at T hy HD
   go_wp2
   refine stt 11 (fun w' => w'.cell? (ad.add i) = some (.int .i64 x)) [] _ _ t182_6 w182_6 (oc1 HX) fun w0 hb hS HT HW => ?_
   replace R2:=rbl R2 hb
   replace HB:=bst hb
   clear hb
   refine pu 0 ?_
   refine pu 1 ?_
   refine pu 2 ?_
   refine tk 3 ?_
   refine pu 4 ?_
   refine pu 5 ?_
   refine pu 8 ?_
   refine cal 6 Tryz.func275 #[.slice B b.length d,.int .i64 (i:Int)] ?_
   refine (HD.out w0 rdb).mono ?_
   rintro e w3 ⟨rfl,⟨nd,rfl⟩⟩
   clear hS
   refine ⟨_,rfl,oc1 HX,fun hS => nrm ?_⟩
   clear hS
   refine pu 7 ?_
   refine pu 9 ?_
   refine pu 10 ?_
   refine dne ?_
   have e1:wrap64 (wrap64 (x - y) - bo) = x - y - bo:=by rw [w64 (n:=x - y) (by omega),w64 (by omega)]
   rw [e1]
   go_wp2_with (first | ((with_reducible refine gate_builtin (b:=.append) (xs:=#[.tmp 29,.tmp 31]) rfl ?_);at_builtin;refine apI 29 31 R2 LL ?_;intro v1 w1 ho HB1 hs hg;replace R2:=ho;replace HB:=HB1;clear ho HB1 hs hg))
   ·go_roundg (a.length - (i + 1))
    case measure => omega
    case rel => exact ⟨i + 1,_,1,rfl,by go_num,by omega,by omega,R2,HB,⟨T.out.2.1 (by assumption)⟩⟩
   ·go_roundg (a.length - (i + 1))
    case measure => omega
    case rel => exact ⟨i + 1,_,0,rfl,by go_num,by omega,by omega,R2,HB,⟨T.out.2.2 (by assumption)⟩⟩
  ·have ei:i = a.length:=by omega
   subst ei
   have E:=ND.LIend S.out hl HV.out
   obtain ⟨P,q,e⟩:=Kd.R_slice R2.out
   subst e
   have hcall:=ref02_trim.calls P q out wr (rC R2) (rL R2)
   rw [hL] at hcall
   replace hcall:=am hcall
   go_wp2_with (go_at_call 274;refine hcall.out.mono ?_;rintro e w' ⟨rfl,⟨nd,rfl⟩⟩)
   go_ret
   have R:=rtk R2.out E.1
   rw [hL,E.2] at R
   exact retI (Kd.R_drewN R _) bel
def T180_9:Bool × List (List Nat × List Nat):=(true,[([],[]),([],[]),([],[]),([1,2],[1,2]),([0,3],[0,3]),([4],[4]),([],[]),([],[]),([6,7],[6,7]),([8],[8]),([],[]),([],[]),([10,11],[10,11]),([9,12],[9,12]),([5,13],[5,13]),([],[]),([14,15],[14,15]),([16,12,0,1,2,3,4,5,6,7,8,9,10,11,12,13,14,15,16],[16])])
def B180_9:List Nat:=[0,0,0,6,15,31,0,0,192,448,0,0,3072,8128,16383,0,65535,131071]
theorem t180_9:rtab .any (opsOf Tryz.f276 9) = T180_9:=by kernel_rfl
theorem w180_9:waitsOk T180_9.2 B180_9 = true:=by kernel_rfl
theorem ref02_times.calls (A B:Option Addr) (c d:Nat) (a b:List Int) (w:World) (ha:CI w A a) (hac:a.length ≤ c) (hb:CI w B b) (hbd:b.length ≤ d) (oa:ND.ok a) (ob:ND.ok b) (hl:a.length + b.length ≤ 900000) :
  Calls Tryz.prog 276 #[.slice A a.length c,.slice B b.length d] w fun e w' => RetI w w' e (ND.digs (ND.val a * ND.val b)):=by
 have HA:=am ha
 have HC:=am hb
 have HAC:=am hac
 have HBD:=am hbd
 have OA:=am oa
 have OB:=am ob
 have HB:=am (Below.refl w.heap.size w)
 clear ha hb oa ob hac hbd
 have HD:=am (fun W (k:Nat) (hk:k ≤ b.length) (h:CI W B b) => ref02_digit.calls B d b k W h (by omega))
 go_enter Tryz.func276,Tryz.ntmps276
 go_wp2_with (refine gate_ (.makeSlice 24 (.tmp 15) (.tmp 15)) rfl ?_;refine mkI (a.length + b.length + 1) _ _ (by omega) ?_;intro g q w1 R1 HB1 hg;replace HB:=HB1;clear HB1)
 go_loopg [6] a.length (fun k v6 w' => ∃ (i:Nat) (out:List Int),v6 = .int .i64 (i:Int) ∧ i ≤ a.length ∧ a.length - i ≤ k ∧ Aside0 (RI w' w (.slice (some ⟨g,0,none⟩) (a.length + b.length + 1) q) out) ∧ Aside0 (Below w.heap.size w w') ∧ Aside0 (ND.MI (a.length + b.length + 1) a b i out))
 case atStart => exact ⟨0,_,rfl,Nat.zero_le _,by omega,R1,HB,⟨ND.MI0 _ _ _⟩⟩
 case round =>
  obtain ⟨i,out,rfl,h1,h2,R2,HB2,M⟩:=hrel
  replace HB:=HB2
  clear HB2 R1
  by_cases hi:i < a.length
  ·obtain ⟨ad,e1,hx0⟩:=cat HA.out hi
   cases e1
   have HX:=am hx0
   clear hx0
   have hxa:=ND.ok_getD OA.out i
   obtain ⟨x,ex⟩:∃ x,a.getD i 0 = x:=⟨_,rfl⟩
   rw [ex] at HX hxa
   have EX:=am ex
   clear ex
   go_wp2
   go_loopg [7,8] (b.length + 1) (fun k v7 v8 w' => ∃ (j:Nat) (out:List Int) (cy:Int),v7 = .int .i64 cy ∧ v8 = .int .i64 (j:Int) ∧ j ≤ b.length + 1 ∧ b.length + 1 - j ≤ k ∧ Aside0 (RI w' w (.slice (some ⟨g,0,none⟩) (a.length + b.length + 1) q) out) ∧ Aside0 (Below w.heap.size w w') ∧ Aside0 (ND.MJ (a.length + b.length + 1) a b i j out cy))
   case atStart => exact ⟨0,out,0,rfl,rfl,Nat.zero_le _,by omega,R2,HB,⟨ND.MJ0 M.out⟩⟩
   case round =>
    clear M
    obtain ⟨j,out,cy,rfl,rfl,h3,h4,R2,HB2,M⟩:=hrel
    replace HB:=HB2
    clear HB2
    have hcy:=M.out.2.2.1
    have h7:=M.out.2.2.2.2.2.2
    by_cases hj:j < b.length ∨ 0 < cy
    ·have hjb:j ≤ b.length:=by omega
     have hz:=rcl R2.out (i:=i + j) (by omega)
     have S:=am (ND.MJs (n:=(out.getD (i + j) 0 + a.getD i 0 * b.getD j 0) + cy) OA.out OB.out M.out hjb (by omega) (by omega))
     rw [EX.out] at S
     have hxb:=ND.ok_getD OB.out j
     have hxo:=ND.ok_getD M.out.1 (i + j)
     have hxy:0 ≤ x * b.getD j 0 ∧ x * b.getD j 0 ≤ 9999 * 9999:=⟨Int.mul_nonneg hxa.1 hxb.1,Int.mul_le_mul (by omega) (by omega) hxb.1 (by omega)⟩
     have hd:=am (fun W => HD.out W j hjb)
     generalize b.getD j 0 = y at hd S hxb hxy
     generalize out.getD (i + j) 0 = z at hz S hxo
     have e1:wrap64 (x * y) = x * y:=w64 (by omega)
     have e4:wrap64 (z + x * y) = z + x * y:=w64 (by omega)
     have e5:wrap64 (z + x * y + cy) = z + x * y + cy:=w64 (by omega)
     have q1:0 ≤ (i:Int) + (j:Int):=by omega
     have q2:(i:Int) + (j:Int) < (a.length:Int) + (b.length:Int) + 1:=by omega
     have q3:((i:Int) + (j:Int)).toNat = i + j:=by omega
     have e2:wrap64 ((i:Int) + (j:Int)) = (i:Int) + (j:Int):=w64 (by omega)
     go_wp2
     ·refine stt 18 (fun w' => w'.cell? (ad.add i) = some (.int .i64 x) ∧ w'.cell? ⟨g,i + j,none⟩ = some (.int .i64 z)) [] _ _ t180_9 w180_9 ⟨oc1 HX,hz⟩ fun w0 hb hS HT HW => ?_
      replace R2:=rbl R2 hb
      replace HB:=bst hb
      clear hb
      refine pu 0 ?_
      refine pu 1 ?_
      refine pu 2 ?_
      refine pu 3 ?_
      rw [e2]
      refine pu 4 ?_
      refine tk 5 ?_
      refine pu 6 ?_
      refine pu 7 ?_
      refine pu 8 ?_
      refine tk 9 ?_
      refine pu 10 ?_
      refine pu 11 ?_
      refine pu 15 ?_
      refine cal 12 Tryz.func275 #[.slice B b.length d,.int .i64 (j:Int)] ?_
      refine (hd.out w0 rdb).mono ?_
      rintro e w3 ⟨rfl,⟨nd,rfl⟩⟩
      refine ⟨_,rfl,⟨oc1 HX,hS.2⟩,fun hS => nrm ?_⟩
      refine pu 13 ?_
      refine pu 14 ?_
      refine pu 16 ?_
      refine pu 17 ?_
      refine dne ?_
      rw [e1,e4,e5]
      have hnn:=S.out.1
      obtain ⟨nn,en⟩:∃ nn,z + x * y + cy = nn:=⟨_,rfl⟩
      rw [en] at hnn S ⊢
      clear hS HT HW e1 e4 e5 en q1 q2 q3 e2 hz hxo hxy hxb
      replace R2:=am (Kd.R_drewN R2.out nd)
      replace HB:=am (bel:Below w.heap.size w (w0.drewN nd))
      generalize w0.drewN nd = W9 at R2 HB ⊢
      go_wp2_with (refine gate_ (.store 3 (.tmp 56) (.tmp 55)) rfl ?_;refine stI 56 _ (i + j) _ R2 (by omega) ?_;intro w2 R3 HB3 _;replace HB:=HB3;clear HB3)
      go_roundg (b.length + 1 - (j + 1))
      case measure => omega
      case rel => exact ⟨j + 1,_,_,rfl,by go_num,by omega,by omega,R3,HB,⟨S.out.2⟩⟩
     ·refine stt 18 (fun w' => w'.cell? (ad.add i) = some (.int .i64 x) ∧ w'.cell? ⟨g,i + j,none⟩ = some (.int .i64 z)) [] _ _ t180_9 w180_9 ⟨oc1 HX,hz⟩ fun w0 hb hS HT HW => ?_
      replace R2:=rbl R2 hb
      replace HB:=bst hb
      clear hb
      refine pu 0 ?_
      refine pu 1 ?_
      refine pu 2 ?_
      refine pu 3 ?_
      rw [e2]
      refine pu 4 ?_
      refine tk 5 ?_
      refine pu 6 ?_
      refine pu 7 ?_
      refine pu 8 ?_
      refine tk 9 ?_
      refine pu 10 ?_
      refine pu 11 ?_
      refine pu 15 ?_
      refine cal 12 Tryz.func275 #[.slice B b.length d,.int .i64 (j:Int)] ?_
      refine (hd.out w0 rdb).mono ?_
      rintro e w3 ⟨rfl,⟨nd,rfl⟩⟩
      refine ⟨_,rfl,⟨oc1 HX,hS.2⟩,fun hS => nrm ?_⟩
      refine pu 13 ?_
      refine pu 14 ?_
      refine pu 16 ?_
      refine pu 17 ?_
      refine dne ?_
      rw [e1,e4,e5]
      have hnn:=S.out.1
      obtain ⟨nn,en⟩:∃ nn,z + x * y + cy = nn:=⟨_,rfl⟩
      rw [en] at hnn S ⊢
      clear hS HT HW e1 e4 e5 en q1 q2 q3 e2 hz hxo hxy hxb
      replace R2:=am (Kd.R_drewN R2.out nd)
      replace HB:=am (bel:Below w.heap.size w (w0.drewN nd))
      generalize w0.drewN nd = W9 at R2 HB ⊢
      go_wp2_with (refine gate_ (.store 3 (.tmp 56) (.tmp 55)) rfl ?_;refine stI 56 _ (i + j) _ R2 (by omega) ?_;intro w2 R3 HB3 _;replace HB:=HB3;clear HB3)
      go_roundg (b.length + 1 - (j + 1))
      case measure => omega
      case rel => exact ⟨j + 1,_,_,rfl,by go_num,by omega,by omega,R3,HB,⟨S.out.2⟩⟩
    ·have ec:cy = 0:=by omega
     subst ec
     have S:=am (ND.MIt M.out (by omega))
     go_wp2
     go_roundg (a.length - (i + 1))
     case measure => omega
     case rel => exact ⟨i + 1,_,by go_num,by omega,by omega,R2,HB,S⟩
  ·have ei:i = a.length:=by omega
   subst ei
   have E:=ND.MIend M.out
   have ol:=M.out.2.1
   have oo:=M.out.1
   have T:=ref02_trim.calls (some ⟨g,0,none⟩) q out wr (rC R2) (by rw [ol];exact rL R2)
   rw [ol] at T
   have hcall:=am T
   clear T
   go_wp2_with (go_at_call 274;refine hcall.out.mono ?_;rintro e w' ⟨rfl,⟨nd,rfl⟩⟩)
   go_ret
   have R:=rtk R2.out oo
   rw [ol,E] at R
   exact retI (Kd.R_drewN R _) bel
end Go.Proofs.YtnbcnoabbdegpaaGreatDoor.V
