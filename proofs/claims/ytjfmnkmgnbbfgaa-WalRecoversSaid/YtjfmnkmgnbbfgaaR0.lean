/- Several texts of this claim in one: A62, R0. -/
import Derived.Test.YtjfmnkmgnbbfgaaA0
import Derived.Test.YtjfmnkmgnbbfgaaF1
import Derived.Test.YtjfmnkmgnbbfgaaA98
namespace Go.Proofs.Ytjfmnkmgnbbfgaa.A
open Go.RowKit Go.Proofs.YtjfmnkmgnbbfgaaW.PrintWords Go.Proofs.YtjfmnkmgnbbfgaaW.PrintLast Go.Proofs.YtjfmnkmgnbbfgaaW.PrintMore
attribute [local go_sem] max2_int min2_int max_two min_two max_three min_three max_four min_four   -- for this text's walks alone
set_option linter.unusedVariables false
set_option linter.unusedSimpArgs false
mutual
def hibernacleref16_May.l0:Nat→List (S27)→Int→Int→Int→Option (Int)
 | 0,_,_,_,_=>none
 | k + 1,x0,x1,x11,x12=>if x12<x11 then (if 0≤x12 then (if x12<(x0.length:Int) then (if ((rd_T27 x0 x12).f0)<0 then (hibernacleref16_May.j1 k x0 x1 x12 x11 x12 true) else (hibernacleref16_May.j1 k x0 x1 x12 x11 x12 (decide (((rd_T27 x0 x12).f0) ≥ x1)))) else (none)) else (none)) else (some 0)
def hibernacleref16_May.j1:Nat→List (S27)→Int→Int→Int→Int→Bool→Option (Int)
 | 0,_,_,_,_,_,_=>none
 | k + 1,x0,x1,x5,x11,x12,x29=>if x29=true then (some 2) else (if 0≤x5 then (if x5<(x0.length:Int) then (if (((rd_T27 x0 x5).f1).size:Int)=128 then (hibernacleref16_May.l1 k x0 x1 x5 0 x11 x12) else (some 3)) else (none)) else (none))
def hibernacleref16_May.l1:Nat→List (S27)→Int→Int→Int→Int→Int→Option (Int)
 | 0,_,_,_,_,_,_=>none
 | k + 1,x0,x1,x5,x6,x11,x12=>if x6<x5 then (if 0≤x6 then (if x6<(x0.length:Int) then (if 0≤x5 then (if x5<(x0.length:Int) then (if ((rd_T27 x0 x6).f0)=((rd_T27 x0 x5).f0) then (some 8) else (hibernacleref16_May.l1 k x0 x1 x5 (wrap64 (x6 + 1)) x11 x12)) else (none)) else (none)) else (none)) else (none)) else (hibernacleref16_May.l0 k x0 x1 x11 (wrap64 (x12 + 1)))
end
def hibernacleref16_May.f (k:Nat) (l0:List (S27)) (a1:Int):Option (Int):=if (l0.length:Int) > 32 then (some 6) else (hibernacleref16_May.l0 k l0 a1 (l0.length:Int) 0)
theorem hibernacleref16_May.mono_l:∀ k,(∀ y0 y1 y2 y3,LeO (hibernacleref16_May.l0 k y0 y1 y2 y3) (hibernacleref16_May.l0 (k + 1) y0 y1 y2 y3))∧(∀ y0 y1 y2 y3 y4 y5,LeO (hibernacleref16_May.j1 k y0 y1 y2 y3 y4 y5) (hibernacleref16_May.j1 (k + 1) y0 y1 y2 y3 y4 y5))∧(∀ y0 y1 y2 y3 y4 y5,LeO (hibernacleref16_May.l1 k y0 y1 y2 y3 y4 y5) (hibernacleref16_May.l1 (k + 1) y0 y1 y2 y3 y4 y5))
 | 0=>⟨fun _ _ _ _ r h=>by simp [hibernacleref16_May.l0] at h,fun _ _ _ _ _ _ r h=>by simp [hibernacleref16_May.j1] at h,fun _ _ _ _ _ _ r h=>by simp [hibernacleref16_May.l1] at h⟩
 | k + 1=>by
  obtain ⟨ih0,ih1,ih2⟩:=hibernacleref16_May.mono_l k
  refine ⟨?_, ?_, ?_⟩
  ·intro y0 y1 y2 y3
   unfold hibernacleref16_May.l0
   repeat' first
   | (with_reducible exact ih0 _ _ _ _)
   | (with_reducible exact ih1 _ _ _ _ _ _)
   | (with_reducible exact ih2 _ _ _ _ _ _)
   | (with_reducible exact LeO.refl _)
   | (with_reducible exact LeO.none _)
   | (with_reducible refine LeO.ite ?_ ?_)
   | (with_reducible refine LeO.bind ?_ (fun _=>?_))
   | exact ih0 _ _ _ _
   | exact ih1 _ _ _ _ _ _
   | exact ih2 _ _ _ _ _ _
   | exact LeO.none _
   | refine LeO.ite ?_ ?_
   | refine LeO.bind ?_ (fun _=>?_)
  ·intro y0 y1 y2 y3 y4 y5
   unfold hibernacleref16_May.j1
   repeat' first
   | (with_reducible exact ih0 _ _ _ _)
   | (with_reducible exact ih1 _ _ _ _ _ _)
   | (with_reducible exact ih2 _ _ _ _ _ _)
   | (with_reducible exact LeO.refl _)
   | (with_reducible exact LeO.none _)
   | (with_reducible refine LeO.ite ?_ ?_)
   | (with_reducible refine LeO.bind ?_ (fun _=>?_))
   | exact ih0 _ _ _ _
   | exact ih1 _ _ _ _ _ _
   | exact ih2 _ _ _ _ _ _
   | exact LeO.none _
   | refine LeO.ite ?_ ?_
   | refine LeO.bind ?_ (fun _=>?_)
  ·intro y0 y1 y2 y3 y4 y5
   unfold hibernacleref16_May.l1
   repeat' first
   | (with_reducible exact ih0 _ _ _ _)
   | (with_reducible exact ih1 _ _ _ _ _ _)
   | (with_reducible exact ih2 _ _ _ _ _ _)
   | (with_reducible exact LeO.refl _)
   | (with_reducible exact LeO.none _)
   | (with_reducible refine LeO.ite ?_ ?_)
   | (with_reducible refine LeO.bind ?_ (fun _=>?_))
   | exact ih0 _ _ _ _
   | exact ih1 _ _ _ _ _ _
   | exact ih2 _ _ _ _ _ _
   | exact LeO.none _
   | refine LeO.ite ?_ ?_
   | refine LeO.bind ?_ (fun _=>?_)
theorem hibernacleref16_May.mono:∀ a0 a1 k,LeO (hibernacleref16_May.f k a0 a1) (hibernacleref16_May.f (k + 1) a0 a1):=by
 intro a0 a1 k
 obtain ⟨ih0,ih1,ih2⟩:=hibernacleref16_May.mono_l k
 unfold hibernacleref16_May.f
 repeat' first
   | (with_reducible exact ih0 _ _ _ _)
   | (with_reducible exact ih1 _ _ _ _ _ _)
   | (with_reducible exact ih2 _ _ _ _ _ _)
   | (with_reducible exact LeO.refl _)
   | (with_reducible exact LeO.none _)
   | (with_reducible refine LeO.ite ?_ ?_)
   | (with_reducible refine LeO.bind ?_ (fun _=>?_))
   | exact ih0 _ _ _ _
   | exact ih1 _ _ _ _ _ _
   | exact ih2 _ _ _ _ _ _
   | exact LeO.none _
   | refine LeO.ite ?_ ?_
   | refine LeO.bind ?_ (fun _=>?_)
set_option maxHeartbeats 8000000 in
set_option maxRecDepth 100000 in
theorem hibernacleref16_May.calls (k:Nat) (A0:Option Addr) (c0:Nat) (l0:List (S27)) (a1:Int) (r:Int) (w:World) (hr0:Kd.C k27 w A0 l0.length l0) (hc0:l0.length≤c0) (h:hibernacleref16_May.f k l0 a1=some r) :
  Calls Try.prog 62 #[.slice A0 l0.length c0,.int .i64 a1] w fun e w'=>e=.returned (.int .i64 r)∧Drawn0 w w':=by
 have HR0:=Aside0.mk hr0
 have HC0:=Aside0.mk hc0
 clear hr0 hc0
 have H:(if (l0.length:Int) > 32 then (some 6) else (hibernacleref16_May.l0 k l0 a1 (l0.length:Int) 0))=some r:=h
 clear h
 by_cases c3:(l0.length:Int) > 32
 ·rw [if_pos c3] at H
  have c3b0:decide (32<(l0.length:Int))=true:=decide_eq_true c3
  have c3b1:decide (32<l0.length)=true:=decide_eq_true (by omega)
  clear c3
  obtain rfl:=Option.some.inj H
  go_enter Try.func62,Try.ntmps62
  go_wp2
  repeat (go_quiet (fail);try go_wp2)
  go_ret
  exact ⟨by first |rfl |(simp;done) |(simp [*];done),by repeat (first |exact Drawn0.refl _ |apply Drawn0.step)⟩
 ·rw [if_neg c3] at H
  have c3b0:decide (32<(l0.length:Int))=false:=decide_eq_false c3
  have c3b1:decide (32<l0.length)=false:=decide_eq_false (by omega)
  clear c3
  have H':=Aside0.mk H
  clear H
  go_enter Try.func62,Try.ntmps62
  go_wp2
  repeat (go_quiet (fail);try go_wp2)
  go_loopg [12] k (fun kq v12 w'=>∃ (x12_1:Int),v12=.int .i64 x12_1∧Aside0 (hibernacleref16_May.l0 kq l0 a1 (l0.length:Int) x12_1=some r)∧Aside0 (kq≤k)∧Drawn0 w w')
  case atStart=>exact ⟨(0),(by first |rfl |(simp;done) |(simp [*];done)),H',⟨Nat.le_refl _⟩,by repeat (first |exact Drawn0.refl _ |apply Drawn0.step)⟩
  case round=>
   clear H'
   try clear p2
   try clear c3
   try clear c3b0
   try clear c3b1
   obtain ⟨x12_1,rfl,HA,HK1,⟨m1,rfl⟩⟩:=hrel
   cases gk with
   | zero=>exact absurd HA.out (by simp [hibernacleref16_May.l0])
   | succ k1=>
    have H:=HA.out
    clear HA
    simp only [hibernacleref16_May.l0] at H
    by_cases c4:x12_1<(l0.length:Int)
    ·rw [if_pos c4] at H
     have c4b0:decide (x12_1<(l0.length:Int))=true:=decide_eq_true c4
     clear c4
     have HC5:=Aside0.mk H
     clear H
     go_upto_region 6 with (fail)
     repeat (go_quiet (fail);go_upto_region 6 with (fail))
     go_cut [29] (fun v29 wc=>∃ (kq:Nat) (x29_4:Bool),v29=.bool x29_4∧Aside0 (hibernacleref16_May.j1 kq l0 a1 x12_1 (l0.length:Int) x12_1 x29_4=some r)∧Aside0 (kq≤k1)∧Drawn0 w wc)
     case first=>
      have H:=HC5.out
      clear HC5
      by_cases c6:0≤x12_1
      ·rw [if_pos c6] at H
       have c6b0:decide (0≤x12_1)=true:=decide_eq_true c6
       clear c6
       (first |rw [c6b0] |(simp only [i64_w,i32_w];rw [c6b0]) |skip)
       by_cases c7:x12_1<(l0.length:Int)
       ·rw [if_pos c7] at H
        have c7b0:decide (x12_1<(l0.length:Int))=true:=decide_eq_true c7
        clear c7
        by_cases c8:((rd_T27 l0 x12_1).f0)<0
        ·rw [if_pos c8] at H
         have c8b0:decide (((rd_T27 l0 x12_1).f0)<0)=true:=decide_eq_true c8
         clear c8
         have H':=Aside0.mk H
         clear H
         have p113:0≤(x12_1:Int):=of_decide_eq_true (by first |(with_reducible assumption) |assumption)
         have q113:x12_1<(l0.length:Int):=of_decide_eq_true (by first |(with_reducible assumption) |assumption)
         obtain ⟨ad113,e113,hx113_0,hx113_1⟩:=at_T27 HR0.out x12_1 p113 q113
         cases e113
         replace p113:=eq_true p113
         replace q113:=eq_true q113
         go_wp2
         repeat (go_quiet (fail);try go_wp2)
         go_meet
         case rel=>exact ⟨_,(true),(by first |rfl |(simp;done) |(simp [*];done)),H',⟨by have:=HK1.out;first |omega |exact Nat.le_refl _⟩,by repeat (first |exact Drawn0.refl _ |apply Drawn0.step)⟩
        ·rw [if_neg c8] at H
         have c8b0:decide (((rd_T27 l0 x12_1).f0)<0)=false:=decide_eq_false c8
         clear c8
         have H':=Aside0.mk H
         clear H
         have p113:0≤(x12_1:Int):=of_decide_eq_true (by first |(with_reducible assumption) |assumption)
         have q113:x12_1<(l0.length:Int):=of_decide_eq_true (by first |(with_reducible assumption) |assumption)
         obtain ⟨ad113,e113,hx113_0,hx113_1⟩:=at_T27 HR0.out x12_1 p113 q113
         cases e113
         replace p113:=eq_true p113
         replace q113:=eq_true q113
         have p114:0≤(x12_1:Int):=of_decide_eq_true (by first |(with_reducible assumption) |assumption)
         have q114:x12_1<(l0.length:Int):=of_decide_eq_true (by first |(with_reducible assumption) |assumption)
         obtain ⟨ad114,e114,hx114_0,hx114_1⟩:=at_T27 HR0.out x12_1 p114 q114
         obtain rfl:ad113=ad114:=(by injection e114)
         replace p114:=eq_true p114
         replace q114:=eq_true q114
         go_wp2
         repeat (go_quiet (fail);try go_wp2)
         go_meet
         case rel=>exact ⟨_,(decide (((rd_T27 l0 x12_1).f0) ≥ a1)),(by first |rfl |(simp;done) |(simp [*];done)),H',⟨by have:=HK1.out;first |omega |exact Nat.le_refl _⟩,by repeat (first |exact Drawn0.refl _ |apply Drawn0.step)⟩
       ·rw [if_neg c7] at H
        exact absurd H (by simp)
      ·rw [if_neg c6] at H
       exact absurd H (by simp)
     case rest=>
      clear HC5
      try clear p1
      try clear q1
      try clear hx1
      try clear p2
      try clear c3
      try clear c3b0
      try clear c3b1
      try clear c4
      try clear c4b0
      try clear c6
      try clear c6b0
      try clear c7
      try clear c7b0
      try clear c8
      try clear c8b0
      try clear hx113_0
      try clear hx113_1
      try clear hx114_0
      try clear hx114_1
      try clear p113
      try clear p114
      try clear p2
      try clear q113
      try clear q114
      obtain ⟨kq,x29_4,rfl,HA,HJ4,⟨mc4,rfl⟩⟩:=hcut
      cases kq with
      | zero=>exact absurd HA.out (by simp [hibernacleref16_May.j1])
      | succ kj4=>
       have H:=HA.out
       clear HA
       simp only [hibernacleref16_May.j1] at H
       by_cases c9:x29_4=true
       ·subst c9
        have H1:(some 2)=some r:=by rw [if_pos rfl] at H;exact H
        clear H
        have H:=H1
        clear H1
        obtain rfl:=Option.some.inj H
        go_wp2
        repeat (go_quiet (fail);try go_wp2)
        go_ret
        exact ⟨by first |rfl |(simp;done) |(simp [*];done),by repeat (first |exact Drawn0.refl _ |apply Drawn0.step)⟩
       ·replace c9:=Bool.eq_false_iff.mpr c9
        subst c9
        have H1:(if 0≤x12_1 then (if x12_1<(l0.length:Int) then (if (((rd_T27 l0 x12_1).f1).size:Int)=128 then (hibernacleref16_May.l1 kj4 l0 a1 x12_1 0 (l0.length:Int) x12_1) else (some 3)) else (none)) else (none))=some r:=by rw [if_neg (show ¬ (false=true) by decide)] at H;exact H
        clear H
        have H:=H1
        clear H1
        by_cases c10:0≤x12_1
        ·rw [if_pos c10] at H
         have c10b0:decide (0≤x12_1)=true:=decide_eq_true c10
         clear c10
         by_cases c11:x12_1<(l0.length:Int)
         ·rw [if_pos c11] at H
          have c11b0:decide (x12_1<(l0.length:Int))=true:=decide_eq_true c11
          clear c11
          by_cases c12:(((rd_T27 l0 x12_1).f1).size:Int)=128
          ·rw [if_pos c12] at H
           have c12b0:((((rd_T27 l0 x12_1).f1).size:Int) == 128)=true:=beq_iff_eq.mpr c12
           have c12b1:((((rd_T27 l0 x12_1).f1).size:Int) != 128)=false:=bne_eq_false_iff_eq.mpr c12
           clear c12
           have H':=Aside0.mk H
           clear H
           have p115:0≤(x12_1:Int):=of_decide_eq_true (by first |(with_reducible assumption) |assumption)
           have q115:x12_1<(l0.length:Int):=of_decide_eq_true (by first |(with_reducible assumption) |assumption)
           obtain ⟨ad115,e115,hx115_0,hx115_1⟩:=at_T27 HR0.out x12_1 p115 q115
           cases e115
           replace p115:=eq_true p115
           replace q115:=eq_true q115
           go_wp2
           repeat (go_quiet (fail);try go_wp2)
           go_loopg [6] kj4 (fun kq v6 w'=>∃ (x6_3:Int),v6=.int .i64 x6_3∧Aside0 (hibernacleref16_May.l1 kq l0 a1 x12_1 x6_3 (l0.length:Int) x12_1=some r)∧Aside0 (kq≤kj4)∧Drawn0 w w')
           case atStart=>exact ⟨(0),(by first |rfl |(simp;done) |(simp [*];done)),H',⟨Nat.le_refl _⟩,by repeat (first |exact Drawn0.refl _ |apply Drawn0.step)⟩
           case round=>
            clear H'
            try clear c1
            try clear p1
            try clear q1
            try clear hx1
            try clear p2
            try clear c3
            try clear c3b0
            try clear c3b1
            try clear c4
            try clear c4b0
            try clear c6
            try clear c6b0
            try clear c7
            try clear c7b0
            try clear c8
            try clear c8b0
            try clear c9
            try clear c10
            try clear c10b0
            try clear c11
            try clear c11b0
            try clear p11
            try clear q11
            try clear hx11
            try clear c12
            try clear c12b0
            try clear c12b1
            try clear hx113_0
            try clear hx113_1
            try clear hx114_0
            try clear hx114_1
            try clear hx115_0
            try clear hx115_1
            try clear p1
            try clear p113
            try clear p114
            try clear p115
            try clear p2
            try clear q1
            try clear q113
            try clear q114
            try clear q115
            obtain ⟨x6_3,rfl,HA,HK3,⟨m3,rfl⟩⟩:=hrel
            cases gk with
            | zero=>exact absurd HA.out (by simp [hibernacleref16_May.l1])
            | succ k3=>
             have H:=HA.out
             clear HA
             simp only [hibernacleref16_May.l1] at H
             by_cases c13:x6_3<x12_1
             ·rw [if_pos c13] at H
              have c13b0:decide (x6_3<x12_1)=true:=decide_eq_true c13
              clear c13
              by_cases c14:0≤x6_3
              ·rw [if_pos c14] at H
               have c14b0:decide (0≤x6_3)=true:=decide_eq_true c14
               clear c14
               by_cases c15:x6_3<(l0.length:Int)
               ·rw [if_pos c15] at H
                have c15b0:decide (x6_3<(l0.length:Int))=true:=decide_eq_true c15
                clear c15
                by_cases c16:0≤x12_1
                ·rw [if_pos c16] at H
                 have c16b0:decide (0≤x12_1)=true:=decide_eq_true c16
                 clear c16
                 by_cases c17:x12_1<(l0.length:Int)
                 ·rw [if_pos c17] at H
                  have c17b0:decide (x12_1<(l0.length:Int))=true:=decide_eq_true c17
                  clear c17
                  by_cases c18:((rd_T27 l0 x6_3).f0)=((rd_T27 l0 x12_1).f0)
                  ·rw [if_pos c18] at H
                   have c18b0:(((rd_T27 l0 x6_3).f0) == ((rd_T27 l0 x12_1).f0))=true:=beq_iff_eq.mpr c18
                   have c18b1:(((rd_T27 l0 x6_3).f0) != ((rd_T27 l0 x12_1).f0))=false:=bne_eq_false_iff_eq.mpr c18
                   clear c18
                   obtain rfl:=Option.some.inj H
                   have p116:0≤(x6_3:Int):=of_decide_eq_true (by first |(with_reducible assumption) |assumption)
                   have q116:x6_3<(l0.length:Int):=of_decide_eq_true (by first |(with_reducible assumption) |assumption)
                   obtain ⟨ad116,e116,hx116_0,hx116_1⟩:=at_T27 HR0.out x6_3 p116 q116
                   obtain rfl:ad115=ad116:=(by injection e116)
                   replace p116:=eq_true p116
                   replace q116:=eq_true q116
                   have p117:0≤(x12_1:Int):=of_decide_eq_true (by first |(with_reducible assumption) |assumption)
                   have q117:x12_1<(l0.length:Int):=of_decide_eq_true (by first |(with_reducible assumption) |assumption)
                   obtain ⟨ad117,e117,hx117_0,hx117_1⟩:=at_T27 HR0.out x12_1 p117 q117
                   obtain rfl:ad115=ad117:=(by injection e117)
                   replace p117:=eq_true p117
                   replace q117:=eq_true q117
                   go_wp2
                   repeat (go_quiet (fail);try go_wp2)
                   go_ret
                   exact ⟨by first |rfl |(simp;done) |(simp [*];done),by repeat (first |exact Drawn0.refl _ |apply Drawn0.step)⟩
                  ·rw [if_neg c18] at H
                   have c18b0:(((rd_T27 l0 x6_3).f0) == ((rd_T27 l0 x12_1).f0))=false:=beq_eq_false_iff_ne.mpr c18
                   have c18b1:(((rd_T27 l0 x6_3).f0) != ((rd_T27 l0 x12_1).f0))=true:=bne_iff_ne.mpr c18
                   have H':=Aside0.mk H
                   clear H
                   have p116:0≤(x6_3:Int):=of_decide_eq_true (by first |(with_reducible assumption) |assumption)
                   have q116:x6_3<(l0.length:Int):=of_decide_eq_true (by first |(with_reducible assumption) |assumption)
                   obtain ⟨ad116,e116,hx116_0,hx116_1⟩:=at_T27 HR0.out x6_3 p116 q116
                   obtain rfl:ad115=ad116:=(by injection e116)
                   replace p116:=eq_true p116
                   replace q116:=eq_true q116
                   have p117:0≤(x12_1:Int):=of_decide_eq_true (by first |(with_reducible assumption) |assumption)
                   have q117:x12_1<(l0.length:Int):=of_decide_eq_true (by first |(with_reducible assumption) |assumption)
                   obtain ⟨ad117,e117,hx117_0,hx117_1⟩:=at_T27 HR0.out x12_1 p117 q117
                   obtain rfl:ad115=ad117:=(by injection e117)
                   replace p117:=eq_true p117
                   replace q117:=eq_true q117
                   go_wp2
                   repeat (go_quiet (fail);try go_wp2)
                   go_roundg k3
                   case measure=>have:=HK1.out;have:=HJ4.out;have:=HK3.out;omega
                   case rel=>exact ⟨(wrap64 (x6_3 + 1)),(by first |rfl |(simp;done) |(simp [*];done)),H',⟨by have:=HK1.out;have:=HJ4.out;have:=HK3.out;omega⟩,by repeat (first |exact Drawn0.refl _ |apply Drawn0.step)⟩
                 ·rw [if_neg c17] at H
                  exact absurd H (by simp)
                ·rw [if_neg c16] at H
                 exact absurd H (by simp)
               ·rw [if_neg c15] at H
                exact absurd H (by simp)
              ·rw [if_neg c14] at H
               exact absurd H (by simp)
             ·rw [if_neg c13] at H
              have c13b0:decide (x6_3<x12_1)=false:=decide_eq_false c13
              clear c13
              have H':=Aside0.mk H
              clear H
              go_wp2
              repeat (go_quiet (fail);try go_wp2)
              go_roundg k3
              case measure=>have:=HK1.out;have:=HJ4.out;have:=HK3.out;omega
              case rel=>exact ⟨(wrap64 (x12_1 + 1)),(by first |rfl |(simp;done) |(simp [*];done)),H',⟨by have:=HK1.out;have:=HJ4.out;have:=HK3.out;omega⟩,by repeat (first |exact Drawn0.refl _ |apply Drawn0.step)⟩
          ·rw [if_neg c12] at H
           have c12b0:((((rd_T27 l0 x12_1).f1).size:Int) == 128)=false:=beq_eq_false_iff_ne.mpr c12
           have c12b1:((((rd_T27 l0 x12_1).f1).size:Int) != 128)=true:=bne_iff_ne.mpr c12
           obtain rfl:=Option.some.inj H
           have p115:0≤(x12_1:Int):=of_decide_eq_true (by first |(with_reducible assumption) |assumption)
           have q115:x12_1<(l0.length:Int):=of_decide_eq_true (by first |(with_reducible assumption) |assumption)
           obtain ⟨ad115,e115,hx115_0,hx115_1⟩:=at_T27 HR0.out x12_1 p115 q115
           cases e115
           replace p115:=eq_true p115
           replace q115:=eq_true q115
           go_wp2
           repeat (go_quiet (fail);try go_wp2)
           go_ret
           exact ⟨by first |rfl |(simp;done) |(simp [*];done),by repeat (first |exact Drawn0.refl _ |apply Drawn0.step)⟩
         ·rw [if_neg c11] at H
          exact absurd H (by simp)
        ·rw [if_neg c10] at H
         exact absurd H (by simp)
    ·rw [if_neg c4] at H
     have c4b0:decide (x12_1<(l0.length:Int))=false:=decide_eq_false c4
     clear c4
     obtain rfl:=Option.some.inj H
     go_wp2
     repeat (go_quiet (fail);try go_wp2)
     go_ret
     exact ⟨by first |rfl |(simp;done) |(simp [*];done),by repeat (first |exact Drawn0.refl _ |apply Drawn0.step)⟩
end Go.Proofs.Ytjfmnkmgnbbfgaa.A
set_option linter.unusedVariables false
set_option linter.unusedSimpArgs false
namespace Go.Proofs.Ytjfmnkmgnbbfgaa.A
open Go.RowKit Go.Proofs.YtjfmnkmgnbbfgaaW.PrintWords Go.Proofs.YtjfmnkmgnbbfgaaW.PrintLast Go.Proofs.YtjfmnkmgnbbfgaaW.PrintMore
theorem may_l1 (l:List S27) (hl:l.length≤32) (n:Int) (i:Nat) (hi:i<l.length) (d:Nat):∀ k j,j + d=i→d<k →
  hibernacleref16_May.l1 k l n (i:Int) (j:Int) (l.length:Int) (i:Int)=if l[i].f0 ∈ ((l.take i).drop j).map (·.f0) then some 8 else hibernacleref16_May.l0 (k - d - 1) l n (l.length:Int) ((i + 1:Nat):Int):=by
 induction d with
 | zero=>
  intro k j hj hk
  obtain ⟨k,rfl⟩:∃ m,k=m + 1:=⟨k - 1,by omega⟩
  obtain rfl:j=i:=by omega
  simp only [hibernacleref16_May.l1]
  rw [if_neg (by omega),wrapS (by omega),List.drop_of_length_le (by rw [List.length_take];omega)]
  simp
 | succ d ih=>
  intro k j hj hk
  obtain ⟨k,rfl⟩:∃ m,k=m + 1:=⟨k - 1,by omega⟩
  have hlt:j<(l.take i).length:=by rw [List.length_take];omega
  have e:(l.take i).drop j=l[j] :: (l.take i).drop (j + 1):=by rw [List.drop_eq_getElem_cons hlt,List.getElem_take]
  simp only [hibernacleref16_May.l1]
  rw [if_pos (by omega),if_pos (by omega),if_pos (by omega),if_pos (by omega),if_pos (by omega),rdTN l j (by omega),rdTN l i hi,wrapS (by omega),ih k (j + 1) (by omega) (by omega),e,List.map_cons]
  by_cases h:l[j].f0=l[i].f0
  ·rw [if_pos h,if_pos (by rw [h];exact List.mem_cons_self)]
  ·rw [if_neg h]
   have h2:(l[i].f0 ∈ l[j].f0 :: ((l.take i).drop (j + 1)).map (·.f0))=(l[i].f0 ∈ ((l.take i).drop (j + 1)).map (·.f0)):=by
    rw [List.mem_cons]
    exact propext ⟨fun hh=>hh.elim (fun hh=>absurd hh.symm h) id,.inr⟩
   simp only [h2,show k + 1 - (d + 1) - 1=k - d - 1 by omega]
theorem may_l0 (l:List S27) (hl:l.length≤32) (n:Int) (d:Nat):∀ k i,i + d=l.length→40 * d + 40<k →
  hibernacleref16_May.l0 k l n (l.length:Int) (i:Int)=some (mayL n ((l.take i).map (·.f0)) (l.drop i)):=by
 induction d with
 | zero=>
  intro k i hi hk
  obtain ⟨k,rfl⟩:∃ m,k=m + 1:=⟨k - 1,by omega⟩
  simp only [hibernacleref16_May.l0]
  rw [if_neg (by omega),List.drop_of_length_le (by omega)]
  rfl
 | succ d ih=>
  intro k i hi hk
  obtain ⟨k,rfl⟩:∃ m,k=m + 1 + 1:=⟨k - 2,by omega⟩
  have hlt:i<l.length:=by omega
  have e:=ih (k - i - 1) (i + 1) (by omega) (by omega)
  have e1:=may_l1 l hl n i hlt i k 0 (by omega) (by omega)
  rw [List.drop_zero] at e1
  rw [List.drop_eq_getElem_cons hlt,mayL]
  simp only [hibernacleref16_May.l0]
  rw [if_pos (by omega),if_pos (by omega),if_pos (by omega),rdTN l i hlt]
  by_cases h1:l[i].f0<0
  ·rw [if_pos h1,if_pos (.inl h1)]
   simp only [hibernacleref16_May.j1,if_true]
  ·rw [if_neg h1]
   by_cases h2:n≤l[i].f0
   ·rw [decide_eq_true (by omega),if_pos (.inr h2)]
    simp only [hibernacleref16_May.j1,if_true]
   ·rw [decide_eq_false (by omega),if_neg (by omega)]
    simp only [hibernacleref16_May.j1,Bool.false_eq_true,if_false]
    rw [if_pos (by omega),if_pos (by omega),rdTN l i hlt]
    by_cases h3:l[i].f1.size=128
    ·rw [if_pos (by omega),if_pos h3]
     refine Eq.trans e1 ?_
     by_cases h4:l[i].f0 ∈ (l.take i).map (·.f0)
     ·rw [if_pos h4,if_pos h4]
     ·rw [if_neg h4,if_neg h4,e,map_take_succ l i hlt]
    ·rw [if_neg (by omega),if_neg h3]
theorem rmay_some (l:List S27) (n:Int) (k:Nat) (hk:1400<k):hibernacleref16_May.f k l n=some (mayV l n):=by
 unfold hibernacleref16_May.f mayV
 by_cases h:32<l.length
 ·rw [if_pos (by omega),if_pos h]
 ·rw [if_neg (by omega),if_neg h]
  exact may_l0 l (by omega) n l.length k 0 (by omega) (by omega)
end Go.Proofs.Ytjfmnkmgnbbfgaa.A
