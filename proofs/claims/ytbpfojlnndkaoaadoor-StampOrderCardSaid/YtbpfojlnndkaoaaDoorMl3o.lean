/- Proved here: walks: what functions of this seat's program return and what they leave of memory, each as a contract. Conditions: stated at each theorem. -/
import Derived.Test.YtbpfojlnndkaoaaDoorMl3
namespace Go.Proofs.YtbpfojlnndkaoaaDoor
set_option linter.unusedVariables false
set_option linter.unusedSimpArgs false
open Go
open V (Bytes Meets Env Sl Own Gr Fr Cells S)
set_option maxHeartbeats 4000000 in
set_option maxRecDepth 10000 in
theorem stampOrder_walk {w : World}  {a : Int} {b : Int} {c : Int} {d : Int} {e : Int} {f : Int}  :
    Meets Tryd.prog 5 [.agg #[.int .i64 a, .int .i64 b], .agg #[.int .i64 c, .int .i64 d], .agg #[.int .i64 e, .int .i64 f]] w fun r w' => r = .bool true ∧ Gr w w' := by
  have HG := V.Fr.refl [] w
  refine V.enter (n := 124) Tryd.func5 rfl rfl (by decide) rfl ?_
  refine V.seq ?_
  refine V.region ?_
  refine V.box rfl rfl rfl rfl ?_
  rintro k1 w3 s5 s6 G4 Fk2
  have z7 := V.Fr.size G4
  replace HG := HG.grow G4
  clear G4
  try simp only [V.cellsL, V.spliceL] at Fk2
  refine V.box rfl rfl rfl rfl ?_
  rintro k8 w10 s12 s13 G11 Fk9
  have z14 := V.Fr.size G11
  try replace Fk2 := Fk2.gr G11
  replace HG := HG.grow G11
  clear G11
  try simp only [V.cellsL, V.spliceL] at Fk9
  refine V.box rfl rfl rfl rfl ?_
  rintro k15 w17 s19 s20 G18 Fk16
  have z21 := V.Fr.size G18
  try replace Fk2 := Fk2.gr G18
  try replace Fk9 := Fk9.gr G18
  replace HG := HG.grow G18
  clear G18
  try simp only [V.cellsL, V.spliceL] at Fk16
  refine V.run T_ok 1 rfl ?_
  refine V.nil ?_
  refine V.tN ?_
  refine V.seq ?_
  refine V.region ?_
  refine V.run T_ok 1 rfl ?_
  refine V.nil ?_
  refine V.tN ?_
  refine V.seq ?_
  refine V.seq ?_
  refine V.region ?_
  refine V.loadO T_ok Fk2 rfl rfl rfl rfl rfl ?_
  refine V.loadO T_ok Fk9 rfl rfl rfl rfl rfl ?_
  refine V.call (less_spec (a := a) (b := b) (c := c) (d := d)) rfl rfl rfl ?_
  rintro _ w22 ⟨rfl, G23⟩
  have z24 := V.Fr.size G23
  try replace Fk2 := Fk2.gr G23
  try replace Fk9 := Fk9.gr G23
  try replace Fk16 := Fk16.gr G23
  replace HG := HG.grow G23
  clear G23
  refine V.nil ?_
  refine V.tN ?_
  refine V.condT rfl (fun h2 => ?_) (fun h2 => ?_)
  ·
    try simp only [decide_eq_true_eq, decide_eq_false_iff_not, Bool.or_eq_true, Bool.and_eq_true, Bool.or_eq_false_iff, Bool.and_eq_false_iff, Bool.not_eq_true', Bool.not_eq_false', Int.not_lt, Int.not_le, Decidable.not_not, V.u8eq, V.S_inj, V.S_lit, V.S_lit2, V.bl] at h2
    try simp only [V.mk0, V.mk1, V.mk2, V.mk3] at h2
    refine V.region ?_
    refine V.run T_ok 1 rfl ?_
    refine V.addN rfl rfl rfl rfl rfl (by first | omega | (simp only [List.length_take, List.length_drop, List.length_append, List.length_cons, List.length_nil, List.length_replicate, List.length_set, V.length_data, V.S_size]; omega)) (by first | omega | (simp only [List.length_take, List.length_drop, List.length_append, List.length_cons, List.length_nil, List.length_replicate, List.length_set, V.length_data, V.S_size]; omega)) ?_
    refine V.run T_ok 1 rfl ?_
    refine V.nil ?_
    refine V.tN ?_
    refine V.seq ?_
    refine V.seq ?_
    refine V.region ?_
    refine V.loadO T_ok Fk9 rfl rfl rfl rfl rfl ?_
    refine V.loadO T_ok Fk2 rfl rfl rfl rfl rfl ?_
    refine V.call (less_spec (a := c) (b := d) (c := a) (d := b)) rfl rfl rfl ?_
    rintro _ w25 ⟨rfl, G26⟩
    have z27 := V.Fr.size G26
    try replace Fk2 := Fk2.gr G26
    try replace Fk9 := Fk9.gr G26
    try replace Fk16 := Fk16.gr G26
    replace HG := HG.grow G26
    clear G26
    refine V.nil ?_
    refine V.tN ?_
    refine V.condN rfl (by (apply decide_eq_false; omega)) ?_
    refine V.skip ?_
    refine V.tN ?_
    refine V.seq ?_
    refine V.seq ?_
    refine V.region ?_
    refine V.loadO T_ok Fk2 rfl rfl rfl rfl rfl ?_
    refine V.loadO T_ok Fk9 rfl rfl rfl rfl rfl ?_
    refine V.step rfl rfl (V.eqA_run rfl rfl rfl eqG23 (eqS23 _)) ?_
    refine V.nil ?_
    refine V.tN ?_
    refine V.condN rfl (by (simp; omega)) ?_
    refine V.skip ?_
    refine V.tN ?_
    refine V.seq ?_
    refine V.seq ?_
    refine V.drawQ mixed (by kernel_rfl) ?_
    refine V.qrun T_ok 3 rfl ?_
    refine V.qyes rfl rfl rfl ?_
    refine V.qloadO T_ok Fk2 rfl rfl rfl rfl rfl ?_
    refine V.qyes rfl rfl rfl ?_
    refine V.qloadO T_ok Fk9 rfl rfl rfl rfl rfl ?_
    refine V.qyes rfl rfl rfl ?_
    refine V.qcall V.clo (fun w1 g => (less_spec (a := a) (b := b) (c := c) (d := d))) rfl rfl rfl ?_
    refine V.qrun T_ok 1 rfl ?_
    refine V.qsplitT (j := 6) (t := 32) rfl rfl (by (apply decide_eq_true; omega)) ?_
    refine V.qyes rfl rfl rfl ?_
    refine V.qloadO T_ok Fk9 rfl rfl rfl rfl rfl ?_
    refine V.qyes rfl rfl rfl ?_
    refine V.qloadO T_ok Fk16 rfl rfl rfl rfl rfl ?_
    refine V.qyes rfl rfl rfl ?_
    refine V.qcall V.clo (fun w1 g => (less_spec (a := c) (b := d) (c := e) (d := f))) rfl rfl rfl ?_
    refine V.qrun T_ok 2 rfl ?_
    refine V.qsplit (j := 11) (t := 37) rfl rfl (fun g8_11 => ?_) (fun g8_11 => ?_)
    ·
      try simp only [decide_eq_true_eq, decide_eq_false_iff_not, Bool.or_eq_true, Bool.and_eq_true, Bool.or_eq_false_iff, Bool.and_eq_false_iff, Bool.not_eq_true', Bool.not_eq_false', Int.not_lt, Int.not_le, Decidable.not_not, V.u8eq, V.S_inj, V.S_lit, V.S_lit2, V.bl] at g8_11
      try simp only [V.mk0, V.mk1, V.mk2, V.mk3] at g8_11
      refine V.qyes rfl rfl rfl ?_
      refine V.qloadO T_ok Fk2 rfl rfl rfl rfl rfl ?_
      refine V.qyes rfl rfl rfl ?_
      refine V.qloadO T_ok Fk16 rfl rfl rfl rfl rfl ?_
      refine V.qyes rfl rfl rfl ?_
      refine V.qcall V.clo (fun w1 g => (less_spec (a := a) (b := b) (c := e) (d := f))) rfl rfl rfl ?_
      refine V.qrun T_ok 4 rfl ?_
      refine V.qsplitF (j := 18) (t := 44) rfl rfl (by (simp; omega)) ?_
      refine V.qyes rfl rfl rfl ?_
      refine V.qloadO T_ok Fk2 rfl rfl rfl rfl rfl ?_
      refine V.qyes rfl rfl rfl ?_
      refine V.qloadO T_ok Fk9 rfl rfl rfl rfl rfl ?_
      refine V.qyes rfl rfl rfl ?_
      refine V.qcall V.clo (fun w1 g => (compare_spec (a := a) (b := b) (c := c) (d := d))) rfl rfl rfl ?_
      refine V.qyes rfl rfl rfl ?_
      refine V.qloadO T_ok Fk9 rfl rfl rfl rfl rfl ?_
      refine V.qyes rfl rfl rfl ?_
      refine V.qloadO T_ok Fk2 rfl rfl rfl rfl rfl ?_
      refine V.qyes rfl rfl rfl ?_
      refine V.qcall V.clo (fun w1 g => (compare_spec (a := c) (b := d) (c := a) (d := b))) rfl rfl rfl ?_
      refine V.qrun T_ok 3 rfl ?_
      refine V.qnil ?_
      rintro w28 G29
      have z30 := V.Fr.size G29
      try replace Fk2 := Fk2.gr G29
      try replace Fk9 := Fk9.gr G29
      try replace Fk16 := Fk16.gr G29
      replace HG := HG.grow G29
      clear G29
      refine V.tN ?_
      refine V.condN rfl (by (rw [cmpS_neg]; simp)) ?_
      refine V.skip ?_
      refine V.tN ?_
      refine V.seq ?_
      refine V.region ?_
      refine V.loadO T_ok Fk2 rfl rfl rfl rfl rfl ?_
      refine V.loadO T_ok Fk9 rfl rfl rfl rfl rfl ?_
      refine V.call (max_spec (a := a) (b := b) (c := c) (d := d)) rfl rfl rfl ?_
      rintro _ w31 ⟨rfl, G32⟩
      have z33 := V.Fr.size G32
      try replace Fk2 := Fk2.gr G32
      try replace Fk9 := Fk9.gr G32
      try replace Fk16 := Fk16.gr G32
      replace HG := HG.grow G32
      clear G32
      refine V.alloc zero23 rfl rfl rfl ?_
      rintro k34 w36 s38 s39 G37 Fk35
      have z40 := V.Fr.size G37
      try replace Fk2 := Fk2.gr G37
      try replace Fk9 := Fk9.gr G37
      try replace Fk16 := Fk16.gr G37
      replace HG := HG.grow G37
      clear G37
      try simp only [V.cellsL, V.spliceL] at Fk35
      refine V.storeO Fk35 rfl rfl rfl rfl sz23 rfl rfl rfl rfl ?_
      rintro w41 G42 z44 Fs43
      clear Fk35
      have z45 := V.Fr.size G42
      first | replace Fk2 := Fk2.mv1 G42 (by omega) | clear Fk2 | skip
      first | replace Fk9 := Fk9.mv1 G42 (by omega) | clear Fk9 | skip
      first | replace Fk16 := Fk16.mv1 G42 (by omega) | clear Fk16 | skip
      replace HG := HG.new1 G42 (by first | (refine Or.inr ?_; omega) | (refine Or.inl ?_; simp; done))
      clear G42
      have Fk35 := Fs43; clear Fs43
      simp only [V.spliceL, V.cellsL] at Fk35
      refine V.nil ?_
      refine V.tN ?_
      refine V.seq ?_
      refine V.seq ?_
      refine V.region ?_
      refine V.loadO T_ok Fk35 rfl rfl rfl rfl rfl ?_
      refine V.loadO T_ok Fk2 rfl rfl rfl rfl rfl ?_
      refine V.step rfl rfl (V.neA_run rfl rfl rfl eqG23 (eqS23 _)) ?_
      refine V.run T_ok 1 rfl ?_
      refine V.split (j := 3) (t := 60) rfl rfl (fun g11_3 => ?_) (fun g11_3 => ?_)
      ·
        try simp only [decide_eq_true_eq, decide_eq_false_iff_not, Bool.or_eq_true, Bool.and_eq_true, Bool.or_eq_false_iff, Bool.and_eq_false_iff, Bool.not_eq_true', Bool.not_eq_false', Int.not_lt, Int.not_le, Decidable.not_not, V.u8eq, V.S_inj, V.S_lit, V.S_lit2, V.bl] at g11_3
        try simp only [V.mk0, V.mk1, V.mk2, V.mk3] at g11_3
        refine V.yes rfl rfl rfl ?_
        refine V.loadO T_ok Fk35 rfl rfl rfl rfl rfl ?_
        refine V.yes rfl rfl rfl ?_
        refine V.loadO T_ok Fk9 rfl rfl rfl rfl rfl ?_
        refine V.yes rfl rfl rfl ?_
        refine V.step rfl rfl (V.neA_run rfl rfl rfl eqG23 (eqS23 _)) ?_
        refine V.run T_ok 2 rfl ?_
        refine V.splitF (j := 8) (t := 65) rfl rfl (by (grind [maxSt, nextSt, stR])) ?_
        refine V.yes rfl rfl rfl ?_
        refine V.loadO T_ok Fk35 rfl rfl rfl rfl rfl ?_
        refine V.yes rfl rfl rfl ?_
        refine V.loadO T_ok Fk2 rfl rfl rfl rfl rfl ?_
        refine V.yes rfl rfl rfl ?_
        refine V.call (less_spec (a := ((maxSt a b c d).1)) (b := ((maxSt a b c d).2)) (c := a) (d := b)) rfl rfl rfl ?_
        rintro _ w46 ⟨rfl, G47⟩
        have z48 := V.Fr.size G47
        try replace Fk2 := Fk2.gr G47
        try replace Fk9 := Fk9.gr G47
        try replace Fk16 := Fk16.gr G47
        try replace Fk35 := Fk35.gr G47
        replace HG := HG.grow G47
        clear G47
        refine V.run T_ok 2 rfl ?_
        refine V.splitF (j := 13) (t := 70) rfl rfl (by (grind [maxSt, nextSt, stR])) ?_
        refine V.yes rfl rfl rfl ?_
        refine V.loadO T_ok Fk35 rfl rfl rfl rfl rfl ?_
        refine V.yes rfl rfl rfl ?_
        refine V.loadO T_ok Fk9 rfl rfl rfl rfl rfl ?_
        refine V.yes rfl rfl rfl ?_
        refine V.call (less_spec (a := ((maxSt a b c d).1)) (b := ((maxSt a b c d).2)) (c := c) (d := d)) rfl rfl rfl ?_
        rintro _ w49 ⟨rfl, G50⟩
        have z51 := V.Fr.size G50
        try replace Fk2 := Fk2.gr G50
        try replace Fk9 := Fk9.gr G50
        try replace Fk16 := Fk16.gr G50
        try replace Fk35 := Fk35.gr G50
        replace HG := HG.grow G50
        clear G50
        refine V.run T_ok 1 rfl ?_
        refine V.nil ?_
        refine V.tN ?_
        refine V.condN rfl (by (grind [maxSt, nextSt, stR])) ?_
        refine V.skip ?_
        refine V.tN ?_
        refine V.seq ?_
        refine V.region ?_
        refine V.loadO T_ok Fk2 rfl rfl rfl rfl rfl ?_
        refine V.call (snext_spec (a := a) (b := b)) rfl rfl rfl ?_
        rintro _ w52 ⟨rfl, G53⟩
        have z54 := V.Fr.size G53
        try replace Fk2 := Fk2.gr G53
        try replace Fk9 := Fk9.gr G53
        try replace Fk16 := Fk16.gr G53
        try replace Fk35 := Fk35.gr G53
        replace HG := HG.grow G53
        clear G53
        refine V.run T_ok 3 rfl ?_
        refine V.alloc zero23 rfl rfl rfl ?_
        rintro k55 w57 s59 s60 G58 Fk56
        have z61 := V.Fr.size G58
        try replace Fk2 := Fk2.gr G58
        try replace Fk9 := Fk9.gr G58
        try replace Fk16 := Fk16.gr G58
        try replace Fk35 := Fk35.gr G58
        replace HG := HG.grow G58
        clear G58
        try simp only [V.cellsL, V.spliceL] at Fk56
        refine V.storeO Fk56 rfl rfl rfl rfl sz23 rfl rfl rfl rfl ?_
        rintro w62 G63 z65 Fs64
        clear Fk56
        have z66 := V.Fr.size G63
        first | replace Fk2 := Fk2.mv1 G63 (by omega) | clear Fk2 | skip
        first | replace Fk9 := Fk9.mv1 G63 (by omega) | clear Fk9 | skip
        first | replace Fk16 := Fk16.mv1 G63 (by omega) | clear Fk16 | skip
        first | replace Fk35 := Fk35.mv1 G63 (by omega) | clear Fk35 | skip
        replace HG := HG.new1 G63 (by first | (refine Or.inr ?_; omega) | (refine Or.inl ?_; simp; done))
        clear G63
        have Fk56 := Fs64; clear Fs64
        simp only [V.spliceL, V.cellsL] at Fk56
        refine V.run T_ok 1 rfl ?_
        refine V.nil ?_
        refine V.tN ?_
        refine V.seq ?_
        refine V.seq ?_
        refine V.region ?_
        refine V.run T_ok 2 rfl ?_
        refine V.nil ?_
        refine V.tN ?_
        refine V.condT rfl (fun h14 => ?_) (fun h14 => ?_)
        ·
          try simp only [decide_eq_true_eq, decide_eq_false_iff_not, Bool.or_eq_true, Bool.and_eq_true, Bool.or_eq_false_iff, Bool.and_eq_false_iff, Bool.not_eq_true', Bool.not_eq_false', Int.not_lt, Int.not_le, Decidable.not_not, V.u8eq, V.S_inj, V.S_lit, V.S_lit2, V.bl] at h14
          try simp only [V.mk0, V.mk1, V.mk2, V.mk3] at h14
          refine V.seq ?_
          refine V.region ?_
          refine V.call (alive_spec) rfl rfl rfl ?_
          rintro _ w67 ⟨rfl, G68⟩
          have z69 := V.Fr.size G68
          try replace Fk2 := Fk2.gr G68
          try replace Fk9 := Fk9.gr G68
          try replace Fk16 := Fk16.gr G68
          try replace Fk35 := Fk35.gr G68
          try replace Fk56 := Fk56.gr G68
          replace HG := HG.grow G68
          clear G68
          refine V.run T_ok 1 rfl ?_
          refine V.yes rfl rfl rfl ?_
          refine V.loadO T_ok Fk2 rfl rfl rfl rfl rfl ?_
          refine V.yes rfl rfl rfl ?_
          refine V.call (right_spec (a := a) (b := b)) rfl rfl rfl ?_
          rintro _ w70 ⟨rfl, G71⟩
          have z72 := V.Fr.size G71
          try replace Fk2 := Fk2.gr G71
          try replace Fk9 := Fk9.gr G71
          try replace Fk16 := Fk16.gr G71
          try replace Fk35 := Fk35.gr G71
          try replace Fk56 := Fk56.gr G71
          replace HG := HG.grow G71
          clear G71
          refine V.run T_ok 2 rfl ?_
          refine V.split (j := 5) (t := 87) rfl rfl (fun g15_5 => ?_) (fun g15_5 => ?_)
          ·
            try simp only [decide_eq_true_eq, decide_eq_false_iff_not, Bool.or_eq_true, Bool.and_eq_true, Bool.or_eq_false_iff, Bool.and_eq_false_iff, Bool.not_eq_true', Bool.not_eq_false', Int.not_lt, Int.not_le, Decidable.not_not, V.u8eq, V.S_inj, V.S_lit, V.S_lit2, V.bl] at g15_5
            try simp only [V.mk0, V.mk1, V.mk2, V.mk3] at g15_5
            refine V.run T_ok 6 rfl ?_
            refine V.nil ?_
            refine V.tN ?_
            refine V.ret ?_
            refine V.tR ?_
            refine V.done rfl ?_
            exact ⟨(congrArg Value.bool (by first | rfl | (grind [maxSt, nextSt, stR]))), HG⟩
          ·
            try simp only [decide_eq_true_eq, decide_eq_false_iff_not, Bool.or_eq_true, Bool.and_eq_true, Bool.or_eq_false_iff, Bool.and_eq_false_iff, Bool.not_eq_true', Bool.not_eq_false', Int.not_lt, Int.not_le, Decidable.not_not, V.u8eq, V.S_inj, V.S_lit, V.S_lit2, V.bl] at g15_5
            try simp only [V.mk0, V.mk1, V.mk2, V.mk3] at g15_5
            refine V.run T_ok 1 rfl ?_
            refine V.yes rfl rfl rfl ?_
            refine V.loadO T_ok Fk2 rfl rfl rfl rfl rfl ?_
            refine V.run T_ok 4 rfl ?_
            refine V.nil ?_
            refine V.tN ?_
            refine V.ret ?_
            refine V.tR ?_
            refine V.done rfl ?_
            exact ⟨(congrArg Value.bool (by first | rfl | (grind [maxSt, nextSt, stR]))), HG⟩
        ·
          try simp only [decide_eq_true_eq, decide_eq_false_iff_not, Bool.or_eq_true, Bool.and_eq_true, Bool.or_eq_false_iff, Bool.and_eq_false_iff, Bool.not_eq_true', Bool.not_eq_false', Int.not_lt, Int.not_le, Decidable.not_not, V.u8eq, V.S_inj, V.S_lit, V.S_lit2, V.bl] at h14
          try simp only [V.mk0, V.mk1, V.mk2, V.mk3] at h14
          refine V.skip ?_
          refine V.tN ?_
          refine V.seq ?_
          refine V.region ?_
          refine V.call (alive_spec) rfl rfl rfl ?_
          rintro _ w73 ⟨rfl, G74⟩
          have z75 := V.Fr.size G74
          try replace Fk2 := Fk2.gr G74
          try replace Fk9 := Fk9.gr G74
          try replace Fk16 := Fk16.gr G74
          try replace Fk35 := Fk35.gr G74
          try replace Fk56 := Fk56.gr G74
          replace HG := HG.grow G74
          clear G74
          refine V.run T_ok 1 rfl ?_
          refine V.yes rfl rfl rfl ?_
          refine V.loadO T_ok Fk2 rfl rfl rfl rfl rfl ?_
          refine V.yes rfl rfl rfl ?_
          refine V.call (right_spec (a := a) (b := b)) rfl rfl rfl ?_
          rintro _ w76 ⟨rfl, G77⟩
          have z78 := V.Fr.size G77
          try replace Fk2 := Fk2.gr G77
          try replace Fk9 := Fk9.gr G77
          try replace Fk16 := Fk16.gr G77
          try replace Fk35 := Fk35.gr G77
          try replace Fk56 := Fk56.gr G77
          replace HG := HG.grow G77
          clear G77
          refine V.run T_ok 2 rfl ?_
          refine V.splitT (j := 5) (t := 98) rfl rfl (by (grind [maxSt, nextSt, stR])) ?_
          refine V.yes rfl rfl rfl ?_
          refine V.loadO T_ok Fk56 rfl rfl rfl rfl rfl ?_
          refine V.yes rfl rfl rfl ?_
          refine V.call (right_spec (a := (((nextSt a b).1).1)) (b := (((nextSt a b).1).2))) rfl rfl rfl ?_
          rintro _ w79 ⟨rfl, G80⟩
          have z81 := V.Fr.size G80
          try replace Fk2 := Fk2.gr G80
          try replace Fk9 := Fk9.gr G80
          try replace Fk16 := Fk16.gr G80
          try replace Fk35 := Fk35.gr G80
          try replace Fk56 := Fk56.gr G80
          replace HG := HG.grow G80
          clear G80
          refine V.run T_ok 2 rfl ?_
          refine V.splitT (j := 9) (t := 102) rfl rfl (by (grind [maxSt, nextSt, stR])) ?_
          refine V.yes rfl rfl rfl ?_
          refine V.loadO T_ok Fk2 rfl rfl rfl rfl rfl ?_
          refine V.yes rfl rfl rfl ?_
          refine V.loadO T_ok Fk56 rfl rfl rfl rfl rfl ?_
          refine V.yes rfl rfl rfl ?_
          refine V.call (less_spec (a := a) (b := b) (c := (((nextSt a b).1).1)) (d := (((nextSt a b).1).2))) rfl rfl rfl ?_
          rintro _ w82 ⟨rfl, G83⟩
          have z84 := V.Fr.size G83
          try replace Fk2 := Fk2.gr G83
          try replace Fk9 := Fk9.gr G83
          try replace Fk16 := Fk16.gr G83
          try replace Fk35 := Fk35.gr G83
          try replace Fk56 := Fk56.gr G83
          replace HG := HG.grow G83
          clear G83
          refine V.run T_ok 2 rfl ?_
          refine V.splitT (j := 14) (t := 107) rfl rfl (by (grind [maxSt, nextSt, stR])) ?_
          refine V.yes rfl rfl rfl ?_
          refine V.loadO T_ok Fk9 rfl rfl rfl rfl rfl ?_
          refine V.yes rfl rfl rfl ?_
          refine V.call (right_spec (a := c) (b := d)) rfl rfl rfl ?_
          rintro _ w85 ⟨rfl, G86⟩
          have z87 := V.Fr.size G86
          try replace Fk2 := Fk2.gr G86
          try replace Fk9 := Fk9.gr G86
          try replace Fk16 := Fk16.gr G86
          try replace Fk35 := Fk35.gr G86
          try replace Fk56 := Fk56.gr G86
          replace HG := HG.grow G86
          clear G86
          refine V.run T_ok 2 rfl ?_
          refine V.split (j := 18) (t := 111) rfl rfl (fun g16_18 => ?_) (fun g16_18 => ?_)
          ·
            try simp only [decide_eq_true_eq, decide_eq_false_iff_not, Bool.or_eq_true, Bool.and_eq_true, Bool.or_eq_false_iff, Bool.and_eq_false_iff, Bool.not_eq_true', Bool.not_eq_false', Int.not_lt, Int.not_le, Decidable.not_not, V.u8eq, V.S_inj, V.S_lit, V.S_lit2, V.bl] at g16_18
            try simp only [V.mk0, V.mk1, V.mk2, V.mk3] at g16_18
            refine V.run T_ok 13 rfl ?_
            refine V.nil ?_
            refine V.tN ?_
            refine V.ret ?_
            refine V.done rfl ?_
            exact ⟨(congrArg Value.bool (by first | rfl | (grind [maxSt, nextSt, stR]))), HG⟩
          ·
            try simp only [decide_eq_true_eq, decide_eq_false_iff_not, Bool.or_eq_true, Bool.and_eq_true, Bool.or_eq_false_iff, Bool.and_eq_false_iff, Bool.not_eq_true', Bool.not_eq_false', Int.not_lt, Int.not_le, Decidable.not_not, V.u8eq, V.S_inj, V.S_lit, V.S_lit2, V.bl] at g16_18
            try simp only [V.mk0, V.mk1, V.mk2, V.mk3] at g16_18
            refine V.yes rfl rfl rfl ?_
            refine V.loadO T_ok Fk2 rfl rfl rfl rfl rfl ?_
            refine V.yes rfl rfl rfl ?_
            refine V.loadO T_ok Fk9 rfl rfl rfl rfl rfl ?_
            refine V.yes rfl rfl rfl ?_
            refine V.call (less_spec (a := a) (b := b) (c := c) (d := d)) rfl rfl rfl ?_
            rintro _ w88 ⟨rfl, G89⟩
            have z90 := V.Fr.size G89
            try replace Fk2 := Fk2.gr G89
            try replace Fk9 := Fk9.gr G89
            try replace Fk16 := Fk16.gr G89
            try replace Fk35 := Fk35.gr G89
            try replace Fk56 := Fk56.gr G89
            replace HG := HG.grow G89
            clear G89
            refine V.run T_ok 3 rfl ?_
            refine V.split (j := 24) (t := 117) rfl rfl (fun g16_24 => ?_) (fun g16_24 => ?_)
            ·
              try simp only [decide_eq_true_eq, decide_eq_false_iff_not, Bool.or_eq_true, Bool.and_eq_true, Bool.or_eq_false_iff, Bool.and_eq_false_iff, Bool.not_eq_true', Bool.not_eq_false', Int.not_lt, Int.not_le, Decidable.not_not, V.u8eq, V.S_inj, V.S_lit, V.S_lit2, V.bl] at g16_24
              try simp only [V.mk0, V.mk1, V.mk2, V.mk3] at g16_24
              refine V.run T_ok 7 rfl ?_
              refine V.nil ?_
              refine V.tN ?_
              refine V.ret ?_
              refine V.done rfl ?_
              exact ⟨(congrArg Value.bool (by first | rfl | (grind [maxSt, nextSt, stR]))), HG⟩
            ·
              try simp only [decide_eq_true_eq, decide_eq_false_iff_not, Bool.or_eq_true, Bool.and_eq_true, Bool.or_eq_false_iff, Bool.and_eq_false_iff, Bool.not_eq_true', Bool.not_eq_false', Int.not_lt, Int.not_le, Decidable.not_not, V.u8eq, V.S_inj, V.S_lit, V.S_lit2, V.bl] at g16_24
              try simp only [V.mk0, V.mk1, V.mk2, V.mk3] at g16_24
              refine V.yes rfl rfl rfl ?_
              refine V.loadO T_ok Fk9 rfl rfl rfl rfl rfl ?_
              refine V.yes rfl rfl rfl ?_
              refine V.loadO T_ok Fk56 rfl rfl rfl rfl rfl ?_
              refine V.yes rfl rfl rfl ?_
              refine V.call (less_spec (a := c) (b := d) (c := (((nextSt a b).1).1)) (d := (((nextSt a b).1).2))) rfl rfl rfl ?_
              rintro _ w91 ⟨rfl, G92⟩
              have z93 := V.Fr.size G92
              try replace Fk2 := Fk2.gr G92
              try replace Fk9 := Fk9.gr G92
              try replace Fk16 := Fk16.gr G92
              try replace Fk35 := Fk35.gr G92
              try replace Fk56 := Fk56.gr G92
              replace HG := HG.grow G92
              clear G92
              refine V.run T_ok 4 rfl ?_
              refine V.nil ?_
              refine V.tN ?_
              refine V.ret ?_
              refine V.done rfl ?_
              exact ⟨(congrArg Value.bool (by first | rfl | (grind [maxSt, nextSt, stR]))), HG⟩
      ·
        try simp only [decide_eq_true_eq, decide_eq_false_iff_not, Bool.or_eq_true, Bool.and_eq_true, Bool.or_eq_false_iff, Bool.and_eq_false_iff, Bool.not_eq_true', Bool.not_eq_false', Int.not_lt, Int.not_le, Decidable.not_not, V.u8eq, V.S_inj, V.S_lit, V.S_lit2, V.bl] at g11_3
        try simp only [V.mk0, V.mk1, V.mk2, V.mk3] at g11_3
        refine V.run T_ok 5 rfl ?_
        refine V.yes rfl rfl rfl ?_
        refine V.loadO T_ok Fk35 rfl rfl rfl rfl rfl ?_
        refine V.yes rfl rfl rfl ?_
        refine V.loadO T_ok Fk2 rfl rfl rfl rfl rfl ?_
        refine V.yes rfl rfl rfl ?_
        refine V.call (less_spec (a := ((maxSt a b c d).1)) (b := ((maxSt a b c d).2)) (c := a) (d := b)) rfl rfl rfl ?_
        rintro _ w94 ⟨rfl, G95⟩
        have z96 := V.Fr.size G95
        try replace Fk2 := Fk2.gr G95
        try replace Fk9 := Fk9.gr G95
        try replace Fk16 := Fk16.gr G95
        try replace Fk35 := Fk35.gr G95
        replace HG := HG.grow G95
        clear G95
        refine V.run T_ok 2 rfl ?_
        refine V.splitF (j := 13) (t := 70) rfl rfl (by (grind [maxSt, nextSt, stR])) ?_
        refine V.yes rfl rfl rfl ?_
        refine V.loadO T_ok Fk35 rfl rfl rfl rfl rfl ?_
        refine V.yes rfl rfl rfl ?_
        refine V.loadO T_ok Fk9 rfl rfl rfl rfl rfl ?_
        refine V.yes rfl rfl rfl ?_
        refine V.call (less_spec (a := ((maxSt a b c d).1)) (b := ((maxSt a b c d).2)) (c := c) (d := d)) rfl rfl rfl ?_
        rintro _ w97 ⟨rfl, G98⟩
        have z99 := V.Fr.size G98
        try replace Fk2 := Fk2.gr G98
        try replace Fk9 := Fk9.gr G98
        try replace Fk16 := Fk16.gr G98
        try replace Fk35 := Fk35.gr G98
        replace HG := HG.grow G98
        clear G98
        refine V.run T_ok 1 rfl ?_
        refine V.nil ?_
        refine V.tN ?_
        refine V.condN rfl (by (grind [maxSt, nextSt, stR])) ?_
        refine V.skip ?_
        refine V.tN ?_
        refine V.seq ?_
        refine V.region ?_
        refine V.loadO T_ok Fk2 rfl rfl rfl rfl rfl ?_
        refine V.call (snext_spec (a := a) (b := b)) rfl rfl rfl ?_
        rintro _ w100 ⟨rfl, G101⟩
        have z102 := V.Fr.size G101
        try replace Fk2 := Fk2.gr G101
        try replace Fk9 := Fk9.gr G101
        try replace Fk16 := Fk16.gr G101
        try replace Fk35 := Fk35.gr G101
        replace HG := HG.grow G101
        clear G101
        refine V.run T_ok 3 rfl ?_
        refine V.alloc zero23 rfl rfl rfl ?_
        rintro k103 w105 s107 s108 G106 Fk104
        have z109 := V.Fr.size G106
        try replace Fk2 := Fk2.gr G106
        try replace Fk9 := Fk9.gr G106
        try replace Fk16 := Fk16.gr G106
        try replace Fk35 := Fk35.gr G106
        replace HG := HG.grow G106
        clear G106
        try simp only [V.cellsL, V.spliceL] at Fk104
        refine V.storeO Fk104 rfl rfl rfl rfl sz23 rfl rfl rfl rfl ?_
        rintro w110 G111 z113 Fs112
        clear Fk104
        have z114 := V.Fr.size G111
        first | replace Fk2 := Fk2.mv1 G111 (by omega) | clear Fk2 | skip
        first | replace Fk9 := Fk9.mv1 G111 (by omega) | clear Fk9 | skip
        first | replace Fk16 := Fk16.mv1 G111 (by omega) | clear Fk16 | skip
        first | replace Fk35 := Fk35.mv1 G111 (by omega) | clear Fk35 | skip
        replace HG := HG.new1 G111 (by first | (refine Or.inr ?_; omega) | (refine Or.inl ?_; simp; done))
        clear G111
        have Fk104 := Fs112; clear Fs112
        simp only [V.spliceL, V.cellsL] at Fk104
        refine V.run T_ok 1 rfl ?_
        refine V.nil ?_
        refine V.tN ?_
        refine V.seq ?_
        refine V.seq ?_
        refine V.region ?_
        refine V.run T_ok 2 rfl ?_
        refine V.nil ?_
        refine V.tN ?_
        refine V.condT rfl (fun h14 => ?_) (fun h14 => ?_)
        ·
          try simp only [decide_eq_true_eq, decide_eq_false_iff_not, Bool.or_eq_true, Bool.and_eq_true, Bool.or_eq_false_iff, Bool.and_eq_false_iff, Bool.not_eq_true', Bool.not_eq_false', Int.not_lt, Int.not_le, Decidable.not_not, V.u8eq, V.S_inj, V.S_lit, V.S_lit2, V.bl] at h14
          try simp only [V.mk0, V.mk1, V.mk2, V.mk3] at h14
          refine V.seq ?_
          refine V.region ?_
          refine V.call (alive_spec) rfl rfl rfl ?_
          rintro _ w115 ⟨rfl, G116⟩
          have z117 := V.Fr.size G116
          try replace Fk2 := Fk2.gr G116
          try replace Fk9 := Fk9.gr G116
          try replace Fk16 := Fk16.gr G116
          try replace Fk35 := Fk35.gr G116
          try replace Fk104 := Fk104.gr G116
          replace HG := HG.grow G116
          clear G116
          refine V.run T_ok 1 rfl ?_
          refine V.yes rfl rfl rfl ?_
          refine V.loadO T_ok Fk2 rfl rfl rfl rfl rfl ?_
          refine V.yes rfl rfl rfl ?_
          refine V.call (right_spec (a := a) (b := b)) rfl rfl rfl ?_
          rintro _ w118 ⟨rfl, G119⟩
          have z120 := V.Fr.size G119
          try replace Fk2 := Fk2.gr G119
          try replace Fk9 := Fk9.gr G119
          try replace Fk16 := Fk16.gr G119
          try replace Fk35 := Fk35.gr G119
          try replace Fk104 := Fk104.gr G119
          replace HG := HG.grow G119
          clear G119
          refine V.run T_ok 2 rfl ?_
          refine V.split (j := 5) (t := 87) rfl rfl (fun g15_5 => ?_) (fun g15_5 => ?_)
          ·
            try simp only [decide_eq_true_eq, decide_eq_false_iff_not, Bool.or_eq_true, Bool.and_eq_true, Bool.or_eq_false_iff, Bool.and_eq_false_iff, Bool.not_eq_true', Bool.not_eq_false', Int.not_lt, Int.not_le, Decidable.not_not, V.u8eq, V.S_inj, V.S_lit, V.S_lit2, V.bl] at g15_5
            try simp only [V.mk0, V.mk1, V.mk2, V.mk3] at g15_5
            refine V.run T_ok 6 rfl ?_
            refine V.nil ?_
            refine V.tN ?_
            refine V.ret ?_
            refine V.tR ?_
            refine V.done rfl ?_
            exact ⟨(congrArg Value.bool (by first | rfl | (grind [maxSt, nextSt, stR]))), HG⟩
          ·
            try simp only [decide_eq_true_eq, decide_eq_false_iff_not, Bool.or_eq_true, Bool.and_eq_true, Bool.or_eq_false_iff, Bool.and_eq_false_iff, Bool.not_eq_true', Bool.not_eq_false', Int.not_lt, Int.not_le, Decidable.not_not, V.u8eq, V.S_inj, V.S_lit, V.S_lit2, V.bl] at g15_5
            try simp only [V.mk0, V.mk1, V.mk2, V.mk3] at g15_5
            refine V.run T_ok 1 rfl ?_
            refine V.yes rfl rfl rfl ?_
            refine V.loadO T_ok Fk2 rfl rfl rfl rfl rfl ?_
            refine V.run T_ok 4 rfl ?_
            refine V.nil ?_
            refine V.tN ?_
            refine V.ret ?_
            refine V.tR ?_
            refine V.done rfl ?_
            exact ⟨(congrArg Value.bool (by first | rfl | (grind [maxSt, nextSt, stR]))), HG⟩
        ·
          try simp only [decide_eq_true_eq, decide_eq_false_iff_not, Bool.or_eq_true, Bool.and_eq_true, Bool.or_eq_false_iff, Bool.and_eq_false_iff, Bool.not_eq_true', Bool.not_eq_false', Int.not_lt, Int.not_le, Decidable.not_not, V.u8eq, V.S_inj, V.S_lit, V.S_lit2, V.bl] at h14
          try simp only [V.mk0, V.mk1, V.mk2, V.mk3] at h14
          refine V.skip ?_
          refine V.tN ?_
          refine V.seq ?_
          refine V.region ?_
          refine V.call (alive_spec) rfl rfl rfl ?_
          rintro _ w121 ⟨rfl, G122⟩
          have z123 := V.Fr.size G122
          try replace Fk2 := Fk2.gr G122
          try replace Fk9 := Fk9.gr G122
          try replace Fk16 := Fk16.gr G122
          try replace Fk35 := Fk35.gr G122
          try replace Fk104 := Fk104.gr G122
          replace HG := HG.grow G122
          clear G122
          refine V.run T_ok 1 rfl ?_
          refine V.yes rfl rfl rfl ?_
          refine V.loadO T_ok Fk2 rfl rfl rfl rfl rfl ?_
          refine V.yes rfl rfl rfl ?_
          refine V.call (right_spec (a := a) (b := b)) rfl rfl rfl ?_
          rintro _ w124 ⟨rfl, G125⟩
          have z126 := V.Fr.size G125
          try replace Fk2 := Fk2.gr G125
          try replace Fk9 := Fk9.gr G125
          try replace Fk16 := Fk16.gr G125
          try replace Fk35 := Fk35.gr G125
          try replace Fk104 := Fk104.gr G125
          replace HG := HG.grow G125
          clear G125
          refine V.run T_ok 2 rfl ?_
          refine V.splitT (j := 5) (t := 98) rfl rfl (by (grind [maxSt, nextSt, stR])) ?_
          refine V.yes rfl rfl rfl ?_
          refine V.loadO T_ok Fk104 rfl rfl rfl rfl rfl ?_
          refine V.yes rfl rfl rfl ?_
          refine V.call (right_spec (a := (((nextSt a b).1).1)) (b := (((nextSt a b).1).2))) rfl rfl rfl ?_
          rintro _ w127 ⟨rfl, G128⟩
          have z129 := V.Fr.size G128
          try replace Fk2 := Fk2.gr G128
          try replace Fk9 := Fk9.gr G128
          try replace Fk16 := Fk16.gr G128
          try replace Fk35 := Fk35.gr G128
          try replace Fk104 := Fk104.gr G128
          replace HG := HG.grow G128
          clear G128
          refine V.run T_ok 2 rfl ?_
          refine V.splitT (j := 9) (t := 102) rfl rfl (by (grind [maxSt, nextSt, stR])) ?_
          refine V.yes rfl rfl rfl ?_
          refine V.loadO T_ok Fk2 rfl rfl rfl rfl rfl ?_
          refine V.yes rfl rfl rfl ?_
          refine V.loadO T_ok Fk104 rfl rfl rfl rfl rfl ?_
          refine V.yes rfl rfl rfl ?_
          refine V.call (less_spec (a := a) (b := b) (c := (((nextSt a b).1).1)) (d := (((nextSt a b).1).2))) rfl rfl rfl ?_
          rintro _ w130 ⟨rfl, G131⟩
          have z132 := V.Fr.size G131
          try replace Fk2 := Fk2.gr G131
          try replace Fk9 := Fk9.gr G131
          try replace Fk16 := Fk16.gr G131
          try replace Fk35 := Fk35.gr G131
          try replace Fk104 := Fk104.gr G131
          replace HG := HG.grow G131
          clear G131
          refine V.run T_ok 2 rfl ?_
          refine V.splitT (j := 14) (t := 107) rfl rfl (by (grind [maxSt, nextSt, stR])) ?_
          refine V.yes rfl rfl rfl ?_
          refine V.loadO T_ok Fk9 rfl rfl rfl rfl rfl ?_
          refine V.yes rfl rfl rfl ?_
          refine V.call (right_spec (a := c) (b := d)) rfl rfl rfl ?_
          rintro _ w133 ⟨rfl, G134⟩
          have z135 := V.Fr.size G134
          try replace Fk2 := Fk2.gr G134
          try replace Fk9 := Fk9.gr G134
          try replace Fk16 := Fk16.gr G134
          try replace Fk35 := Fk35.gr G134
          try replace Fk104 := Fk104.gr G134
          replace HG := HG.grow G134
          clear G134
          refine V.run T_ok 2 rfl ?_
          refine V.split (j := 18) (t := 111) rfl rfl (fun g16_18 => ?_) (fun g16_18 => ?_)
          ·
            try simp only [decide_eq_true_eq, decide_eq_false_iff_not, Bool.or_eq_true, Bool.and_eq_true, Bool.or_eq_false_iff, Bool.and_eq_false_iff, Bool.not_eq_true', Bool.not_eq_false', Int.not_lt, Int.not_le, Decidable.not_not, V.u8eq, V.S_inj, V.S_lit, V.S_lit2, V.bl] at g16_18
            try simp only [V.mk0, V.mk1, V.mk2, V.mk3] at g16_18
            refine V.run T_ok 13 rfl ?_
            refine V.nil ?_
            refine V.tN ?_
            refine V.ret ?_
            refine V.done rfl ?_
            exact ⟨(congrArg Value.bool (by first | rfl | (grind [maxSt, nextSt, stR]))), HG⟩
          ·
            try simp only [decide_eq_true_eq, decide_eq_false_iff_not, Bool.or_eq_true, Bool.and_eq_true, Bool.or_eq_false_iff, Bool.and_eq_false_iff, Bool.not_eq_true', Bool.not_eq_false', Int.not_lt, Int.not_le, Decidable.not_not, V.u8eq, V.S_inj, V.S_lit, V.S_lit2, V.bl] at g16_18
            try simp only [V.mk0, V.mk1, V.mk2, V.mk3] at g16_18
            refine V.yes rfl rfl rfl ?_
            refine V.loadO T_ok Fk2 rfl rfl rfl rfl rfl ?_
            refine V.yes rfl rfl rfl ?_
            refine V.loadO T_ok Fk9 rfl rfl rfl rfl rfl ?_
            refine V.yes rfl rfl rfl ?_
            refine V.call (less_spec (a := a) (b := b) (c := c) (d := d)) rfl rfl rfl ?_
            rintro _ w136 ⟨rfl, G137⟩
            have z138 := V.Fr.size G137
            try replace Fk2 := Fk2.gr G137
            try replace Fk9 := Fk9.gr G137
            try replace Fk16 := Fk16.gr G137
            try replace Fk35 := Fk35.gr G137
            try replace Fk104 := Fk104.gr G137
            replace HG := HG.grow G137
            clear G137
            refine V.run T_ok 3 rfl ?_
            refine V.split (j := 24) (t := 117) rfl rfl (fun g16_24 => ?_) (fun g16_24 => ?_)
            ·
              try simp only [decide_eq_true_eq, decide_eq_false_iff_not, Bool.or_eq_true, Bool.and_eq_true, Bool.or_eq_false_iff, Bool.and_eq_false_iff, Bool.not_eq_true', Bool.not_eq_false', Int.not_lt, Int.not_le, Decidable.not_not, V.u8eq, V.S_inj, V.S_lit, V.S_lit2, V.bl] at g16_24
              try simp only [V.mk0, V.mk1, V.mk2, V.mk3] at g16_24
              refine V.run T_ok 7 rfl ?_
              refine V.nil ?_
              refine V.tN ?_
              refine V.ret ?_
              refine V.done rfl ?_
              exact ⟨(congrArg Value.bool (by first | rfl | (grind [maxSt, nextSt, stR]))), HG⟩
            ·
              try simp only [decide_eq_true_eq, decide_eq_false_iff_not, Bool.or_eq_true, Bool.and_eq_true, Bool.or_eq_false_iff, Bool.and_eq_false_iff, Bool.not_eq_true', Bool.not_eq_false', Int.not_lt, Int.not_le, Decidable.not_not, V.u8eq, V.S_inj, V.S_lit, V.S_lit2, V.bl] at g16_24
              try simp only [V.mk0, V.mk1, V.mk2, V.mk3] at g16_24
              refine V.yes rfl rfl rfl ?_
              refine V.loadO T_ok Fk9 rfl rfl rfl rfl rfl ?_
              refine V.yes rfl rfl rfl ?_
              refine V.loadO T_ok Fk104 rfl rfl rfl rfl rfl ?_
              refine V.yes rfl rfl rfl ?_
              refine V.call (less_spec (a := c) (b := d) (c := (((nextSt a b).1).1)) (d := (((nextSt a b).1).2))) rfl rfl rfl ?_
              rintro _ w139 ⟨rfl, G140⟩
              have z141 := V.Fr.size G140
              try replace Fk2 := Fk2.gr G140
              try replace Fk9 := Fk9.gr G140
              try replace Fk16 := Fk16.gr G140
              try replace Fk35 := Fk35.gr G140
              try replace Fk104 := Fk104.gr G140
              replace HG := HG.grow G140
              clear G140
              refine V.run T_ok 4 rfl ?_
              refine V.nil ?_
              refine V.tN ?_
              refine V.ret ?_
              refine V.done rfl ?_
              exact ⟨(congrArg Value.bool (by first | rfl | (grind [maxSt, nextSt, stR]))), HG⟩
    ·
      try simp only [decide_eq_true_eq, decide_eq_false_iff_not, Bool.or_eq_true, Bool.and_eq_true, Bool.or_eq_false_iff, Bool.and_eq_false_iff, Bool.not_eq_true', Bool.not_eq_false', Int.not_lt, Int.not_le, Decidable.not_not, V.u8eq, V.S_inj, V.S_lit, V.S_lit2, V.bl] at g8_11
      try simp only [V.mk0, V.mk1, V.mk2, V.mk3] at g8_11
      refine V.qrun T_ok 7 rfl ?_
      refine V.qyes rfl rfl rfl ?_
      refine V.qloadO T_ok Fk2 rfl rfl rfl rfl rfl ?_
      refine V.qyes rfl rfl rfl ?_
      refine V.qloadO T_ok Fk9 rfl rfl rfl rfl rfl ?_
      refine V.qyes rfl rfl rfl ?_
      refine V.qcall V.clo (fun w1 g => (compare_spec (a := a) (b := b) (c := c) (d := d))) rfl rfl rfl ?_
      refine V.qyes rfl rfl rfl ?_
      refine V.qloadO T_ok Fk9 rfl rfl rfl rfl rfl ?_
      refine V.qyes rfl rfl rfl ?_
      refine V.qloadO T_ok Fk2 rfl rfl rfl rfl rfl ?_
      refine V.qyes rfl rfl rfl ?_
      refine V.qcall V.clo (fun w1 g => (compare_spec (a := c) (b := d) (c := a) (d := b))) rfl rfl rfl ?_
      refine V.qrun T_ok 3 rfl ?_
      refine V.qnil ?_
      rintro w142 G143
      have z144 := V.Fr.size G143
      try replace Fk2 := Fk2.gr G143
      try replace Fk9 := Fk9.gr G143
      try replace Fk16 := Fk16.gr G143
      replace HG := HG.grow G143
      clear G143
      refine V.tN ?_
      refine V.condN rfl (by (rw [cmpS_neg]; simp)) ?_
      refine V.skip ?_
      refine V.tN ?_
      refine V.seq ?_
      refine V.region ?_
      refine V.loadO T_ok Fk2 rfl rfl rfl rfl rfl ?_
      refine V.loadO T_ok Fk9 rfl rfl rfl rfl rfl ?_
      refine V.call (max_spec (a := a) (b := b) (c := c) (d := d)) rfl rfl rfl ?_
      rintro _ w145 ⟨rfl, G146⟩
      have z147 := V.Fr.size G146
      try replace Fk2 := Fk2.gr G146
      try replace Fk9 := Fk9.gr G146
      try replace Fk16 := Fk16.gr G146
      replace HG := HG.grow G146
      clear G146
      refine V.alloc zero23 rfl rfl rfl ?_
      rintro k148 w150 s152 s153 G151 Fk149
      have z154 := V.Fr.size G151
      try replace Fk2 := Fk2.gr G151
      try replace Fk9 := Fk9.gr G151
      try replace Fk16 := Fk16.gr G151
      replace HG := HG.grow G151
      clear G151
      try simp only [V.cellsL, V.spliceL] at Fk149
      refine V.storeO Fk149 rfl rfl rfl rfl sz23 rfl rfl rfl rfl ?_
      rintro w155 G156 z158 Fs157
      clear Fk149
      have z159 := V.Fr.size G156
      first | replace Fk2 := Fk2.mv1 G156 (by omega) | clear Fk2 | skip
      first | replace Fk9 := Fk9.mv1 G156 (by omega) | clear Fk9 | skip
      first | replace Fk16 := Fk16.mv1 G156 (by omega) | clear Fk16 | skip
      replace HG := HG.new1 G156 (by first | (refine Or.inr ?_; omega) | (refine Or.inl ?_; simp; done))
      clear G156
      have Fk149 := Fs157; clear Fs157
      simp only [V.spliceL, V.cellsL] at Fk149
      refine V.nil ?_
      refine V.tN ?_
      refine V.seq ?_
      refine V.seq ?_
      refine V.region ?_
      refine V.loadO T_ok Fk149 rfl rfl rfl rfl rfl ?_
      refine V.loadO T_ok Fk2 rfl rfl rfl rfl rfl ?_
      refine V.step rfl rfl (V.neA_run rfl rfl rfl eqG23 (eqS23 _)) ?_
      refine V.run T_ok 1 rfl ?_
      refine V.split (j := 3) (t := 60) rfl rfl (fun g11_3 => ?_) (fun g11_3 => ?_)
      ·
        try simp only [decide_eq_true_eq, decide_eq_false_iff_not, Bool.or_eq_true, Bool.and_eq_true, Bool.or_eq_false_iff, Bool.and_eq_false_iff, Bool.not_eq_true', Bool.not_eq_false', Int.not_lt, Int.not_le, Decidable.not_not, V.u8eq, V.S_inj, V.S_lit, V.S_lit2, V.bl] at g11_3
        try simp only [V.mk0, V.mk1, V.mk2, V.mk3] at g11_3
        refine V.yes rfl rfl rfl ?_
        refine V.loadO T_ok Fk149 rfl rfl rfl rfl rfl ?_
        refine V.yes rfl rfl rfl ?_
        refine V.loadO T_ok Fk9 rfl rfl rfl rfl rfl ?_
        refine V.yes rfl rfl rfl ?_
        refine V.step rfl rfl (V.neA_run rfl rfl rfl eqG23 (eqS23 _)) ?_
        refine V.run T_ok 2 rfl ?_
        refine V.splitF (j := 8) (t := 65) rfl rfl (by (grind [maxSt, nextSt, stR])) ?_
        refine V.yes rfl rfl rfl ?_
        refine V.loadO T_ok Fk149 rfl rfl rfl rfl rfl ?_
        refine V.yes rfl rfl rfl ?_
        refine V.loadO T_ok Fk2 rfl rfl rfl rfl rfl ?_
        refine V.yes rfl rfl rfl ?_
        refine V.call (less_spec (a := ((maxSt a b c d).1)) (b := ((maxSt a b c d).2)) (c := a) (d := b)) rfl rfl rfl ?_
        rintro _ w160 ⟨rfl, G161⟩
        have z162 := V.Fr.size G161
        try replace Fk2 := Fk2.gr G161
        try replace Fk9 := Fk9.gr G161
        try replace Fk16 := Fk16.gr G161
        try replace Fk149 := Fk149.gr G161
        replace HG := HG.grow G161
        clear G161
        refine V.run T_ok 2 rfl ?_
        refine V.splitF (j := 13) (t := 70) rfl rfl (by (grind [maxSt, nextSt, stR])) ?_
        refine V.yes rfl rfl rfl ?_
        refine V.loadO T_ok Fk149 rfl rfl rfl rfl rfl ?_
        refine V.yes rfl rfl rfl ?_
        refine V.loadO T_ok Fk9 rfl rfl rfl rfl rfl ?_
        refine V.yes rfl rfl rfl ?_
        refine V.call (less_spec (a := ((maxSt a b c d).1)) (b := ((maxSt a b c d).2)) (c := c) (d := d)) rfl rfl rfl ?_
        rintro _ w163 ⟨rfl, G164⟩
        have z165 := V.Fr.size G164
        try replace Fk2 := Fk2.gr G164
        try replace Fk9 := Fk9.gr G164
        try replace Fk16 := Fk16.gr G164
        try replace Fk149 := Fk149.gr G164
        replace HG := HG.grow G164
        clear G164
        refine V.run T_ok 1 rfl ?_
        refine V.nil ?_
        refine V.tN ?_
        refine V.condN rfl (by (grind [maxSt, nextSt, stR])) ?_
        refine V.skip ?_
        refine V.tN ?_
        refine V.seq ?_
        refine V.region ?_
        refine V.loadO T_ok Fk2 rfl rfl rfl rfl rfl ?_
        refine V.call (snext_spec (a := a) (b := b)) rfl rfl rfl ?_
        rintro _ w166 ⟨rfl, G167⟩
        have z168 := V.Fr.size G167
        try replace Fk2 := Fk2.gr G167
        try replace Fk9 := Fk9.gr G167
        try replace Fk16 := Fk16.gr G167
        try replace Fk149 := Fk149.gr G167
        replace HG := HG.grow G167
        clear G167
        refine V.run T_ok 3 rfl ?_
        refine V.alloc zero23 rfl rfl rfl ?_
        rintro k169 w171 s173 s174 G172 Fk170
        have z175 := V.Fr.size G172
        try replace Fk2 := Fk2.gr G172
        try replace Fk9 := Fk9.gr G172
        try replace Fk16 := Fk16.gr G172
        try replace Fk149 := Fk149.gr G172
        replace HG := HG.grow G172
        clear G172
        try simp only [V.cellsL, V.spliceL] at Fk170
        refine V.storeO Fk170 rfl rfl rfl rfl sz23 rfl rfl rfl rfl ?_
        rintro w176 G177 z179 Fs178
        clear Fk170
        have z180 := V.Fr.size G177
        first | replace Fk2 := Fk2.mv1 G177 (by omega) | clear Fk2 | skip
        first | replace Fk9 := Fk9.mv1 G177 (by omega) | clear Fk9 | skip
        first | replace Fk16 := Fk16.mv1 G177 (by omega) | clear Fk16 | skip
        first | replace Fk149 := Fk149.mv1 G177 (by omega) | clear Fk149 | skip
        replace HG := HG.new1 G177 (by first | (refine Or.inr ?_; omega) | (refine Or.inl ?_; simp; done))
        clear G177
        have Fk170 := Fs178; clear Fs178
        simp only [V.spliceL, V.cellsL] at Fk170
        refine V.run T_ok 1 rfl ?_
        refine V.nil ?_
        refine V.tN ?_
        refine V.seq ?_
        refine V.seq ?_
        refine V.region ?_
        refine V.run T_ok 2 rfl ?_
        refine V.nil ?_
        refine V.tN ?_
        refine V.condT rfl (fun h14 => ?_) (fun h14 => ?_)
        ·
          try simp only [decide_eq_true_eq, decide_eq_false_iff_not, Bool.or_eq_true, Bool.and_eq_true, Bool.or_eq_false_iff, Bool.and_eq_false_iff, Bool.not_eq_true', Bool.not_eq_false', Int.not_lt, Int.not_le, Decidable.not_not, V.u8eq, V.S_inj, V.S_lit, V.S_lit2, V.bl] at h14
          try simp only [V.mk0, V.mk1, V.mk2, V.mk3] at h14
          refine V.seq ?_
          refine V.region ?_
          refine V.call (alive_spec) rfl rfl rfl ?_
          rintro _ w181 ⟨rfl, G182⟩
          have z183 := V.Fr.size G182
          try replace Fk2 := Fk2.gr G182
          try replace Fk9 := Fk9.gr G182
          try replace Fk16 := Fk16.gr G182
          try replace Fk149 := Fk149.gr G182
          try replace Fk170 := Fk170.gr G182
          replace HG := HG.grow G182
          clear G182
          refine V.run T_ok 1 rfl ?_
          refine V.yes rfl rfl rfl ?_
          refine V.loadO T_ok Fk2 rfl rfl rfl rfl rfl ?_
          refine V.yes rfl rfl rfl ?_
          refine V.call (right_spec (a := a) (b := b)) rfl rfl rfl ?_
          rintro _ w184 ⟨rfl, G185⟩
          have z186 := V.Fr.size G185
          try replace Fk2 := Fk2.gr G185
          try replace Fk9 := Fk9.gr G185
          try replace Fk16 := Fk16.gr G185
          try replace Fk149 := Fk149.gr G185
          try replace Fk170 := Fk170.gr G185
          replace HG := HG.grow G185
          clear G185
          refine V.run T_ok 2 rfl ?_
          refine V.split (j := 5) (t := 87) rfl rfl (fun g15_5 => ?_) (fun g15_5 => ?_)
          ·
            try simp only [decide_eq_true_eq, decide_eq_false_iff_not, Bool.or_eq_true, Bool.and_eq_true, Bool.or_eq_false_iff, Bool.and_eq_false_iff, Bool.not_eq_true', Bool.not_eq_false', Int.not_lt, Int.not_le, Decidable.not_not, V.u8eq, V.S_inj, V.S_lit, V.S_lit2, V.bl] at g15_5
            try simp only [V.mk0, V.mk1, V.mk2, V.mk3] at g15_5
            refine V.run T_ok 6 rfl ?_
            refine V.nil ?_
            refine V.tN ?_
            refine V.ret ?_
            refine V.tR ?_
            refine V.done rfl ?_
            exact ⟨(congrArg Value.bool (by first | rfl | (grind [maxSt, nextSt, stR]))), HG⟩
          ·
            try simp only [decide_eq_true_eq, decide_eq_false_iff_not, Bool.or_eq_true, Bool.and_eq_true, Bool.or_eq_false_iff, Bool.and_eq_false_iff, Bool.not_eq_true', Bool.not_eq_false', Int.not_lt, Int.not_le, Decidable.not_not, V.u8eq, V.S_inj, V.S_lit, V.S_lit2, V.bl] at g15_5
            try simp only [V.mk0, V.mk1, V.mk2, V.mk3] at g15_5
            refine V.run T_ok 1 rfl ?_
            refine V.yes rfl rfl rfl ?_
            refine V.loadO T_ok Fk2 rfl rfl rfl rfl rfl ?_
            refine V.run T_ok 4 rfl ?_
            refine V.nil ?_
            refine V.tN ?_
            refine V.ret ?_
            refine V.tR ?_
            refine V.done rfl ?_
            exact ⟨(congrArg Value.bool (by first | rfl | (grind [maxSt, nextSt, stR]))), HG⟩
        ·
          try simp only [decide_eq_true_eq, decide_eq_false_iff_not, Bool.or_eq_true, Bool.and_eq_true, Bool.or_eq_false_iff, Bool.and_eq_false_iff, Bool.not_eq_true', Bool.not_eq_false', Int.not_lt, Int.not_le, Decidable.not_not, V.u8eq, V.S_inj, V.S_lit, V.S_lit2, V.bl] at h14
          try simp only [V.mk0, V.mk1, V.mk2, V.mk3] at h14
          refine V.skip ?_
          refine V.tN ?_
          refine V.seq ?_
          refine V.region ?_
          refine V.call (alive_spec) rfl rfl rfl ?_
          rintro _ w187 ⟨rfl, G188⟩
          have z189 := V.Fr.size G188
          try replace Fk2 := Fk2.gr G188
          try replace Fk9 := Fk9.gr G188
          try replace Fk16 := Fk16.gr G188
          try replace Fk149 := Fk149.gr G188
          try replace Fk170 := Fk170.gr G188
          replace HG := HG.grow G188
          clear G188
          refine V.run T_ok 1 rfl ?_
          refine V.yes rfl rfl rfl ?_
          refine V.loadO T_ok Fk2 rfl rfl rfl rfl rfl ?_
          refine V.yes rfl rfl rfl ?_
          refine V.call (right_spec (a := a) (b := b)) rfl rfl rfl ?_
          rintro _ w190 ⟨rfl, G191⟩
          have z192 := V.Fr.size G191
          try replace Fk2 := Fk2.gr G191
          try replace Fk9 := Fk9.gr G191
          try replace Fk16 := Fk16.gr G191
          try replace Fk149 := Fk149.gr G191
          try replace Fk170 := Fk170.gr G191
          replace HG := HG.grow G191
          clear G191
          refine V.run T_ok 2 rfl ?_
          refine V.splitT (j := 5) (t := 98) rfl rfl (by (grind [maxSt, nextSt, stR])) ?_
          refine V.yes rfl rfl rfl ?_
          refine V.loadO T_ok Fk170 rfl rfl rfl rfl rfl ?_
          refine V.yes rfl rfl rfl ?_
          refine V.call (right_spec (a := (((nextSt a b).1).1)) (b := (((nextSt a b).1).2))) rfl rfl rfl ?_
          rintro _ w193 ⟨rfl, G194⟩
          have z195 := V.Fr.size G194
          try replace Fk2 := Fk2.gr G194
          try replace Fk9 := Fk9.gr G194
          try replace Fk16 := Fk16.gr G194
          try replace Fk149 := Fk149.gr G194
          try replace Fk170 := Fk170.gr G194
          replace HG := HG.grow G194
          clear G194
          refine V.run T_ok 2 rfl ?_
          refine V.splitT (j := 9) (t := 102) rfl rfl (by (grind [maxSt, nextSt, stR])) ?_
          refine V.yes rfl rfl rfl ?_
          refine V.loadO T_ok Fk2 rfl rfl rfl rfl rfl ?_
          refine V.yes rfl rfl rfl ?_
          refine V.loadO T_ok Fk170 rfl rfl rfl rfl rfl ?_
          refine V.yes rfl rfl rfl ?_
          refine V.call (less_spec (a := a) (b := b) (c := (((nextSt a b).1).1)) (d := (((nextSt a b).1).2))) rfl rfl rfl ?_
          rintro _ w196 ⟨rfl, G197⟩
          have z198 := V.Fr.size G197
          try replace Fk2 := Fk2.gr G197
          try replace Fk9 := Fk9.gr G197
          try replace Fk16 := Fk16.gr G197
          try replace Fk149 := Fk149.gr G197
          try replace Fk170 := Fk170.gr G197
          replace HG := HG.grow G197
          clear G197
          refine V.run T_ok 2 rfl ?_
          refine V.splitT (j := 14) (t := 107) rfl rfl (by (grind [maxSt, nextSt, stR])) ?_
          refine V.yes rfl rfl rfl ?_
          refine V.loadO T_ok Fk9 rfl rfl rfl rfl rfl ?_
          refine V.yes rfl rfl rfl ?_
          refine V.call (right_spec (a := c) (b := d)) rfl rfl rfl ?_
          rintro _ w199 ⟨rfl, G200⟩
          have z201 := V.Fr.size G200
          try replace Fk2 := Fk2.gr G200
          try replace Fk9 := Fk9.gr G200
          try replace Fk16 := Fk16.gr G200
          try replace Fk149 := Fk149.gr G200
          try replace Fk170 := Fk170.gr G200
          replace HG := HG.grow G200
          clear G200
          refine V.run T_ok 2 rfl ?_
          refine V.split (j := 18) (t := 111) rfl rfl (fun g16_18 => ?_) (fun g16_18 => ?_)
          ·
            try simp only [decide_eq_true_eq, decide_eq_false_iff_not, Bool.or_eq_true, Bool.and_eq_true, Bool.or_eq_false_iff, Bool.and_eq_false_iff, Bool.not_eq_true', Bool.not_eq_false', Int.not_lt, Int.not_le, Decidable.not_not, V.u8eq, V.S_inj, V.S_lit, V.S_lit2, V.bl] at g16_18
            try simp only [V.mk0, V.mk1, V.mk2, V.mk3] at g16_18
            refine V.run T_ok 13 rfl ?_
            refine V.nil ?_
            refine V.tN ?_
            refine V.ret ?_
            refine V.done rfl ?_
            exact ⟨(congrArg Value.bool (by first | rfl | (grind [maxSt, nextSt, stR]))), HG⟩
          ·
            try simp only [decide_eq_true_eq, decide_eq_false_iff_not, Bool.or_eq_true, Bool.and_eq_true, Bool.or_eq_false_iff, Bool.and_eq_false_iff, Bool.not_eq_true', Bool.not_eq_false', Int.not_lt, Int.not_le, Decidable.not_not, V.u8eq, V.S_inj, V.S_lit, V.S_lit2, V.bl] at g16_18
            try simp only [V.mk0, V.mk1, V.mk2, V.mk3] at g16_18
            refine V.yes rfl rfl rfl ?_
            refine V.loadO T_ok Fk2 rfl rfl rfl rfl rfl ?_
            refine V.yes rfl rfl rfl ?_
            refine V.loadO T_ok Fk9 rfl rfl rfl rfl rfl ?_
            refine V.yes rfl rfl rfl ?_
            refine V.call (less_spec (a := a) (b := b) (c := c) (d := d)) rfl rfl rfl ?_
            rintro _ w202 ⟨rfl, G203⟩
            have z204 := V.Fr.size G203
            try replace Fk2 := Fk2.gr G203
            try replace Fk9 := Fk9.gr G203
            try replace Fk16 := Fk16.gr G203
            try replace Fk149 := Fk149.gr G203
            try replace Fk170 := Fk170.gr G203
            replace HG := HG.grow G203
            clear G203
            refine V.run T_ok 3 rfl ?_
            refine V.split (j := 24) (t := 117) rfl rfl (fun g16_24 => ?_) (fun g16_24 => ?_)
            ·
              try simp only [decide_eq_true_eq, decide_eq_false_iff_not, Bool.or_eq_true, Bool.and_eq_true, Bool.or_eq_false_iff, Bool.and_eq_false_iff, Bool.not_eq_true', Bool.not_eq_false', Int.not_lt, Int.not_le, Decidable.not_not, V.u8eq, V.S_inj, V.S_lit, V.S_lit2, V.bl] at g16_24
              try simp only [V.mk0, V.mk1, V.mk2, V.mk3] at g16_24
              refine V.run T_ok 7 rfl ?_
              refine V.nil ?_
              refine V.tN ?_
              refine V.ret ?_
              refine V.done rfl ?_
              exact ⟨(congrArg Value.bool (by first | rfl | (grind [maxSt, nextSt, stR]))), HG⟩
            ·
              try simp only [decide_eq_true_eq, decide_eq_false_iff_not, Bool.or_eq_true, Bool.and_eq_true, Bool.or_eq_false_iff, Bool.and_eq_false_iff, Bool.not_eq_true', Bool.not_eq_false', Int.not_lt, Int.not_le, Decidable.not_not, V.u8eq, V.S_inj, V.S_lit, V.S_lit2, V.bl] at g16_24
              try simp only [V.mk0, V.mk1, V.mk2, V.mk3] at g16_24
              refine V.yes rfl rfl rfl ?_
              refine V.loadO T_ok Fk9 rfl rfl rfl rfl rfl ?_
              refine V.yes rfl rfl rfl ?_
              refine V.loadO T_ok Fk170 rfl rfl rfl rfl rfl ?_
              refine V.yes rfl rfl rfl ?_
              refine V.call (less_spec (a := c) (b := d) (c := (((nextSt a b).1).1)) (d := (((nextSt a b).1).2))) rfl rfl rfl ?_
              rintro _ w205 ⟨rfl, G206⟩
              have z207 := V.Fr.size G206
              try replace Fk2 := Fk2.gr G206
              try replace Fk9 := Fk9.gr G206
              try replace Fk16 := Fk16.gr G206
              try replace Fk149 := Fk149.gr G206
              try replace Fk170 := Fk170.gr G206
              replace HG := HG.grow G206
              clear G206
              refine V.run T_ok 4 rfl ?_
              refine V.nil ?_
              refine V.tN ?_
              refine V.ret ?_
              refine V.done rfl ?_
              exact ⟨(congrArg Value.bool (by first | rfl | (grind [maxSt, nextSt, stR]))), HG⟩
      ·
        try simp only [decide_eq_true_eq, decide_eq_false_iff_not, Bool.or_eq_true, Bool.and_eq_true, Bool.or_eq_false_iff, Bool.and_eq_false_iff, Bool.not_eq_true', Bool.not_eq_false', Int.not_lt, Int.not_le, Decidable.not_not, V.u8eq, V.S_inj, V.S_lit, V.S_lit2, V.bl] at g11_3
        try simp only [V.mk0, V.mk1, V.mk2, V.mk3] at g11_3
        refine V.run T_ok 5 rfl ?_
        refine V.yes rfl rfl rfl ?_
        refine V.loadO T_ok Fk149 rfl rfl rfl rfl rfl ?_
        refine V.yes rfl rfl rfl ?_
        refine V.loadO T_ok Fk2 rfl rfl rfl rfl rfl ?_
        refine V.yes rfl rfl rfl ?_
        refine V.call (less_spec (a := ((maxSt a b c d).1)) (b := ((maxSt a b c d).2)) (c := a) (d := b)) rfl rfl rfl ?_
        rintro _ w208 ⟨rfl, G209⟩
        have z210 := V.Fr.size G209
        try replace Fk2 := Fk2.gr G209
        try replace Fk9 := Fk9.gr G209
        try replace Fk16 := Fk16.gr G209
        try replace Fk149 := Fk149.gr G209
        replace HG := HG.grow G209
        clear G209
        refine V.run T_ok 2 rfl ?_
        refine V.splitF (j := 13) (t := 70) rfl rfl (by (grind [maxSt, nextSt, stR])) ?_
        refine V.yes rfl rfl rfl ?_
        refine V.loadO T_ok Fk149 rfl rfl rfl rfl rfl ?_
        refine V.yes rfl rfl rfl ?_
        refine V.loadO T_ok Fk9 rfl rfl rfl rfl rfl ?_
        refine V.yes rfl rfl rfl ?_
        refine V.call (less_spec (a := ((maxSt a b c d).1)) (b := ((maxSt a b c d).2)) (c := c) (d := d)) rfl rfl rfl ?_
        rintro _ w211 ⟨rfl, G212⟩
        have z213 := V.Fr.size G212
        try replace Fk2 := Fk2.gr G212
        try replace Fk9 := Fk9.gr G212
        try replace Fk16 := Fk16.gr G212
        try replace Fk149 := Fk149.gr G212
        replace HG := HG.grow G212
        clear G212
        refine V.run T_ok 1 rfl ?_
        refine V.nil ?_
        refine V.tN ?_
        refine V.condN rfl (by (grind [maxSt, nextSt, stR])) ?_
        refine V.skip ?_
        refine V.tN ?_
        refine V.seq ?_
        refine V.region ?_
        refine V.loadO T_ok Fk2 rfl rfl rfl rfl rfl ?_
        refine V.call (snext_spec (a := a) (b := b)) rfl rfl rfl ?_
        rintro _ w214 ⟨rfl, G215⟩
        have z216 := V.Fr.size G215
        try replace Fk2 := Fk2.gr G215
        try replace Fk9 := Fk9.gr G215
        try replace Fk16 := Fk16.gr G215
        try replace Fk149 := Fk149.gr G215
        replace HG := HG.grow G215
        clear G215
        refine V.run T_ok 3 rfl ?_
        refine V.alloc zero23 rfl rfl rfl ?_
        rintro k217 w219 s221 s222 G220 Fk218
        have z223 := V.Fr.size G220
        try replace Fk2 := Fk2.gr G220
        try replace Fk9 := Fk9.gr G220
        try replace Fk16 := Fk16.gr G220
        try replace Fk149 := Fk149.gr G220
        replace HG := HG.grow G220
        clear G220
        try simp only [V.cellsL, V.spliceL] at Fk218
        refine V.storeO Fk218 rfl rfl rfl rfl sz23 rfl rfl rfl rfl ?_
        rintro w224 G225 z227 Fs226
        clear Fk218
        have z228 := V.Fr.size G225
        first | replace Fk2 := Fk2.mv1 G225 (by omega) | clear Fk2 | skip
        first | replace Fk9 := Fk9.mv1 G225 (by omega) | clear Fk9 | skip
        first | replace Fk16 := Fk16.mv1 G225 (by omega) | clear Fk16 | skip
        first | replace Fk149 := Fk149.mv1 G225 (by omega) | clear Fk149 | skip
        replace HG := HG.new1 G225 (by first | (refine Or.inr ?_; omega) | (refine Or.inl ?_; simp; done))
        clear G225
        have Fk218 := Fs226; clear Fs226
        simp only [V.spliceL, V.cellsL] at Fk218
        refine V.run T_ok 1 rfl ?_
        refine V.nil ?_
        refine V.tN ?_
        refine V.seq ?_
        refine V.seq ?_
        refine V.region ?_
        refine V.run T_ok 2 rfl ?_
        refine V.nil ?_
        refine V.tN ?_
        refine V.condT rfl (fun h14 => ?_) (fun h14 => ?_)
        ·
          try simp only [decide_eq_true_eq, decide_eq_false_iff_not, Bool.or_eq_true, Bool.and_eq_true, Bool.or_eq_false_iff, Bool.and_eq_false_iff, Bool.not_eq_true', Bool.not_eq_false', Int.not_lt, Int.not_le, Decidable.not_not, V.u8eq, V.S_inj, V.S_lit, V.S_lit2, V.bl] at h14
          try simp only [V.mk0, V.mk1, V.mk2, V.mk3] at h14
          refine V.seq ?_
          refine V.region ?_
          refine V.call (alive_spec) rfl rfl rfl ?_
          rintro _ w229 ⟨rfl, G230⟩
          have z231 := V.Fr.size G230
          try replace Fk2 := Fk2.gr G230
          try replace Fk9 := Fk9.gr G230
          try replace Fk16 := Fk16.gr G230
          try replace Fk149 := Fk149.gr G230
          try replace Fk218 := Fk218.gr G230
          replace HG := HG.grow G230
          clear G230
          refine V.run T_ok 1 rfl ?_
          refine V.yes rfl rfl rfl ?_
          refine V.loadO T_ok Fk2 rfl rfl rfl rfl rfl ?_
          refine V.yes rfl rfl rfl ?_
          refine V.call (right_spec (a := a) (b := b)) rfl rfl rfl ?_
          rintro _ w232 ⟨rfl, G233⟩
          have z234 := V.Fr.size G233
          try replace Fk2 := Fk2.gr G233
          try replace Fk9 := Fk9.gr G233
          try replace Fk16 := Fk16.gr G233
          try replace Fk149 := Fk149.gr G233
          try replace Fk218 := Fk218.gr G233
          replace HG := HG.grow G233
          clear G233
          refine V.run T_ok 2 rfl ?_
          refine V.split (j := 5) (t := 87) rfl rfl (fun g15_5 => ?_) (fun g15_5 => ?_)
          ·
            try simp only [decide_eq_true_eq, decide_eq_false_iff_not, Bool.or_eq_true, Bool.and_eq_true, Bool.or_eq_false_iff, Bool.and_eq_false_iff, Bool.not_eq_true', Bool.not_eq_false', Int.not_lt, Int.not_le, Decidable.not_not, V.u8eq, V.S_inj, V.S_lit, V.S_lit2, V.bl] at g15_5
            try simp only [V.mk0, V.mk1, V.mk2, V.mk3] at g15_5
            refine V.run T_ok 6 rfl ?_
            refine V.nil ?_
            refine V.tN ?_
            refine V.ret ?_
            refine V.tR ?_
            refine V.done rfl ?_
            exact ⟨(congrArg Value.bool (by first | rfl | (grind [maxSt, nextSt, stR]))), HG⟩
          ·
            try simp only [decide_eq_true_eq, decide_eq_false_iff_not, Bool.or_eq_true, Bool.and_eq_true, Bool.or_eq_false_iff, Bool.and_eq_false_iff, Bool.not_eq_true', Bool.not_eq_false', Int.not_lt, Int.not_le, Decidable.not_not, V.u8eq, V.S_inj, V.S_lit, V.S_lit2, V.bl] at g15_5
            try simp only [V.mk0, V.mk1, V.mk2, V.mk3] at g15_5
            refine V.run T_ok 1 rfl ?_
            refine V.yes rfl rfl rfl ?_
            refine V.loadO T_ok Fk2 rfl rfl rfl rfl rfl ?_
            refine V.run T_ok 4 rfl ?_
            refine V.nil ?_
            refine V.tN ?_
            refine V.ret ?_
            refine V.tR ?_
            refine V.done rfl ?_
            exact ⟨(congrArg Value.bool (by first | rfl | (grind [maxSt, nextSt, stR]))), HG⟩
        ·
          try simp only [decide_eq_true_eq, decide_eq_false_iff_not, Bool.or_eq_true, Bool.and_eq_true, Bool.or_eq_false_iff, Bool.and_eq_false_iff, Bool.not_eq_true', Bool.not_eq_false', Int.not_lt, Int.not_le, Decidable.not_not, V.u8eq, V.S_inj, V.S_lit, V.S_lit2, V.bl] at h14
          try simp only [V.mk0, V.mk1, V.mk2, V.mk3] at h14
          refine V.skip ?_
          refine V.tN ?_
          refine V.seq ?_
          refine V.region ?_
          refine V.call (alive_spec) rfl rfl rfl ?_
          rintro _ w235 ⟨rfl, G236⟩
          have z237 := V.Fr.size G236
          try replace Fk2 := Fk2.gr G236
          try replace Fk9 := Fk9.gr G236
          try replace Fk16 := Fk16.gr G236
          try replace Fk149 := Fk149.gr G236
          try replace Fk218 := Fk218.gr G236
          replace HG := HG.grow G236
          clear G236
          refine V.run T_ok 1 rfl ?_
          refine V.yes rfl rfl rfl ?_
          refine V.loadO T_ok Fk2 rfl rfl rfl rfl rfl ?_
          refine V.yes rfl rfl rfl ?_
          refine V.call (right_spec (a := a) (b := b)) rfl rfl rfl ?_
          rintro _ w238 ⟨rfl, G239⟩
          have z240 := V.Fr.size G239
          try replace Fk2 := Fk2.gr G239
          try replace Fk9 := Fk9.gr G239
          try replace Fk16 := Fk16.gr G239
          try replace Fk149 := Fk149.gr G239
          try replace Fk218 := Fk218.gr G239
          replace HG := HG.grow G239
          clear G239
          refine V.run T_ok 2 rfl ?_
          refine V.splitT (j := 5) (t := 98) rfl rfl (by (grind [maxSt, nextSt, stR])) ?_
          refine V.yes rfl rfl rfl ?_
          refine V.loadO T_ok Fk218 rfl rfl rfl rfl rfl ?_
          refine V.yes rfl rfl rfl ?_
          refine V.call (right_spec (a := (((nextSt a b).1).1)) (b := (((nextSt a b).1).2))) rfl rfl rfl ?_
          rintro _ w241 ⟨rfl, G242⟩
          have z243 := V.Fr.size G242
          try replace Fk2 := Fk2.gr G242
          try replace Fk9 := Fk9.gr G242
          try replace Fk16 := Fk16.gr G242
          try replace Fk149 := Fk149.gr G242
          try replace Fk218 := Fk218.gr G242
          replace HG := HG.grow G242
          clear G242
          refine V.run T_ok 2 rfl ?_
          refine V.splitT (j := 9) (t := 102) rfl rfl (by (grind [maxSt, nextSt, stR])) ?_
          refine V.yes rfl rfl rfl ?_
          refine V.loadO T_ok Fk2 rfl rfl rfl rfl rfl ?_
          refine V.yes rfl rfl rfl ?_
          refine V.loadO T_ok Fk218 rfl rfl rfl rfl rfl ?_
          refine V.yes rfl rfl rfl ?_
          refine V.call (less_spec (a := a) (b := b) (c := (((nextSt a b).1).1)) (d := (((nextSt a b).1).2))) rfl rfl rfl ?_
          rintro _ w244 ⟨rfl, G245⟩
          have z246 := V.Fr.size G245
          try replace Fk2 := Fk2.gr G245
          try replace Fk9 := Fk9.gr G245
          try replace Fk16 := Fk16.gr G245
          try replace Fk149 := Fk149.gr G245
          try replace Fk218 := Fk218.gr G245
          replace HG := HG.grow G245
          clear G245
          refine V.run T_ok 2 rfl ?_
          refine V.splitT (j := 14) (t := 107) rfl rfl (by (grind [maxSt, nextSt, stR])) ?_
          refine V.yes rfl rfl rfl ?_
          refine V.loadO T_ok Fk9 rfl rfl rfl rfl rfl ?_
          refine V.yes rfl rfl rfl ?_
          refine V.call (right_spec (a := c) (b := d)) rfl rfl rfl ?_
          rintro _ w247 ⟨rfl, G248⟩
          have z249 := V.Fr.size G248
          try replace Fk2 := Fk2.gr G248
          try replace Fk9 := Fk9.gr G248
          try replace Fk16 := Fk16.gr G248
          try replace Fk149 := Fk149.gr G248
          try replace Fk218 := Fk218.gr G248
          replace HG := HG.grow G248
          clear G248
          refine V.run T_ok 2 rfl ?_
          refine V.split (j := 18) (t := 111) rfl rfl (fun g16_18 => ?_) (fun g16_18 => ?_)
          ·
            try simp only [decide_eq_true_eq, decide_eq_false_iff_not, Bool.or_eq_true, Bool.and_eq_true, Bool.or_eq_false_iff, Bool.and_eq_false_iff, Bool.not_eq_true', Bool.not_eq_false', Int.not_lt, Int.not_le, Decidable.not_not, V.u8eq, V.S_inj, V.S_lit, V.S_lit2, V.bl] at g16_18
            try simp only [V.mk0, V.mk1, V.mk2, V.mk3] at g16_18
            refine V.run T_ok 13 rfl ?_
            refine V.nil ?_
            refine V.tN ?_
            refine V.ret ?_
            refine V.done rfl ?_
            exact ⟨(congrArg Value.bool (by first | rfl | (grind [maxSt, nextSt, stR]))), HG⟩
          ·
            try simp only [decide_eq_true_eq, decide_eq_false_iff_not, Bool.or_eq_true, Bool.and_eq_true, Bool.or_eq_false_iff, Bool.and_eq_false_iff, Bool.not_eq_true', Bool.not_eq_false', Int.not_lt, Int.not_le, Decidable.not_not, V.u8eq, V.S_inj, V.S_lit, V.S_lit2, V.bl] at g16_18
            try simp only [V.mk0, V.mk1, V.mk2, V.mk3] at g16_18
            refine V.yes rfl rfl rfl ?_
            refine V.loadO T_ok Fk2 rfl rfl rfl rfl rfl ?_
            refine V.yes rfl rfl rfl ?_
            refine V.loadO T_ok Fk9 rfl rfl rfl rfl rfl ?_
            refine V.yes rfl rfl rfl ?_
            refine V.call (less_spec (a := a) (b := b) (c := c) (d := d)) rfl rfl rfl ?_
            rintro _ w250 ⟨rfl, G251⟩
            have z252 := V.Fr.size G251
            try replace Fk2 := Fk2.gr G251
            try replace Fk9 := Fk9.gr G251
            try replace Fk16 := Fk16.gr G251
            try replace Fk149 := Fk149.gr G251
            try replace Fk218 := Fk218.gr G251
            replace HG := HG.grow G251
            clear G251
            refine V.run T_ok 3 rfl ?_
            refine V.split (j := 24) (t := 117) rfl rfl (fun g16_24 => ?_) (fun g16_24 => ?_)
            ·
              try simp only [decide_eq_true_eq, decide_eq_false_iff_not, Bool.or_eq_true, Bool.and_eq_true, Bool.or_eq_false_iff, Bool.and_eq_false_iff, Bool.not_eq_true', Bool.not_eq_false', Int.not_lt, Int.not_le, Decidable.not_not, V.u8eq, V.S_inj, V.S_lit, V.S_lit2, V.bl] at g16_24
              try simp only [V.mk0, V.mk1, V.mk2, V.mk3] at g16_24
              refine V.run T_ok 7 rfl ?_
              refine V.nil ?_
              refine V.tN ?_
              refine V.ret ?_
              refine V.done rfl ?_
              exact ⟨(congrArg Value.bool (by first | rfl | (grind [maxSt, nextSt, stR]))), HG⟩
            ·
              try simp only [decide_eq_true_eq, decide_eq_false_iff_not, Bool.or_eq_true, Bool.and_eq_true, Bool.or_eq_false_iff, Bool.and_eq_false_iff, Bool.not_eq_true', Bool.not_eq_false', Int.not_lt, Int.not_le, Decidable.not_not, V.u8eq, V.S_inj, V.S_lit, V.S_lit2, V.bl] at g16_24
              try simp only [V.mk0, V.mk1, V.mk2, V.mk3] at g16_24
              refine V.yes rfl rfl rfl ?_
              refine V.loadO T_ok Fk9 rfl rfl rfl rfl rfl ?_
              refine V.yes rfl rfl rfl ?_
              refine V.loadO T_ok Fk218 rfl rfl rfl rfl rfl ?_
              refine V.yes rfl rfl rfl ?_
              refine V.call (less_spec (a := c) (b := d) (c := (((nextSt a b).1).1)) (d := (((nextSt a b).1).2))) rfl rfl rfl ?_
              rintro _ w253 ⟨rfl, G254⟩
              have z255 := V.Fr.size G254
              try replace Fk2 := Fk2.gr G254
              try replace Fk9 := Fk9.gr G254
              try replace Fk16 := Fk16.gr G254
              try replace Fk149 := Fk149.gr G254
              try replace Fk218 := Fk218.gr G254
              replace HG := HG.grow G254
              clear G254
              refine V.run T_ok 4 rfl ?_
              refine V.nil ?_
              refine V.tN ?_
              refine V.ret ?_
              refine V.done rfl ?_
              exact ⟨(congrArg Value.bool (by first | rfl | (grind [maxSt, nextSt, stR]))), HG⟩
  ·
    try simp only [decide_eq_true_eq, decide_eq_false_iff_not, Bool.or_eq_true, Bool.and_eq_true, Bool.or_eq_false_iff, Bool.and_eq_false_iff, Bool.not_eq_true', Bool.not_eq_false', Int.not_lt, Int.not_le, Decidable.not_not, V.u8eq, V.S_inj, V.S_lit, V.S_lit2, V.bl] at h2
    try simp only [V.mk0, V.mk1, V.mk2, V.mk3] at h2
    refine V.skip ?_
    refine V.tN ?_
    refine V.seq ?_
    refine V.seq ?_
    refine V.region ?_
    refine V.loadO T_ok Fk9 rfl rfl rfl rfl rfl ?_
    refine V.loadO T_ok Fk2 rfl rfl rfl rfl rfl ?_
    refine V.call (less_spec (a := c) (b := d) (c := a) (d := b)) rfl rfl rfl ?_
    rintro _ w256 ⟨rfl, G257⟩
    have z258 := V.Fr.size G257
    try replace Fk2 := Fk2.gr G257
    try replace Fk9 := Fk9.gr G257
    try replace Fk16 := Fk16.gr G257
    replace HG := HG.grow G257
    clear G257
    refine V.nil ?_
    refine V.tN ?_
    refine V.condT rfl (fun h4 => ?_) (fun h4 => ?_)
    ·
      try simp only [decide_eq_true_eq, decide_eq_false_iff_not, Bool.or_eq_true, Bool.and_eq_true, Bool.or_eq_false_iff, Bool.and_eq_false_iff, Bool.not_eq_true', Bool.not_eq_false', Int.not_lt, Int.not_le, Decidable.not_not, V.u8eq, V.S_inj, V.S_lit, V.S_lit2, V.bl] at h4
      try simp only [V.mk0, V.mk1, V.mk2, V.mk3] at h4
      refine V.region ?_
      refine V.run T_ok 1 rfl ?_
      refine V.addN rfl rfl rfl rfl rfl (by first | omega | (simp only [List.length_take, List.length_drop, List.length_append, List.length_cons, List.length_nil, List.length_replicate, List.length_set, V.length_data, V.S_size]; omega)) (by first | omega | (simp only [List.length_take, List.length_drop, List.length_append, List.length_cons, List.length_nil, List.length_replicate, List.length_set, V.length_data, V.S_size]; omega)) ?_
      refine V.run T_ok 1 rfl ?_
      refine V.nil ?_
      refine V.tN ?_
      refine V.seq ?_
      refine V.seq ?_
      refine V.region ?_
      refine V.loadO T_ok Fk2 rfl rfl rfl rfl rfl ?_
      refine V.loadO T_ok Fk9 rfl rfl rfl rfl rfl ?_
      refine V.step rfl rfl (V.eqA_run rfl rfl rfl eqG23 (eqS23 _)) ?_
      refine V.nil ?_
      refine V.tN ?_
      refine V.condN rfl (by (simp; omega)) ?_
      refine V.skip ?_
      refine V.tN ?_
      refine V.seq ?_
      refine V.seq ?_
      refine V.drawQ mixed (by kernel_rfl) ?_
      refine V.qrun T_ok 3 rfl ?_
      refine V.qyes rfl rfl rfl ?_
      refine V.qloadO T_ok Fk2 rfl rfl rfl rfl rfl ?_
      refine V.qyes rfl rfl rfl ?_
      refine V.qloadO T_ok Fk9 rfl rfl rfl rfl rfl ?_
      refine V.qyes rfl rfl rfl ?_
      refine V.qcall V.clo (fun w1 g => (less_spec (a := a) (b := b) (c := c) (d := d))) rfl rfl rfl ?_
      refine V.qrun T_ok 1 rfl ?_
      refine V.qsplitF (j := 6) (t := 32) rfl rfl (by (apply decide_eq_false; omega)) ?_
      refine V.qrun T_ok 12 rfl ?_
      refine V.qyes rfl rfl rfl ?_
      refine V.qloadO T_ok Fk2 rfl rfl rfl rfl rfl ?_
      refine V.qyes rfl rfl rfl ?_
      refine V.qloadO T_ok Fk9 rfl rfl rfl rfl rfl ?_
      refine V.qyes rfl rfl rfl ?_
      refine V.qcall V.clo (fun w1 g => (compare_spec (a := a) (b := b) (c := c) (d := d))) rfl rfl rfl ?_
      refine V.qyes rfl rfl rfl ?_
      refine V.qloadO T_ok Fk9 rfl rfl rfl rfl rfl ?_
      refine V.qyes rfl rfl rfl ?_
      refine V.qloadO T_ok Fk2 rfl rfl rfl rfl rfl ?_
      refine V.qyes rfl rfl rfl ?_
      refine V.qcall V.clo (fun w1 g => (compare_spec (a := c) (b := d) (c := a) (d := b))) rfl rfl rfl ?_
      refine V.qrun T_ok 3 rfl ?_
      refine V.qnil ?_
      rintro w259 G260
      have z261 := V.Fr.size G260
      try replace Fk2 := Fk2.gr G260
      try replace Fk9 := Fk9.gr G260
      try replace Fk16 := Fk16.gr G260
      replace HG := HG.grow G260
      clear G260
      refine V.tN ?_
      refine V.condN rfl (by (rw [cmpS_neg]; simp)) ?_
      refine V.skip ?_
      refine V.tN ?_
      refine V.seq ?_
      refine V.region ?_
      refine V.loadO T_ok Fk2 rfl rfl rfl rfl rfl ?_
      refine V.loadO T_ok Fk9 rfl rfl rfl rfl rfl ?_
      refine V.call (max_spec (a := a) (b := b) (c := c) (d := d)) rfl rfl rfl ?_
      rintro _ w262 ⟨rfl, G263⟩
      have z264 := V.Fr.size G263
      try replace Fk2 := Fk2.gr G263
      try replace Fk9 := Fk9.gr G263
      try replace Fk16 := Fk16.gr G263
      replace HG := HG.grow G263
      clear G263
      refine V.alloc zero23 rfl rfl rfl ?_
      rintro k265 w267 s269 s270 G268 Fk266
      have z271 := V.Fr.size G268
      try replace Fk2 := Fk2.gr G268
      try replace Fk9 := Fk9.gr G268
      try replace Fk16 := Fk16.gr G268
      replace HG := HG.grow G268
      clear G268
      try simp only [V.cellsL, V.spliceL] at Fk266
      refine V.storeO Fk266 rfl rfl rfl rfl sz23 rfl rfl rfl rfl ?_
      rintro w272 G273 z275 Fs274
      clear Fk266
      have z276 := V.Fr.size G273
      first | replace Fk2 := Fk2.mv1 G273 (by omega) | clear Fk2 | skip
      first | replace Fk9 := Fk9.mv1 G273 (by omega) | clear Fk9 | skip
      first | replace Fk16 := Fk16.mv1 G273 (by omega) | clear Fk16 | skip
      replace HG := HG.new1 G273 (by first | (refine Or.inr ?_; omega) | (refine Or.inl ?_; simp; done))
      clear G273
      have Fk266 := Fs274; clear Fs274
      simp only [V.spliceL, V.cellsL] at Fk266
      refine V.nil ?_
      refine V.tN ?_
      refine V.seq ?_
      refine V.seq ?_
      refine V.region ?_
      refine V.loadO T_ok Fk266 rfl rfl rfl rfl rfl ?_
      refine V.loadO T_ok Fk2 rfl rfl rfl rfl rfl ?_
      refine V.step rfl rfl (V.neA_run rfl rfl rfl eqG23 (eqS23 _)) ?_
      refine V.run T_ok 1 rfl ?_
      refine V.split (j := 3) (t := 60) rfl rfl (fun g11_3 => ?_) (fun g11_3 => ?_)
      ·
        try simp only [decide_eq_true_eq, decide_eq_false_iff_not, Bool.or_eq_true, Bool.and_eq_true, Bool.or_eq_false_iff, Bool.and_eq_false_iff, Bool.not_eq_true', Bool.not_eq_false', Int.not_lt, Int.not_le, Decidable.not_not, V.u8eq, V.S_inj, V.S_lit, V.S_lit2, V.bl] at g11_3
        try simp only [V.mk0, V.mk1, V.mk2, V.mk3] at g11_3
        refine V.yes rfl rfl rfl ?_
        refine V.loadO T_ok Fk266 rfl rfl rfl rfl rfl ?_
        refine V.yes rfl rfl rfl ?_
        refine V.loadO T_ok Fk9 rfl rfl rfl rfl rfl ?_
        refine V.yes rfl rfl rfl ?_
        refine V.step rfl rfl (V.neA_run rfl rfl rfl eqG23 (eqS23 _)) ?_
        refine V.run T_ok 2 rfl ?_
        refine V.splitF (j := 8) (t := 65) rfl rfl (by (grind [maxSt, nextSt, stR])) ?_
        refine V.yes rfl rfl rfl ?_
        refine V.loadO T_ok Fk266 rfl rfl rfl rfl rfl ?_
        refine V.yes rfl rfl rfl ?_
        refine V.loadO T_ok Fk2 rfl rfl rfl rfl rfl ?_
        refine V.yes rfl rfl rfl ?_
        refine V.call (less_spec (a := ((maxSt a b c d).1)) (b := ((maxSt a b c d).2)) (c := a) (d := b)) rfl rfl rfl ?_
        rintro _ w277 ⟨rfl, G278⟩
        have z279 := V.Fr.size G278
        try replace Fk2 := Fk2.gr G278
        try replace Fk9 := Fk9.gr G278
        try replace Fk16 := Fk16.gr G278
        try replace Fk266 := Fk266.gr G278
        replace HG := HG.grow G278
        clear G278
        refine V.run T_ok 2 rfl ?_
        refine V.splitF (j := 13) (t := 70) rfl rfl (by (grind [maxSt, nextSt, stR])) ?_
        refine V.yes rfl rfl rfl ?_
        refine V.loadO T_ok Fk266 rfl rfl rfl rfl rfl ?_
        refine V.yes rfl rfl rfl ?_
        refine V.loadO T_ok Fk9 rfl rfl rfl rfl rfl ?_
        refine V.yes rfl rfl rfl ?_
        refine V.call (less_spec (a := ((maxSt a b c d).1)) (b := ((maxSt a b c d).2)) (c := c) (d := d)) rfl rfl rfl ?_
        rintro _ w280 ⟨rfl, G281⟩
        have z282 := V.Fr.size G281
        try replace Fk2 := Fk2.gr G281
        try replace Fk9 := Fk9.gr G281
        try replace Fk16 := Fk16.gr G281
        try replace Fk266 := Fk266.gr G281
        replace HG := HG.grow G281
        clear G281
        refine V.run T_ok 1 rfl ?_
        refine V.nil ?_
        refine V.tN ?_
        refine V.condN rfl (by (grind [maxSt, nextSt, stR])) ?_
        refine V.skip ?_
        refine V.tN ?_
        refine V.seq ?_
        refine V.region ?_
        refine V.loadO T_ok Fk2 rfl rfl rfl rfl rfl ?_
        refine V.call (snext_spec (a := a) (b := b)) rfl rfl rfl ?_
        rintro _ w283 ⟨rfl, G284⟩
        have z285 := V.Fr.size G284
        try replace Fk2 := Fk2.gr G284
        try replace Fk9 := Fk9.gr G284
        try replace Fk16 := Fk16.gr G284
        try replace Fk266 := Fk266.gr G284
        replace HG := HG.grow G284
        clear G284
        refine V.run T_ok 3 rfl ?_
        refine V.alloc zero23 rfl rfl rfl ?_
        rintro k286 w288 s290 s291 G289 Fk287
        have z292 := V.Fr.size G289
        try replace Fk2 := Fk2.gr G289
        try replace Fk9 := Fk9.gr G289
        try replace Fk16 := Fk16.gr G289
        try replace Fk266 := Fk266.gr G289
        replace HG := HG.grow G289
        clear G289
        try simp only [V.cellsL, V.spliceL] at Fk287
        refine V.storeO Fk287 rfl rfl rfl rfl sz23 rfl rfl rfl rfl ?_
        rintro w293 G294 z296 Fs295
        clear Fk287
        have z297 := V.Fr.size G294
        first | replace Fk2 := Fk2.mv1 G294 (by omega) | clear Fk2 | skip
        first | replace Fk9 := Fk9.mv1 G294 (by omega) | clear Fk9 | skip
        first | replace Fk16 := Fk16.mv1 G294 (by omega) | clear Fk16 | skip
        first | replace Fk266 := Fk266.mv1 G294 (by omega) | clear Fk266 | skip
        replace HG := HG.new1 G294 (by first | (refine Or.inr ?_; omega) | (refine Or.inl ?_; simp; done))
        clear G294
        have Fk287 := Fs295; clear Fs295
        simp only [V.spliceL, V.cellsL] at Fk287
        refine V.run T_ok 1 rfl ?_
        refine V.nil ?_
        refine V.tN ?_
        refine V.seq ?_
        refine V.seq ?_
        refine V.region ?_
        refine V.run T_ok 2 rfl ?_
        refine V.nil ?_
        refine V.tN ?_
        refine V.condT rfl (fun h14 => ?_) (fun h14 => ?_)
        ·
          try simp only [decide_eq_true_eq, decide_eq_false_iff_not, Bool.or_eq_true, Bool.and_eq_true, Bool.or_eq_false_iff, Bool.and_eq_false_iff, Bool.not_eq_true', Bool.not_eq_false', Int.not_lt, Int.not_le, Decidable.not_not, V.u8eq, V.S_inj, V.S_lit, V.S_lit2, V.bl] at h14
          try simp only [V.mk0, V.mk1, V.mk2, V.mk3] at h14
          refine V.seq ?_
          refine V.region ?_
          refine V.call (alive_spec) rfl rfl rfl ?_
          rintro _ w298 ⟨rfl, G299⟩
          have z300 := V.Fr.size G299
          try replace Fk2 := Fk2.gr G299
          try replace Fk9 := Fk9.gr G299
          try replace Fk16 := Fk16.gr G299
          try replace Fk266 := Fk266.gr G299
          try replace Fk287 := Fk287.gr G299
          replace HG := HG.grow G299
          clear G299
          refine V.run T_ok 1 rfl ?_
          refine V.yes rfl rfl rfl ?_
          refine V.loadO T_ok Fk2 rfl rfl rfl rfl rfl ?_
          refine V.yes rfl rfl rfl ?_
          refine V.call (right_spec (a := a) (b := b)) rfl rfl rfl ?_
          rintro _ w301 ⟨rfl, G302⟩
          have z303 := V.Fr.size G302
          try replace Fk2 := Fk2.gr G302
          try replace Fk9 := Fk9.gr G302
          try replace Fk16 := Fk16.gr G302
          try replace Fk266 := Fk266.gr G302
          try replace Fk287 := Fk287.gr G302
          replace HG := HG.grow G302
          clear G302
          refine V.run T_ok 2 rfl ?_
          refine V.split (j := 5) (t := 87) rfl rfl (fun g15_5 => ?_) (fun g15_5 => ?_)
          ·
            try simp only [decide_eq_true_eq, decide_eq_false_iff_not, Bool.or_eq_true, Bool.and_eq_true, Bool.or_eq_false_iff, Bool.and_eq_false_iff, Bool.not_eq_true', Bool.not_eq_false', Int.not_lt, Int.not_le, Decidable.not_not, V.u8eq, V.S_inj, V.S_lit, V.S_lit2, V.bl] at g15_5
            try simp only [V.mk0, V.mk1, V.mk2, V.mk3] at g15_5
            refine V.run T_ok 6 rfl ?_
            refine V.nil ?_
            refine V.tN ?_
            refine V.ret ?_
            refine V.tR ?_
            refine V.done rfl ?_
            exact ⟨(congrArg Value.bool (by first | rfl | (grind [maxSt, nextSt, stR]))), HG⟩
          ·
            try simp only [decide_eq_true_eq, decide_eq_false_iff_not, Bool.or_eq_true, Bool.and_eq_true, Bool.or_eq_false_iff, Bool.and_eq_false_iff, Bool.not_eq_true', Bool.not_eq_false', Int.not_lt, Int.not_le, Decidable.not_not, V.u8eq, V.S_inj, V.S_lit, V.S_lit2, V.bl] at g15_5
            try simp only [V.mk0, V.mk1, V.mk2, V.mk3] at g15_5
            refine V.run T_ok 1 rfl ?_
            refine V.yes rfl rfl rfl ?_
            refine V.loadO T_ok Fk2 rfl rfl rfl rfl rfl ?_
            refine V.run T_ok 4 rfl ?_
            refine V.nil ?_
            refine V.tN ?_
            refine V.ret ?_
            refine V.tR ?_
            refine V.done rfl ?_
            exact ⟨(congrArg Value.bool (by first | rfl | (grind [maxSt, nextSt, stR]))), HG⟩
        ·
          try simp only [decide_eq_true_eq, decide_eq_false_iff_not, Bool.or_eq_true, Bool.and_eq_true, Bool.or_eq_false_iff, Bool.and_eq_false_iff, Bool.not_eq_true', Bool.not_eq_false', Int.not_lt, Int.not_le, Decidable.not_not, V.u8eq, V.S_inj, V.S_lit, V.S_lit2, V.bl] at h14
          try simp only [V.mk0, V.mk1, V.mk2, V.mk3] at h14
          refine V.skip ?_
          refine V.tN ?_
          refine V.seq ?_
          refine V.region ?_
          refine V.call (alive_spec) rfl rfl rfl ?_
          rintro _ w304 ⟨rfl, G305⟩
          have z306 := V.Fr.size G305
          try replace Fk2 := Fk2.gr G305
          try replace Fk9 := Fk9.gr G305
          try replace Fk16 := Fk16.gr G305
          try replace Fk266 := Fk266.gr G305
          try replace Fk287 := Fk287.gr G305
          replace HG := HG.grow G305
          clear G305
          refine V.run T_ok 1 rfl ?_
          refine V.yes rfl rfl rfl ?_
          refine V.loadO T_ok Fk2 rfl rfl rfl rfl rfl ?_
          refine V.yes rfl rfl rfl ?_
          refine V.call (right_spec (a := a) (b := b)) rfl rfl rfl ?_
          rintro _ w307 ⟨rfl, G308⟩
          have z309 := V.Fr.size G308
          try replace Fk2 := Fk2.gr G308
          try replace Fk9 := Fk9.gr G308
          try replace Fk16 := Fk16.gr G308
          try replace Fk266 := Fk266.gr G308
          try replace Fk287 := Fk287.gr G308
          replace HG := HG.grow G308
          clear G308
          refine V.run T_ok 2 rfl ?_
          refine V.splitT (j := 5) (t := 98) rfl rfl (by (grind [maxSt, nextSt, stR])) ?_
          refine V.yes rfl rfl rfl ?_
          refine V.loadO T_ok Fk287 rfl rfl rfl rfl rfl ?_
          refine V.yes rfl rfl rfl ?_
          refine V.call (right_spec (a := (((nextSt a b).1).1)) (b := (((nextSt a b).1).2))) rfl rfl rfl ?_
          rintro _ w310 ⟨rfl, G311⟩
          have z312 := V.Fr.size G311
          try replace Fk2 := Fk2.gr G311
          try replace Fk9 := Fk9.gr G311
          try replace Fk16 := Fk16.gr G311
          try replace Fk266 := Fk266.gr G311
          try replace Fk287 := Fk287.gr G311
          replace HG := HG.grow G311
          clear G311
          refine V.run T_ok 2 rfl ?_
          refine V.splitT (j := 9) (t := 102) rfl rfl (by (grind [maxSt, nextSt, stR])) ?_
          refine V.yes rfl rfl rfl ?_
          refine V.loadO T_ok Fk2 rfl rfl rfl rfl rfl ?_
          refine V.yes rfl rfl rfl ?_
          refine V.loadO T_ok Fk287 rfl rfl rfl rfl rfl ?_
          refine V.yes rfl rfl rfl ?_
          refine V.call (less_spec (a := a) (b := b) (c := (((nextSt a b).1).1)) (d := (((nextSt a b).1).2))) rfl rfl rfl ?_
          rintro _ w313 ⟨rfl, G314⟩
          have z315 := V.Fr.size G314
          try replace Fk2 := Fk2.gr G314
          try replace Fk9 := Fk9.gr G314
          try replace Fk16 := Fk16.gr G314
          try replace Fk266 := Fk266.gr G314
          try replace Fk287 := Fk287.gr G314
          replace HG := HG.grow G314
          clear G314
          refine V.run T_ok 2 rfl ?_
          refine V.splitT (j := 14) (t := 107) rfl rfl (by (grind [maxSt, nextSt, stR])) ?_
          refine V.yes rfl rfl rfl ?_
          refine V.loadO T_ok Fk9 rfl rfl rfl rfl rfl ?_
          refine V.yes rfl rfl rfl ?_
          refine V.call (right_spec (a := c) (b := d)) rfl rfl rfl ?_
          rintro _ w316 ⟨rfl, G317⟩
          have z318 := V.Fr.size G317
          try replace Fk2 := Fk2.gr G317
          try replace Fk9 := Fk9.gr G317
          try replace Fk16 := Fk16.gr G317
          try replace Fk266 := Fk266.gr G317
          try replace Fk287 := Fk287.gr G317
          replace HG := HG.grow G317
          clear G317
          refine V.run T_ok 2 rfl ?_
          refine V.split (j := 18) (t := 111) rfl rfl (fun g16_18 => ?_) (fun g16_18 => ?_)
          ·
            try simp only [decide_eq_true_eq, decide_eq_false_iff_not, Bool.or_eq_true, Bool.and_eq_true, Bool.or_eq_false_iff, Bool.and_eq_false_iff, Bool.not_eq_true', Bool.not_eq_false', Int.not_lt, Int.not_le, Decidable.not_not, V.u8eq, V.S_inj, V.S_lit, V.S_lit2, V.bl] at g16_18
            try simp only [V.mk0, V.mk1, V.mk2, V.mk3] at g16_18
            refine V.run T_ok 13 rfl ?_
            refine V.nil ?_
            refine V.tN ?_
            refine V.ret ?_
            refine V.done rfl ?_
            exact ⟨(congrArg Value.bool (by first | rfl | (grind [maxSt, nextSt, stR]))), HG⟩
          ·
            try simp only [decide_eq_true_eq, decide_eq_false_iff_not, Bool.or_eq_true, Bool.and_eq_true, Bool.or_eq_false_iff, Bool.and_eq_false_iff, Bool.not_eq_true', Bool.not_eq_false', Int.not_lt, Int.not_le, Decidable.not_not, V.u8eq, V.S_inj, V.S_lit, V.S_lit2, V.bl] at g16_18
            try simp only [V.mk0, V.mk1, V.mk2, V.mk3] at g16_18
            refine V.yes rfl rfl rfl ?_
            refine V.loadO T_ok Fk2 rfl rfl rfl rfl rfl ?_
            refine V.yes rfl rfl rfl ?_
            refine V.loadO T_ok Fk9 rfl rfl rfl rfl rfl ?_
            refine V.yes rfl rfl rfl ?_
            refine V.call (less_spec (a := a) (b := b) (c := c) (d := d)) rfl rfl rfl ?_
            rintro _ w319 ⟨rfl, G320⟩
            have z321 := V.Fr.size G320
            try replace Fk2 := Fk2.gr G320
            try replace Fk9 := Fk9.gr G320
            try replace Fk16 := Fk16.gr G320
            try replace Fk266 := Fk266.gr G320
            try replace Fk287 := Fk287.gr G320
            replace HG := HG.grow G320
            clear G320
            refine V.run T_ok 3 rfl ?_
            refine V.split (j := 24) (t := 117) rfl rfl (fun g16_24 => ?_) (fun g16_24 => ?_)
            ·
              try simp only [decide_eq_true_eq, decide_eq_false_iff_not, Bool.or_eq_true, Bool.and_eq_true, Bool.or_eq_false_iff, Bool.and_eq_false_iff, Bool.not_eq_true', Bool.not_eq_false', Int.not_lt, Int.not_le, Decidable.not_not, V.u8eq, V.S_inj, V.S_lit, V.S_lit2, V.bl] at g16_24
              try simp only [V.mk0, V.mk1, V.mk2, V.mk3] at g16_24
              refine V.run T_ok 7 rfl ?_
              refine V.nil ?_
              refine V.tN ?_
              refine V.ret ?_
              refine V.done rfl ?_
              exact ⟨(congrArg Value.bool (by first | rfl | (grind [maxSt, nextSt, stR]))), HG⟩
            ·
              try simp only [decide_eq_true_eq, decide_eq_false_iff_not, Bool.or_eq_true, Bool.and_eq_true, Bool.or_eq_false_iff, Bool.and_eq_false_iff, Bool.not_eq_true', Bool.not_eq_false', Int.not_lt, Int.not_le, Decidable.not_not, V.u8eq, V.S_inj, V.S_lit, V.S_lit2, V.bl] at g16_24
              try simp only [V.mk0, V.mk1, V.mk2, V.mk3] at g16_24
              refine V.yes rfl rfl rfl ?_
              refine V.loadO T_ok Fk9 rfl rfl rfl rfl rfl ?_
              refine V.yes rfl rfl rfl ?_
              refine V.loadO T_ok Fk287 rfl rfl rfl rfl rfl ?_
              refine V.yes rfl rfl rfl ?_
              refine V.call (less_spec (a := c) (b := d) (c := (((nextSt a b).1).1)) (d := (((nextSt a b).1).2))) rfl rfl rfl ?_
              rintro _ w322 ⟨rfl, G323⟩
              have z324 := V.Fr.size G323
              try replace Fk2 := Fk2.gr G323
              try replace Fk9 := Fk9.gr G323
              try replace Fk16 := Fk16.gr G323
              try replace Fk266 := Fk266.gr G323
              try replace Fk287 := Fk287.gr G323
              replace HG := HG.grow G323
              clear G323
              refine V.run T_ok 4 rfl ?_
              refine V.nil ?_
              refine V.tN ?_
              refine V.ret ?_
              refine V.done rfl ?_
              exact ⟨(congrArg Value.bool (by first | rfl | (grind [maxSt, nextSt, stR]))), HG⟩
      ·
        try simp only [decide_eq_true_eq, decide_eq_false_iff_not, Bool.or_eq_true, Bool.and_eq_true, Bool.or_eq_false_iff, Bool.and_eq_false_iff, Bool.not_eq_true', Bool.not_eq_false', Int.not_lt, Int.not_le, Decidable.not_not, V.u8eq, V.S_inj, V.S_lit, V.S_lit2, V.bl] at g11_3
        try simp only [V.mk0, V.mk1, V.mk2, V.mk3] at g11_3
        refine V.run T_ok 5 rfl ?_
        refine V.yes rfl rfl rfl ?_
        refine V.loadO T_ok Fk266 rfl rfl rfl rfl rfl ?_
        refine V.yes rfl rfl rfl ?_
        refine V.loadO T_ok Fk2 rfl rfl rfl rfl rfl ?_
        refine V.yes rfl rfl rfl ?_
        refine V.call (less_spec (a := ((maxSt a b c d).1)) (b := ((maxSt a b c d).2)) (c := a) (d := b)) rfl rfl rfl ?_
        rintro _ w325 ⟨rfl, G326⟩
        have z327 := V.Fr.size G326
        try replace Fk2 := Fk2.gr G326
        try replace Fk9 := Fk9.gr G326
        try replace Fk16 := Fk16.gr G326
        try replace Fk266 := Fk266.gr G326
        replace HG := HG.grow G326
        clear G326
        refine V.run T_ok 2 rfl ?_
        refine V.splitF (j := 13) (t := 70) rfl rfl (by (grind [maxSt, nextSt, stR])) ?_
        refine V.yes rfl rfl rfl ?_
        refine V.loadO T_ok Fk266 rfl rfl rfl rfl rfl ?_
        refine V.yes rfl rfl rfl ?_
        refine V.loadO T_ok Fk9 rfl rfl rfl rfl rfl ?_
        refine V.yes rfl rfl rfl ?_
        refine V.call (less_spec (a := ((maxSt a b c d).1)) (b := ((maxSt a b c d).2)) (c := c) (d := d)) rfl rfl rfl ?_
        rintro _ w328 ⟨rfl, G329⟩
        have z330 := V.Fr.size G329
        try replace Fk2 := Fk2.gr G329
        try replace Fk9 := Fk9.gr G329
        try replace Fk16 := Fk16.gr G329
        try replace Fk266 := Fk266.gr G329
        replace HG := HG.grow G329
        clear G329
        refine V.run T_ok 1 rfl ?_
        refine V.nil ?_
        refine V.tN ?_
        refine V.condN rfl (by (grind [maxSt, nextSt, stR])) ?_
        refine V.skip ?_
        refine V.tN ?_
        refine V.seq ?_
        refine V.region ?_
        refine V.loadO T_ok Fk2 rfl rfl rfl rfl rfl ?_
        refine V.call (snext_spec (a := a) (b := b)) rfl rfl rfl ?_
        rintro _ w331 ⟨rfl, G332⟩
        have z333 := V.Fr.size G332
        try replace Fk2 := Fk2.gr G332
        try replace Fk9 := Fk9.gr G332
        try replace Fk16 := Fk16.gr G332
        try replace Fk266 := Fk266.gr G332
        replace HG := HG.grow G332
        clear G332
        refine V.run T_ok 3 rfl ?_
        refine V.alloc zero23 rfl rfl rfl ?_
        rintro k334 w336 s338 s339 G337 Fk335
        have z340 := V.Fr.size G337
        try replace Fk2 := Fk2.gr G337
        try replace Fk9 := Fk9.gr G337
        try replace Fk16 := Fk16.gr G337
        try replace Fk266 := Fk266.gr G337
        replace HG := HG.grow G337
        clear G337
        try simp only [V.cellsL, V.spliceL] at Fk335
        refine V.storeO Fk335 rfl rfl rfl rfl sz23 rfl rfl rfl rfl ?_
        rintro w341 G342 z344 Fs343
        clear Fk335
        have z345 := V.Fr.size G342
        first | replace Fk2 := Fk2.mv1 G342 (by omega) | clear Fk2 | skip
        first | replace Fk9 := Fk9.mv1 G342 (by omega) | clear Fk9 | skip
        first | replace Fk16 := Fk16.mv1 G342 (by omega) | clear Fk16 | skip
        first | replace Fk266 := Fk266.mv1 G342 (by omega) | clear Fk266 | skip
        replace HG := HG.new1 G342 (by first | (refine Or.inr ?_; omega) | (refine Or.inl ?_; simp; done))
        clear G342
        have Fk335 := Fs343; clear Fs343
        simp only [V.spliceL, V.cellsL] at Fk335
        refine V.run T_ok 1 rfl ?_
        refine V.nil ?_
        refine V.tN ?_
        refine V.seq ?_
        refine V.seq ?_
        refine V.region ?_
        refine V.run T_ok 2 rfl ?_
        refine V.nil ?_
        refine V.tN ?_
        refine V.condT rfl (fun h14 => ?_) (fun h14 => ?_)
        ·
          try simp only [decide_eq_true_eq, decide_eq_false_iff_not, Bool.or_eq_true, Bool.and_eq_true, Bool.or_eq_false_iff, Bool.and_eq_false_iff, Bool.not_eq_true', Bool.not_eq_false', Int.not_lt, Int.not_le, Decidable.not_not, V.u8eq, V.S_inj, V.S_lit, V.S_lit2, V.bl] at h14
          try simp only [V.mk0, V.mk1, V.mk2, V.mk3] at h14
          refine V.seq ?_
          refine V.region ?_
          refine V.call (alive_spec) rfl rfl rfl ?_
          rintro _ w346 ⟨rfl, G347⟩
          have z348 := V.Fr.size G347
          try replace Fk2 := Fk2.gr G347
          try replace Fk9 := Fk9.gr G347
          try replace Fk16 := Fk16.gr G347
          try replace Fk266 := Fk266.gr G347
          try replace Fk335 := Fk335.gr G347
          replace HG := HG.grow G347
          clear G347
          refine V.run T_ok 1 rfl ?_
          refine V.yes rfl rfl rfl ?_
          refine V.loadO T_ok Fk2 rfl rfl rfl rfl rfl ?_
          refine V.yes rfl rfl rfl ?_
          refine V.call (right_spec (a := a) (b := b)) rfl rfl rfl ?_
          rintro _ w349 ⟨rfl, G350⟩
          have z351 := V.Fr.size G350
          try replace Fk2 := Fk2.gr G350
          try replace Fk9 := Fk9.gr G350
          try replace Fk16 := Fk16.gr G350
          try replace Fk266 := Fk266.gr G350
          try replace Fk335 := Fk335.gr G350
          replace HG := HG.grow G350
          clear G350
          refine V.run T_ok 2 rfl ?_
          refine V.split (j := 5) (t := 87) rfl rfl (fun g15_5 => ?_) (fun g15_5 => ?_)
          ·
            try simp only [decide_eq_true_eq, decide_eq_false_iff_not, Bool.or_eq_true, Bool.and_eq_true, Bool.or_eq_false_iff, Bool.and_eq_false_iff, Bool.not_eq_true', Bool.not_eq_false', Int.not_lt, Int.not_le, Decidable.not_not, V.u8eq, V.S_inj, V.S_lit, V.S_lit2, V.bl] at g15_5
            try simp only [V.mk0, V.mk1, V.mk2, V.mk3] at g15_5
            refine V.run T_ok 6 rfl ?_
            refine V.nil ?_
            refine V.tN ?_
            refine V.ret ?_
            refine V.tR ?_
            refine V.done rfl ?_
            exact ⟨(congrArg Value.bool (by first | rfl | (grind [maxSt, nextSt, stR]))), HG⟩
          ·
            try simp only [decide_eq_true_eq, decide_eq_false_iff_not, Bool.or_eq_true, Bool.and_eq_true, Bool.or_eq_false_iff, Bool.and_eq_false_iff, Bool.not_eq_true', Bool.not_eq_false', Int.not_lt, Int.not_le, Decidable.not_not, V.u8eq, V.S_inj, V.S_lit, V.S_lit2, V.bl] at g15_5
            try simp only [V.mk0, V.mk1, V.mk2, V.mk3] at g15_5
            refine V.run T_ok 1 rfl ?_
            refine V.yes rfl rfl rfl ?_
            refine V.loadO T_ok Fk2 rfl rfl rfl rfl rfl ?_
            refine V.run T_ok 4 rfl ?_
            refine V.nil ?_
            refine V.tN ?_
            refine V.ret ?_
            refine V.tR ?_
            refine V.done rfl ?_
            exact ⟨(congrArg Value.bool (by first | rfl | (grind [maxSt, nextSt, stR]))), HG⟩
        ·
          try simp only [decide_eq_true_eq, decide_eq_false_iff_not, Bool.or_eq_true, Bool.and_eq_true, Bool.or_eq_false_iff, Bool.and_eq_false_iff, Bool.not_eq_true', Bool.not_eq_false', Int.not_lt, Int.not_le, Decidable.not_not, V.u8eq, V.S_inj, V.S_lit, V.S_lit2, V.bl] at h14
          try simp only [V.mk0, V.mk1, V.mk2, V.mk3] at h14
          refine V.skip ?_
          refine V.tN ?_
          refine V.seq ?_
          refine V.region ?_
          refine V.call (alive_spec) rfl rfl rfl ?_
          rintro _ w352 ⟨rfl, G353⟩
          have z354 := V.Fr.size G353
          try replace Fk2 := Fk2.gr G353
          try replace Fk9 := Fk9.gr G353
          try replace Fk16 := Fk16.gr G353
          try replace Fk266 := Fk266.gr G353
          try replace Fk335 := Fk335.gr G353
          replace HG := HG.grow G353
          clear G353
          refine V.run T_ok 1 rfl ?_
          refine V.yes rfl rfl rfl ?_
          refine V.loadO T_ok Fk2 rfl rfl rfl rfl rfl ?_
          refine V.yes rfl rfl rfl ?_
          refine V.call (right_spec (a := a) (b := b)) rfl rfl rfl ?_
          rintro _ w355 ⟨rfl, G356⟩
          have z357 := V.Fr.size G356
          try replace Fk2 := Fk2.gr G356
          try replace Fk9 := Fk9.gr G356
          try replace Fk16 := Fk16.gr G356
          try replace Fk266 := Fk266.gr G356
          try replace Fk335 := Fk335.gr G356
          replace HG := HG.grow G356
          clear G356
          refine V.run T_ok 2 rfl ?_
          refine V.splitT (j := 5) (t := 98) rfl rfl (by (grind [maxSt, nextSt, stR])) ?_
          refine V.yes rfl rfl rfl ?_
          refine V.loadO T_ok Fk335 rfl rfl rfl rfl rfl ?_
          refine V.yes rfl rfl rfl ?_
          refine V.call (right_spec (a := (((nextSt a b).1).1)) (b := (((nextSt a b).1).2))) rfl rfl rfl ?_
          rintro _ w358 ⟨rfl, G359⟩
          have z360 := V.Fr.size G359
          try replace Fk2 := Fk2.gr G359
          try replace Fk9 := Fk9.gr G359
          try replace Fk16 := Fk16.gr G359
          try replace Fk266 := Fk266.gr G359
          try replace Fk335 := Fk335.gr G359
          replace HG := HG.grow G359
          clear G359
          refine V.run T_ok 2 rfl ?_
          refine V.splitT (j := 9) (t := 102) rfl rfl (by (grind [maxSt, nextSt, stR])) ?_
          refine V.yes rfl rfl rfl ?_
          refine V.loadO T_ok Fk2 rfl rfl rfl rfl rfl ?_
          refine V.yes rfl rfl rfl ?_
          refine V.loadO T_ok Fk335 rfl rfl rfl rfl rfl ?_
          refine V.yes rfl rfl rfl ?_
          refine V.call (less_spec (a := a) (b := b) (c := (((nextSt a b).1).1)) (d := (((nextSt a b).1).2))) rfl rfl rfl ?_
          rintro _ w361 ⟨rfl, G362⟩
          have z363 := V.Fr.size G362
          try replace Fk2 := Fk2.gr G362
          try replace Fk9 := Fk9.gr G362
          try replace Fk16 := Fk16.gr G362
          try replace Fk266 := Fk266.gr G362
          try replace Fk335 := Fk335.gr G362
          replace HG := HG.grow G362
          clear G362
          refine V.run T_ok 2 rfl ?_
          refine V.splitT (j := 14) (t := 107) rfl rfl (by (grind [maxSt, nextSt, stR])) ?_
          refine V.yes rfl rfl rfl ?_
          refine V.loadO T_ok Fk9 rfl rfl rfl rfl rfl ?_
          refine V.yes rfl rfl rfl ?_
          refine V.call (right_spec (a := c) (b := d)) rfl rfl rfl ?_
          rintro _ w364 ⟨rfl, G365⟩
          have z366 := V.Fr.size G365
          try replace Fk2 := Fk2.gr G365
          try replace Fk9 := Fk9.gr G365
          try replace Fk16 := Fk16.gr G365
          try replace Fk266 := Fk266.gr G365
          try replace Fk335 := Fk335.gr G365
          replace HG := HG.grow G365
          clear G365
          refine V.run T_ok 2 rfl ?_
          refine V.split (j := 18) (t := 111) rfl rfl (fun g16_18 => ?_) (fun g16_18 => ?_)
          ·
            try simp only [decide_eq_true_eq, decide_eq_false_iff_not, Bool.or_eq_true, Bool.and_eq_true, Bool.or_eq_false_iff, Bool.and_eq_false_iff, Bool.not_eq_true', Bool.not_eq_false', Int.not_lt, Int.not_le, Decidable.not_not, V.u8eq, V.S_inj, V.S_lit, V.S_lit2, V.bl] at g16_18
            try simp only [V.mk0, V.mk1, V.mk2, V.mk3] at g16_18
            refine V.run T_ok 13 rfl ?_
            refine V.nil ?_
            refine V.tN ?_
            refine V.ret ?_
            refine V.done rfl ?_
            exact ⟨(congrArg Value.bool (by first | rfl | (grind [maxSt, nextSt, stR]))), HG⟩
          ·
            try simp only [decide_eq_true_eq, decide_eq_false_iff_not, Bool.or_eq_true, Bool.and_eq_true, Bool.or_eq_false_iff, Bool.and_eq_false_iff, Bool.not_eq_true', Bool.not_eq_false', Int.not_lt, Int.not_le, Decidable.not_not, V.u8eq, V.S_inj, V.S_lit, V.S_lit2, V.bl] at g16_18
            try simp only [V.mk0, V.mk1, V.mk2, V.mk3] at g16_18
            refine V.yes rfl rfl rfl ?_
            refine V.loadO T_ok Fk2 rfl rfl rfl rfl rfl ?_
            refine V.yes rfl rfl rfl ?_
            refine V.loadO T_ok Fk9 rfl rfl rfl rfl rfl ?_
            refine V.yes rfl rfl rfl ?_
            refine V.call (less_spec (a := a) (b := b) (c := c) (d := d)) rfl rfl rfl ?_
            rintro _ w367 ⟨rfl, G368⟩
            have z369 := V.Fr.size G368
            try replace Fk2 := Fk2.gr G368
            try replace Fk9 := Fk9.gr G368
            try replace Fk16 := Fk16.gr G368
            try replace Fk266 := Fk266.gr G368
            try replace Fk335 := Fk335.gr G368
            replace HG := HG.grow G368
            clear G368
            refine V.run T_ok 3 rfl ?_
            refine V.split (j := 24) (t := 117) rfl rfl (fun g16_24 => ?_) (fun g16_24 => ?_)
            ·
              try simp only [decide_eq_true_eq, decide_eq_false_iff_not, Bool.or_eq_true, Bool.and_eq_true, Bool.or_eq_false_iff, Bool.and_eq_false_iff, Bool.not_eq_true', Bool.not_eq_false', Int.not_lt, Int.not_le, Decidable.not_not, V.u8eq, V.S_inj, V.S_lit, V.S_lit2, V.bl] at g16_24
              try simp only [V.mk0, V.mk1, V.mk2, V.mk3] at g16_24
              refine V.run T_ok 7 rfl ?_
              refine V.nil ?_
              refine V.tN ?_
              refine V.ret ?_
              refine V.done rfl ?_
              exact ⟨(congrArg Value.bool (by first | rfl | (grind [maxSt, nextSt, stR]))), HG⟩
            ·
              try simp only [decide_eq_true_eq, decide_eq_false_iff_not, Bool.or_eq_true, Bool.and_eq_true, Bool.or_eq_false_iff, Bool.and_eq_false_iff, Bool.not_eq_true', Bool.not_eq_false', Int.not_lt, Int.not_le, Decidable.not_not, V.u8eq, V.S_inj, V.S_lit, V.S_lit2, V.bl] at g16_24
              try simp only [V.mk0, V.mk1, V.mk2, V.mk3] at g16_24
              refine V.yes rfl rfl rfl ?_
              refine V.loadO T_ok Fk9 rfl rfl rfl rfl rfl ?_
              refine V.yes rfl rfl rfl ?_
              refine V.loadO T_ok Fk335 rfl rfl rfl rfl rfl ?_
              refine V.yes rfl rfl rfl ?_
              refine V.call (less_spec (a := c) (b := d) (c := (((nextSt a b).1).1)) (d := (((nextSt a b).1).2))) rfl rfl rfl ?_
              rintro _ w370 ⟨rfl, G371⟩
              have z372 := V.Fr.size G371
              try replace Fk2 := Fk2.gr G371
              try replace Fk9 := Fk9.gr G371
              try replace Fk16 := Fk16.gr G371
              try replace Fk266 := Fk266.gr G371
              try replace Fk335 := Fk335.gr G371
              replace HG := HG.grow G371
              clear G371
              refine V.run T_ok 4 rfl ?_
              refine V.nil ?_
              refine V.tN ?_
              refine V.ret ?_
              refine V.done rfl ?_
              exact ⟨(congrArg Value.bool (by first | rfl | (grind [maxSt, nextSt, stR]))), HG⟩
    ·
      try simp only [decide_eq_true_eq, decide_eq_false_iff_not, Bool.or_eq_true, Bool.and_eq_true, Bool.or_eq_false_iff, Bool.and_eq_false_iff, Bool.not_eq_true', Bool.not_eq_false', Int.not_lt, Int.not_le, Decidable.not_not, V.u8eq, V.S_inj, V.S_lit, V.S_lit2, V.bl] at h4
      try simp only [V.mk0, V.mk1, V.mk2, V.mk3] at h4
      refine V.skip ?_
      refine V.tN ?_
      refine V.seq ?_
      refine V.seq ?_
      refine V.region ?_
      refine V.loadO T_ok Fk2 rfl rfl rfl rfl rfl ?_
      refine V.loadO T_ok Fk9 rfl rfl rfl rfl rfl ?_
      refine V.step rfl rfl (V.eqA_run rfl rfl rfl eqG23 (eqS23 _)) ?_
      refine V.nil ?_
      refine V.tN ?_
      refine V.condY rfl (by (simp; omega)) ?_
      refine V.region ?_
      refine V.run T_ok 1 rfl ?_
      refine V.addN rfl rfl rfl rfl rfl (by first | omega | (simp only [List.length_take, List.length_drop, List.length_append, List.length_cons, List.length_nil, List.length_replicate, List.length_set, V.length_data, V.S_size]; omega)) (by first | omega | (simp only [List.length_take, List.length_drop, List.length_append, List.length_cons, List.length_nil, List.length_replicate, List.length_set, V.length_data, V.S_size]; omega)) ?_
      refine V.run T_ok 1 rfl ?_
      refine V.nil ?_
      refine V.tN ?_
      refine V.seq ?_
      refine V.seq ?_
      refine V.drawQ mixed (by kernel_rfl) ?_
      refine V.qrun T_ok 3 rfl ?_
      refine V.qyes rfl rfl rfl ?_
      refine V.qloadO T_ok Fk2 rfl rfl rfl rfl rfl ?_
      refine V.qyes rfl rfl rfl ?_
      refine V.qloadO T_ok Fk9 rfl rfl rfl rfl rfl ?_
      refine V.qyes rfl rfl rfl ?_
      refine V.qcall V.clo (fun w1 g => (less_spec (a := a) (b := b) (c := c) (d := d))) rfl rfl rfl ?_
      refine V.qrun T_ok 1 rfl ?_
      refine V.qsplitF (j := 6) (t := 32) rfl rfl (by (apply decide_eq_false; omega)) ?_
      refine V.qrun T_ok 12 rfl ?_
      refine V.qyes rfl rfl rfl ?_
      refine V.qloadO T_ok Fk2 rfl rfl rfl rfl rfl ?_
      refine V.qyes rfl rfl rfl ?_
      refine V.qloadO T_ok Fk9 rfl rfl rfl rfl rfl ?_
      refine V.qyes rfl rfl rfl ?_
      refine V.qcall V.clo (fun w1 g => (compare_spec (a := a) (b := b) (c := c) (d := d))) rfl rfl rfl ?_
      refine V.qyes rfl rfl rfl ?_
      refine V.qloadO T_ok Fk9 rfl rfl rfl rfl rfl ?_
      refine V.qyes rfl rfl rfl ?_
      refine V.qloadO T_ok Fk2 rfl rfl rfl rfl rfl ?_
      refine V.qyes rfl rfl rfl ?_
      refine V.qcall V.clo (fun w1 g => (compare_spec (a := c) (b := d) (c := a) (d := b))) rfl rfl rfl ?_
      refine V.qrun T_ok 3 rfl ?_
      refine V.qnil ?_
      rintro w373 G374
      have z375 := V.Fr.size G374
      try replace Fk2 := Fk2.gr G374
      try replace Fk9 := Fk9.gr G374
      try replace Fk16 := Fk16.gr G374
      replace HG := HG.grow G374
      clear G374
      refine V.tN ?_
      refine V.condN rfl (by (rw [cmpS_neg]; simp)) ?_
      refine V.skip ?_
      refine V.tN ?_
      refine V.seq ?_
      refine V.region ?_
      refine V.loadO T_ok Fk2 rfl rfl rfl rfl rfl ?_
      refine V.loadO T_ok Fk9 rfl rfl rfl rfl rfl ?_
      refine V.call (max_spec (a := a) (b := b) (c := c) (d := d)) rfl rfl rfl ?_
      rintro _ w376 ⟨rfl, G377⟩
      have z378 := V.Fr.size G377
      try replace Fk2 := Fk2.gr G377
      try replace Fk9 := Fk9.gr G377
      try replace Fk16 := Fk16.gr G377
      replace HG := HG.grow G377
      clear G377
      refine V.alloc zero23 rfl rfl rfl ?_
      rintro k379 w381 s383 s384 G382 Fk380
      have z385 := V.Fr.size G382
      try replace Fk2 := Fk2.gr G382
      try replace Fk9 := Fk9.gr G382
      try replace Fk16 := Fk16.gr G382
      replace HG := HG.grow G382
      clear G382
      try simp only [V.cellsL, V.spliceL] at Fk380
      refine V.storeO Fk380 rfl rfl rfl rfl sz23 rfl rfl rfl rfl ?_
      rintro w386 G387 z389 Fs388
      clear Fk380
      have z390 := V.Fr.size G387
      first | replace Fk2 := Fk2.mv1 G387 (by omega) | clear Fk2 | skip
      first | replace Fk9 := Fk9.mv1 G387 (by omega) | clear Fk9 | skip
      first | replace Fk16 := Fk16.mv1 G387 (by omega) | clear Fk16 | skip
      replace HG := HG.new1 G387 (by first | (refine Or.inr ?_; omega) | (refine Or.inl ?_; simp; done))
      clear G387
      have Fk380 := Fs388; clear Fs388
      simp only [V.spliceL, V.cellsL] at Fk380
      refine V.nil ?_
      refine V.tN ?_
      refine V.seq ?_
      refine V.seq ?_
      refine V.region ?_
      refine V.loadO T_ok Fk380 rfl rfl rfl rfl rfl ?_
      refine V.loadO T_ok Fk2 rfl rfl rfl rfl rfl ?_
      refine V.step rfl rfl (V.neA_run rfl rfl rfl eqG23 (eqS23 _)) ?_
      refine V.run T_ok 1 rfl ?_
      refine V.split (j := 3) (t := 60) rfl rfl (fun g11_3 => ?_) (fun g11_3 => ?_)
      ·
        try simp only [decide_eq_true_eq, decide_eq_false_iff_not, Bool.or_eq_true, Bool.and_eq_true, Bool.or_eq_false_iff, Bool.and_eq_false_iff, Bool.not_eq_true', Bool.not_eq_false', Int.not_lt, Int.not_le, Decidable.not_not, V.u8eq, V.S_inj, V.S_lit, V.S_lit2, V.bl] at g11_3
        try simp only [V.mk0, V.mk1, V.mk2, V.mk3] at g11_3
        refine V.yes rfl rfl rfl ?_
        refine V.loadO T_ok Fk380 rfl rfl rfl rfl rfl ?_
        refine V.yes rfl rfl rfl ?_
        refine V.loadO T_ok Fk9 rfl rfl rfl rfl rfl ?_
        refine V.yes rfl rfl rfl ?_
        refine V.step rfl rfl (V.neA_run rfl rfl rfl eqG23 (eqS23 _)) ?_
        refine V.run T_ok 2 rfl ?_
        refine V.splitF (j := 8) (t := 65) rfl rfl (by (grind [maxSt, nextSt, stR])) ?_
        refine V.yes rfl rfl rfl ?_
        refine V.loadO T_ok Fk380 rfl rfl rfl rfl rfl ?_
        refine V.yes rfl rfl rfl ?_
        refine V.loadO T_ok Fk2 rfl rfl rfl rfl rfl ?_
        refine V.yes rfl rfl rfl ?_
        refine V.call (less_spec (a := ((maxSt a b c d).1)) (b := ((maxSt a b c d).2)) (c := a) (d := b)) rfl rfl rfl ?_
        rintro _ w391 ⟨rfl, G392⟩
        have z393 := V.Fr.size G392
        try replace Fk2 := Fk2.gr G392
        try replace Fk9 := Fk9.gr G392
        try replace Fk16 := Fk16.gr G392
        try replace Fk380 := Fk380.gr G392
        replace HG := HG.grow G392
        clear G392
        refine V.run T_ok 2 rfl ?_
        refine V.splitF (j := 13) (t := 70) rfl rfl (by (grind [maxSt, nextSt, stR])) ?_
        refine V.yes rfl rfl rfl ?_
        refine V.loadO T_ok Fk380 rfl rfl rfl rfl rfl ?_
        refine V.yes rfl rfl rfl ?_
        refine V.loadO T_ok Fk9 rfl rfl rfl rfl rfl ?_
        refine V.yes rfl rfl rfl ?_
        refine V.call (less_spec (a := ((maxSt a b c d).1)) (b := ((maxSt a b c d).2)) (c := c) (d := d)) rfl rfl rfl ?_
        rintro _ w394 ⟨rfl, G395⟩
        have z396 := V.Fr.size G395
        try replace Fk2 := Fk2.gr G395
        try replace Fk9 := Fk9.gr G395
        try replace Fk16 := Fk16.gr G395
        try replace Fk380 := Fk380.gr G395
        replace HG := HG.grow G395
        clear G395
        refine V.run T_ok 1 rfl ?_
        refine V.nil ?_
        refine V.tN ?_
        refine V.condN rfl (by (grind [maxSt, nextSt, stR])) ?_
        refine V.skip ?_
        refine V.tN ?_
        refine V.seq ?_
        refine V.region ?_
        refine V.loadO T_ok Fk2 rfl rfl rfl rfl rfl ?_
        refine V.call (snext_spec (a := a) (b := b)) rfl rfl rfl ?_
        rintro _ w397 ⟨rfl, G398⟩
        have z399 := V.Fr.size G398
        try replace Fk2 := Fk2.gr G398
        try replace Fk9 := Fk9.gr G398
        try replace Fk16 := Fk16.gr G398
        try replace Fk380 := Fk380.gr G398
        replace HG := HG.grow G398
        clear G398
        refine V.run T_ok 3 rfl ?_
        refine V.alloc zero23 rfl rfl rfl ?_
        rintro k400 w402 s404 s405 G403 Fk401
        have z406 := V.Fr.size G403
        try replace Fk2 := Fk2.gr G403
        try replace Fk9 := Fk9.gr G403
        try replace Fk16 := Fk16.gr G403
        try replace Fk380 := Fk380.gr G403
        replace HG := HG.grow G403
        clear G403
        try simp only [V.cellsL, V.spliceL] at Fk401
        refine V.storeO Fk401 rfl rfl rfl rfl sz23 rfl rfl rfl rfl ?_
        rintro w407 G408 z410 Fs409
        clear Fk401
        have z411 := V.Fr.size G408
        first | replace Fk2 := Fk2.mv1 G408 (by omega) | clear Fk2 | skip
        first | replace Fk9 := Fk9.mv1 G408 (by omega) | clear Fk9 | skip
        first | replace Fk16 := Fk16.mv1 G408 (by omega) | clear Fk16 | skip
        first | replace Fk380 := Fk380.mv1 G408 (by omega) | clear Fk380 | skip
        replace HG := HG.new1 G408 (by first | (refine Or.inr ?_; omega) | (refine Or.inl ?_; simp; done))
        clear G408
        have Fk401 := Fs409; clear Fs409
        simp only [V.spliceL, V.cellsL] at Fk401
        refine V.run T_ok 1 rfl ?_
        refine V.nil ?_
        refine V.tN ?_
        refine V.seq ?_
        refine V.seq ?_
        refine V.region ?_
        refine V.run T_ok 2 rfl ?_
        refine V.nil ?_
        refine V.tN ?_
        refine V.condT rfl (fun h14 => ?_) (fun h14 => ?_)
        ·
          try simp only [decide_eq_true_eq, decide_eq_false_iff_not, Bool.or_eq_true, Bool.and_eq_true, Bool.or_eq_false_iff, Bool.and_eq_false_iff, Bool.not_eq_true', Bool.not_eq_false', Int.not_lt, Int.not_le, Decidable.not_not, V.u8eq, V.S_inj, V.S_lit, V.S_lit2, V.bl] at h14
          try simp only [V.mk0, V.mk1, V.mk2, V.mk3] at h14
          refine V.seq ?_
          refine V.region ?_
          refine V.call (alive_spec) rfl rfl rfl ?_
          rintro _ w412 ⟨rfl, G413⟩
          have z414 := V.Fr.size G413
          try replace Fk2 := Fk2.gr G413
          try replace Fk9 := Fk9.gr G413
          try replace Fk16 := Fk16.gr G413
          try replace Fk380 := Fk380.gr G413
          try replace Fk401 := Fk401.gr G413
          replace HG := HG.grow G413
          clear G413
          refine V.run T_ok 1 rfl ?_
          refine V.yes rfl rfl rfl ?_
          refine V.loadO T_ok Fk2 rfl rfl rfl rfl rfl ?_
          refine V.yes rfl rfl rfl ?_
          refine V.call (right_spec (a := a) (b := b)) rfl rfl rfl ?_
          rintro _ w415 ⟨rfl, G416⟩
          have z417 := V.Fr.size G416
          try replace Fk2 := Fk2.gr G416
          try replace Fk9 := Fk9.gr G416
          try replace Fk16 := Fk16.gr G416
          try replace Fk380 := Fk380.gr G416
          try replace Fk401 := Fk401.gr G416
          replace HG := HG.grow G416
          clear G416
          refine V.run T_ok 2 rfl ?_
          refine V.split (j := 5) (t := 87) rfl rfl (fun g15_5 => ?_) (fun g15_5 => ?_)
          ·
            try simp only [decide_eq_true_eq, decide_eq_false_iff_not, Bool.or_eq_true, Bool.and_eq_true, Bool.or_eq_false_iff, Bool.and_eq_false_iff, Bool.not_eq_true', Bool.not_eq_false', Int.not_lt, Int.not_le, Decidable.not_not, V.u8eq, V.S_inj, V.S_lit, V.S_lit2, V.bl] at g15_5
            try simp only [V.mk0, V.mk1, V.mk2, V.mk3] at g15_5
            refine V.run T_ok 6 rfl ?_
            refine V.nil ?_
            refine V.tN ?_
            refine V.ret ?_
            refine V.tR ?_
            refine V.done rfl ?_
            exact ⟨(congrArg Value.bool (by first | rfl | (grind [maxSt, nextSt, stR]))), HG⟩
          ·
            try simp only [decide_eq_true_eq, decide_eq_false_iff_not, Bool.or_eq_true, Bool.and_eq_true, Bool.or_eq_false_iff, Bool.and_eq_false_iff, Bool.not_eq_true', Bool.not_eq_false', Int.not_lt, Int.not_le, Decidable.not_not, V.u8eq, V.S_inj, V.S_lit, V.S_lit2, V.bl] at g15_5
            try simp only [V.mk0, V.mk1, V.mk2, V.mk3] at g15_5
            refine V.run T_ok 1 rfl ?_
            refine V.yes rfl rfl rfl ?_
            refine V.loadO T_ok Fk2 rfl rfl rfl rfl rfl ?_
            refine V.run T_ok 4 rfl ?_
            refine V.nil ?_
            refine V.tN ?_
            refine V.ret ?_
            refine V.tR ?_
            refine V.done rfl ?_
            exact ⟨(congrArg Value.bool (by first | rfl | (grind [maxSt, nextSt, stR]))), HG⟩
        ·
          try simp only [decide_eq_true_eq, decide_eq_false_iff_not, Bool.or_eq_true, Bool.and_eq_true, Bool.or_eq_false_iff, Bool.and_eq_false_iff, Bool.not_eq_true', Bool.not_eq_false', Int.not_lt, Int.not_le, Decidable.not_not, V.u8eq, V.S_inj, V.S_lit, V.S_lit2, V.bl] at h14
          try simp only [V.mk0, V.mk1, V.mk2, V.mk3] at h14
          refine V.skip ?_
          refine V.tN ?_
          refine V.seq ?_
          refine V.region ?_
          refine V.call (alive_spec) rfl rfl rfl ?_
          rintro _ w418 ⟨rfl, G419⟩
          have z420 := V.Fr.size G419
          try replace Fk2 := Fk2.gr G419
          try replace Fk9 := Fk9.gr G419
          try replace Fk16 := Fk16.gr G419
          try replace Fk380 := Fk380.gr G419
          try replace Fk401 := Fk401.gr G419
          replace HG := HG.grow G419
          clear G419
          refine V.run T_ok 1 rfl ?_
          refine V.yes rfl rfl rfl ?_
          refine V.loadO T_ok Fk2 rfl rfl rfl rfl rfl ?_
          refine V.yes rfl rfl rfl ?_
          refine V.call (right_spec (a := a) (b := b)) rfl rfl rfl ?_
          rintro _ w421 ⟨rfl, G422⟩
          have z423 := V.Fr.size G422
          try replace Fk2 := Fk2.gr G422
          try replace Fk9 := Fk9.gr G422
          try replace Fk16 := Fk16.gr G422
          try replace Fk380 := Fk380.gr G422
          try replace Fk401 := Fk401.gr G422
          replace HG := HG.grow G422
          clear G422
          refine V.run T_ok 2 rfl ?_
          refine V.splitT (j := 5) (t := 98) rfl rfl (by (grind [maxSt, nextSt, stR])) ?_
          refine V.yes rfl rfl rfl ?_
          refine V.loadO T_ok Fk401 rfl rfl rfl rfl rfl ?_
          refine V.yes rfl rfl rfl ?_
          refine V.call (right_spec (a := (((nextSt a b).1).1)) (b := (((nextSt a b).1).2))) rfl rfl rfl ?_
          rintro _ w424 ⟨rfl, G425⟩
          have z426 := V.Fr.size G425
          try replace Fk2 := Fk2.gr G425
          try replace Fk9 := Fk9.gr G425
          try replace Fk16 := Fk16.gr G425
          try replace Fk380 := Fk380.gr G425
          try replace Fk401 := Fk401.gr G425
          replace HG := HG.grow G425
          clear G425
          refine V.run T_ok 2 rfl ?_
          refine V.splitT (j := 9) (t := 102) rfl rfl (by (grind [maxSt, nextSt, stR])) ?_
          refine V.yes rfl rfl rfl ?_
          refine V.loadO T_ok Fk2 rfl rfl rfl rfl rfl ?_
          refine V.yes rfl rfl rfl ?_
          refine V.loadO T_ok Fk401 rfl rfl rfl rfl rfl ?_
          refine V.yes rfl rfl rfl ?_
          refine V.call (less_spec (a := a) (b := b) (c := (((nextSt a b).1).1)) (d := (((nextSt a b).1).2))) rfl rfl rfl ?_
          rintro _ w427 ⟨rfl, G428⟩
          have z429 := V.Fr.size G428
          try replace Fk2 := Fk2.gr G428
          try replace Fk9 := Fk9.gr G428
          try replace Fk16 := Fk16.gr G428
          try replace Fk380 := Fk380.gr G428
          try replace Fk401 := Fk401.gr G428
          replace HG := HG.grow G428
          clear G428
          refine V.run T_ok 2 rfl ?_
          refine V.splitT (j := 14) (t := 107) rfl rfl (by (grind [maxSt, nextSt, stR])) ?_
          refine V.yes rfl rfl rfl ?_
          refine V.loadO T_ok Fk9 rfl rfl rfl rfl rfl ?_
          refine V.yes rfl rfl rfl ?_
          refine V.call (right_spec (a := c) (b := d)) rfl rfl rfl ?_
          rintro _ w430 ⟨rfl, G431⟩
          have z432 := V.Fr.size G431
          try replace Fk2 := Fk2.gr G431
          try replace Fk9 := Fk9.gr G431
          try replace Fk16 := Fk16.gr G431
          try replace Fk380 := Fk380.gr G431
          try replace Fk401 := Fk401.gr G431
          replace HG := HG.grow G431
          clear G431
          refine V.run T_ok 2 rfl ?_
          refine V.split (j := 18) (t := 111) rfl rfl (fun g16_18 => ?_) (fun g16_18 => ?_)
          ·
            try simp only [decide_eq_true_eq, decide_eq_false_iff_not, Bool.or_eq_true, Bool.and_eq_true, Bool.or_eq_false_iff, Bool.and_eq_false_iff, Bool.not_eq_true', Bool.not_eq_false', Int.not_lt, Int.not_le, Decidable.not_not, V.u8eq, V.S_inj, V.S_lit, V.S_lit2, V.bl] at g16_18
            try simp only [V.mk0, V.mk1, V.mk2, V.mk3] at g16_18
            refine V.run T_ok 13 rfl ?_
            refine V.nil ?_
            refine V.tN ?_
            refine V.ret ?_
            refine V.done rfl ?_
            exact ⟨(congrArg Value.bool (by first | rfl | (grind [maxSt, nextSt, stR]))), HG⟩
          ·
            try simp only [decide_eq_true_eq, decide_eq_false_iff_not, Bool.or_eq_true, Bool.and_eq_true, Bool.or_eq_false_iff, Bool.and_eq_false_iff, Bool.not_eq_true', Bool.not_eq_false', Int.not_lt, Int.not_le, Decidable.not_not, V.u8eq, V.S_inj, V.S_lit, V.S_lit2, V.bl] at g16_18
            try simp only [V.mk0, V.mk1, V.mk2, V.mk3] at g16_18
            refine V.yes rfl rfl rfl ?_
            refine V.loadO T_ok Fk2 rfl rfl rfl rfl rfl ?_
            refine V.yes rfl rfl rfl ?_
            refine V.loadO T_ok Fk9 rfl rfl rfl rfl rfl ?_
            refine V.yes rfl rfl rfl ?_
            refine V.call (less_spec (a := a) (b := b) (c := c) (d := d)) rfl rfl rfl ?_
            rintro _ w433 ⟨rfl, G434⟩
            have z435 := V.Fr.size G434
            try replace Fk2 := Fk2.gr G434
            try replace Fk9 := Fk9.gr G434
            try replace Fk16 := Fk16.gr G434
            try replace Fk380 := Fk380.gr G434
            try replace Fk401 := Fk401.gr G434
            replace HG := HG.grow G434
            clear G434
            refine V.run T_ok 3 rfl ?_
            refine V.split (j := 24) (t := 117) rfl rfl (fun g16_24 => ?_) (fun g16_24 => ?_)
            ·
              try simp only [decide_eq_true_eq, decide_eq_false_iff_not, Bool.or_eq_true, Bool.and_eq_true, Bool.or_eq_false_iff, Bool.and_eq_false_iff, Bool.not_eq_true', Bool.not_eq_false', Int.not_lt, Int.not_le, Decidable.not_not, V.u8eq, V.S_inj, V.S_lit, V.S_lit2, V.bl] at g16_24
              try simp only [V.mk0, V.mk1, V.mk2, V.mk3] at g16_24
              refine V.run T_ok 7 rfl ?_
              refine V.nil ?_
              refine V.tN ?_
              refine V.ret ?_
              refine V.done rfl ?_
              exact ⟨(congrArg Value.bool (by first | rfl | (grind [maxSt, nextSt, stR]))), HG⟩
            ·
              try simp only [decide_eq_true_eq, decide_eq_false_iff_not, Bool.or_eq_true, Bool.and_eq_true, Bool.or_eq_false_iff, Bool.and_eq_false_iff, Bool.not_eq_true', Bool.not_eq_false', Int.not_lt, Int.not_le, Decidable.not_not, V.u8eq, V.S_inj, V.S_lit, V.S_lit2, V.bl] at g16_24
              try simp only [V.mk0, V.mk1, V.mk2, V.mk3] at g16_24
              refine V.yes rfl rfl rfl ?_
              refine V.loadO T_ok Fk9 rfl rfl rfl rfl rfl ?_
              refine V.yes rfl rfl rfl ?_
              refine V.loadO T_ok Fk401 rfl rfl rfl rfl rfl ?_
              refine V.yes rfl rfl rfl ?_
              refine V.call (less_spec (a := c) (b := d) (c := (((nextSt a b).1).1)) (d := (((nextSt a b).1).2))) rfl rfl rfl ?_
              rintro _ w436 ⟨rfl, G437⟩
              have z438 := V.Fr.size G437
              try replace Fk2 := Fk2.gr G437
              try replace Fk9 := Fk9.gr G437
              try replace Fk16 := Fk16.gr G437
              try replace Fk380 := Fk380.gr G437
              try replace Fk401 := Fk401.gr G437
              replace HG := HG.grow G437
              clear G437
              refine V.run T_ok 4 rfl ?_
              refine V.nil ?_
              refine V.tN ?_
              refine V.ret ?_
              refine V.done rfl ?_
              exact ⟨(congrArg Value.bool (by first | rfl | (grind [maxSt, nextSt, stR]))), HG⟩
      ·
        try simp only [decide_eq_true_eq, decide_eq_false_iff_not, Bool.or_eq_true, Bool.and_eq_true, Bool.or_eq_false_iff, Bool.and_eq_false_iff, Bool.not_eq_true', Bool.not_eq_false', Int.not_lt, Int.not_le, Decidable.not_not, V.u8eq, V.S_inj, V.S_lit, V.S_lit2, V.bl] at g11_3
        try simp only [V.mk0, V.mk1, V.mk2, V.mk3] at g11_3
        refine V.run T_ok 5 rfl ?_
        refine V.yes rfl rfl rfl ?_
        refine V.loadO T_ok Fk380 rfl rfl rfl rfl rfl ?_
        refine V.yes rfl rfl rfl ?_
        refine V.loadO T_ok Fk2 rfl rfl rfl rfl rfl ?_
        refine V.yes rfl rfl rfl ?_
        refine V.call (less_spec (a := ((maxSt a b c d).1)) (b := ((maxSt a b c d).2)) (c := a) (d := b)) rfl rfl rfl ?_
        rintro _ w439 ⟨rfl, G440⟩
        have z441 := V.Fr.size G440
        try replace Fk2 := Fk2.gr G440
        try replace Fk9 := Fk9.gr G440
        try replace Fk16 := Fk16.gr G440
        try replace Fk380 := Fk380.gr G440
        replace HG := HG.grow G440
        clear G440
        refine V.run T_ok 2 rfl ?_
        refine V.splitF (j := 13) (t := 70) rfl rfl (by (grind [maxSt, nextSt, stR])) ?_
        refine V.yes rfl rfl rfl ?_
        refine V.loadO T_ok Fk380 rfl rfl rfl rfl rfl ?_
        refine V.yes rfl rfl rfl ?_
        refine V.loadO T_ok Fk9 rfl rfl rfl rfl rfl ?_
        refine V.yes rfl rfl rfl ?_
        refine V.call (less_spec (a := ((maxSt a b c d).1)) (b := ((maxSt a b c d).2)) (c := c) (d := d)) rfl rfl rfl ?_
        rintro _ w442 ⟨rfl, G443⟩
        have z444 := V.Fr.size G443
        try replace Fk2 := Fk2.gr G443
        try replace Fk9 := Fk9.gr G443
        try replace Fk16 := Fk16.gr G443
        try replace Fk380 := Fk380.gr G443
        replace HG := HG.grow G443
        clear G443
        refine V.run T_ok 1 rfl ?_
        refine V.nil ?_
        refine V.tN ?_
        refine V.condN rfl (by (grind [maxSt, nextSt, stR])) ?_
        refine V.skip ?_
        refine V.tN ?_
        refine V.seq ?_
        refine V.region ?_
        refine V.loadO T_ok Fk2 rfl rfl rfl rfl rfl ?_
        refine V.call (snext_spec (a := a) (b := b)) rfl rfl rfl ?_
        rintro _ w445 ⟨rfl, G446⟩
        have z447 := V.Fr.size G446
        try replace Fk2 := Fk2.gr G446
        try replace Fk9 := Fk9.gr G446
        try replace Fk16 := Fk16.gr G446
        try replace Fk380 := Fk380.gr G446
        replace HG := HG.grow G446
        clear G446
        refine V.run T_ok 3 rfl ?_
        refine V.alloc zero23 rfl rfl rfl ?_
        rintro k448 w450 s452 s453 G451 Fk449
        have z454 := V.Fr.size G451
        try replace Fk2 := Fk2.gr G451
        try replace Fk9 := Fk9.gr G451
        try replace Fk16 := Fk16.gr G451
        try replace Fk380 := Fk380.gr G451
        replace HG := HG.grow G451
        clear G451
        try simp only [V.cellsL, V.spliceL] at Fk449
        refine V.storeO Fk449 rfl rfl rfl rfl sz23 rfl rfl rfl rfl ?_
        rintro w455 G456 z458 Fs457
        clear Fk449
        have z459 := V.Fr.size G456
        first | replace Fk2 := Fk2.mv1 G456 (by omega) | clear Fk2 | skip
        first | replace Fk9 := Fk9.mv1 G456 (by omega) | clear Fk9 | skip
        first | replace Fk16 := Fk16.mv1 G456 (by omega) | clear Fk16 | skip
        first | replace Fk380 := Fk380.mv1 G456 (by omega) | clear Fk380 | skip
        replace HG := HG.new1 G456 (by first | (refine Or.inr ?_; omega) | (refine Or.inl ?_; simp; done))
        clear G456
        have Fk449 := Fs457; clear Fs457
        simp only [V.spliceL, V.cellsL] at Fk449
        refine V.run T_ok 1 rfl ?_
        refine V.nil ?_
        refine V.tN ?_
        refine V.seq ?_
        refine V.seq ?_
        refine V.region ?_
        refine V.run T_ok 2 rfl ?_
        refine V.nil ?_
        refine V.tN ?_
        refine V.condT rfl (fun h14 => ?_) (fun h14 => ?_)
        ·
          try simp only [decide_eq_true_eq, decide_eq_false_iff_not, Bool.or_eq_true, Bool.and_eq_true, Bool.or_eq_false_iff, Bool.and_eq_false_iff, Bool.not_eq_true', Bool.not_eq_false', Int.not_lt, Int.not_le, Decidable.not_not, V.u8eq, V.S_inj, V.S_lit, V.S_lit2, V.bl] at h14
          try simp only [V.mk0, V.mk1, V.mk2, V.mk3] at h14
          refine V.seq ?_
          refine V.region ?_
          refine V.call (alive_spec) rfl rfl rfl ?_
          rintro _ w460 ⟨rfl, G461⟩
          have z462 := V.Fr.size G461
          try replace Fk2 := Fk2.gr G461
          try replace Fk9 := Fk9.gr G461
          try replace Fk16 := Fk16.gr G461
          try replace Fk380 := Fk380.gr G461
          try replace Fk449 := Fk449.gr G461
          replace HG := HG.grow G461
          clear G461
          refine V.run T_ok 1 rfl ?_
          refine V.yes rfl rfl rfl ?_
          refine V.loadO T_ok Fk2 rfl rfl rfl rfl rfl ?_
          refine V.yes rfl rfl rfl ?_
          refine V.call (right_spec (a := a) (b := b)) rfl rfl rfl ?_
          rintro _ w463 ⟨rfl, G464⟩
          have z465 := V.Fr.size G464
          try replace Fk2 := Fk2.gr G464
          try replace Fk9 := Fk9.gr G464
          try replace Fk16 := Fk16.gr G464
          try replace Fk380 := Fk380.gr G464
          try replace Fk449 := Fk449.gr G464
          replace HG := HG.grow G464
          clear G464
          refine V.run T_ok 2 rfl ?_
          refine V.split (j := 5) (t := 87) rfl rfl (fun g15_5 => ?_) (fun g15_5 => ?_)
          ·
            try simp only [decide_eq_true_eq, decide_eq_false_iff_not, Bool.or_eq_true, Bool.and_eq_true, Bool.or_eq_false_iff, Bool.and_eq_false_iff, Bool.not_eq_true', Bool.not_eq_false', Int.not_lt, Int.not_le, Decidable.not_not, V.u8eq, V.S_inj, V.S_lit, V.S_lit2, V.bl] at g15_5
            try simp only [V.mk0, V.mk1, V.mk2, V.mk3] at g15_5
            refine V.run T_ok 6 rfl ?_
            refine V.nil ?_
            refine V.tN ?_
            refine V.ret ?_
            refine V.tR ?_
            refine V.done rfl ?_
            exact ⟨(congrArg Value.bool (by first | rfl | (grind [maxSt, nextSt, stR]))), HG⟩
          ·
            try simp only [decide_eq_true_eq, decide_eq_false_iff_not, Bool.or_eq_true, Bool.and_eq_true, Bool.or_eq_false_iff, Bool.and_eq_false_iff, Bool.not_eq_true', Bool.not_eq_false', Int.not_lt, Int.not_le, Decidable.not_not, V.u8eq, V.S_inj, V.S_lit, V.S_lit2, V.bl] at g15_5
            try simp only [V.mk0, V.mk1, V.mk2, V.mk3] at g15_5
            refine V.run T_ok 1 rfl ?_
            refine V.yes rfl rfl rfl ?_
            refine V.loadO T_ok Fk2 rfl rfl rfl rfl rfl ?_
            refine V.run T_ok 4 rfl ?_
            refine V.nil ?_
            refine V.tN ?_
            refine V.ret ?_
            refine V.tR ?_
            refine V.done rfl ?_
            exact ⟨(congrArg Value.bool (by first | rfl | (grind [maxSt, nextSt, stR]))), HG⟩
        ·
          try simp only [decide_eq_true_eq, decide_eq_false_iff_not, Bool.or_eq_true, Bool.and_eq_true, Bool.or_eq_false_iff, Bool.and_eq_false_iff, Bool.not_eq_true', Bool.not_eq_false', Int.not_lt, Int.not_le, Decidable.not_not, V.u8eq, V.S_inj, V.S_lit, V.S_lit2, V.bl] at h14
          try simp only [V.mk0, V.mk1, V.mk2, V.mk3] at h14
          refine V.skip ?_
          refine V.tN ?_
          refine V.seq ?_
          refine V.region ?_
          refine V.call (alive_spec) rfl rfl rfl ?_
          rintro _ w466 ⟨rfl, G467⟩
          have z468 := V.Fr.size G467
          try replace Fk2 := Fk2.gr G467
          try replace Fk9 := Fk9.gr G467
          try replace Fk16 := Fk16.gr G467
          try replace Fk380 := Fk380.gr G467
          try replace Fk449 := Fk449.gr G467
          replace HG := HG.grow G467
          clear G467
          refine V.run T_ok 1 rfl ?_
          refine V.yes rfl rfl rfl ?_
          refine V.loadO T_ok Fk2 rfl rfl rfl rfl rfl ?_
          refine V.yes rfl rfl rfl ?_
          refine V.call (right_spec (a := a) (b := b)) rfl rfl rfl ?_
          rintro _ w469 ⟨rfl, G470⟩
          have z471 := V.Fr.size G470
          try replace Fk2 := Fk2.gr G470
          try replace Fk9 := Fk9.gr G470
          try replace Fk16 := Fk16.gr G470
          try replace Fk380 := Fk380.gr G470
          try replace Fk449 := Fk449.gr G470
          replace HG := HG.grow G470
          clear G470
          refine V.run T_ok 2 rfl ?_
          refine V.splitT (j := 5) (t := 98) rfl rfl (by (grind [maxSt, nextSt, stR])) ?_
          refine V.yes rfl rfl rfl ?_
          refine V.loadO T_ok Fk449 rfl rfl rfl rfl rfl ?_
          refine V.yes rfl rfl rfl ?_
          refine V.call (right_spec (a := (((nextSt a b).1).1)) (b := (((nextSt a b).1).2))) rfl rfl rfl ?_
          rintro _ w472 ⟨rfl, G473⟩
          have z474 := V.Fr.size G473
          try replace Fk2 := Fk2.gr G473
          try replace Fk9 := Fk9.gr G473
          try replace Fk16 := Fk16.gr G473
          try replace Fk380 := Fk380.gr G473
          try replace Fk449 := Fk449.gr G473
          replace HG := HG.grow G473
          clear G473
          refine V.run T_ok 2 rfl ?_
          refine V.splitT (j := 9) (t := 102) rfl rfl (by (grind [maxSt, nextSt, stR])) ?_
          refine V.yes rfl rfl rfl ?_
          refine V.loadO T_ok Fk2 rfl rfl rfl rfl rfl ?_
          refine V.yes rfl rfl rfl ?_
          refine V.loadO T_ok Fk449 rfl rfl rfl rfl rfl ?_
          refine V.yes rfl rfl rfl ?_
          refine V.call (less_spec (a := a) (b := b) (c := (((nextSt a b).1).1)) (d := (((nextSt a b).1).2))) rfl rfl rfl ?_
          rintro _ w475 ⟨rfl, G476⟩
          have z477 := V.Fr.size G476
          try replace Fk2 := Fk2.gr G476
          try replace Fk9 := Fk9.gr G476
          try replace Fk16 := Fk16.gr G476
          try replace Fk380 := Fk380.gr G476
          try replace Fk449 := Fk449.gr G476
          replace HG := HG.grow G476
          clear G476
          refine V.run T_ok 2 rfl ?_
          refine V.splitT (j := 14) (t := 107) rfl rfl (by (grind [maxSt, nextSt, stR])) ?_
          refine V.yes rfl rfl rfl ?_
          refine V.loadO T_ok Fk9 rfl rfl rfl rfl rfl ?_
          refine V.yes rfl rfl rfl ?_
          refine V.call (right_spec (a := c) (b := d)) rfl rfl rfl ?_
          rintro _ w478 ⟨rfl, G479⟩
          have z480 := V.Fr.size G479
          try replace Fk2 := Fk2.gr G479
          try replace Fk9 := Fk9.gr G479
          try replace Fk16 := Fk16.gr G479
          try replace Fk380 := Fk380.gr G479
          try replace Fk449 := Fk449.gr G479
          replace HG := HG.grow G479
          clear G479
          refine V.run T_ok 2 rfl ?_
          refine V.split (j := 18) (t := 111) rfl rfl (fun g16_18 => ?_) (fun g16_18 => ?_)
          ·
            try simp only [decide_eq_true_eq, decide_eq_false_iff_not, Bool.or_eq_true, Bool.and_eq_true, Bool.or_eq_false_iff, Bool.and_eq_false_iff, Bool.not_eq_true', Bool.not_eq_false', Int.not_lt, Int.not_le, Decidable.not_not, V.u8eq, V.S_inj, V.S_lit, V.S_lit2, V.bl] at g16_18
            try simp only [V.mk0, V.mk1, V.mk2, V.mk3] at g16_18
            refine V.run T_ok 13 rfl ?_
            refine V.nil ?_
            refine V.tN ?_
            refine V.ret ?_
            refine V.done rfl ?_
            exact ⟨(congrArg Value.bool (by first | rfl | (grind [maxSt, nextSt, stR]))), HG⟩
          ·
            try simp only [decide_eq_true_eq, decide_eq_false_iff_not, Bool.or_eq_true, Bool.and_eq_true, Bool.or_eq_false_iff, Bool.and_eq_false_iff, Bool.not_eq_true', Bool.not_eq_false', Int.not_lt, Int.not_le, Decidable.not_not, V.u8eq, V.S_inj, V.S_lit, V.S_lit2, V.bl] at g16_18
            try simp only [V.mk0, V.mk1, V.mk2, V.mk3] at g16_18
            refine V.yes rfl rfl rfl ?_
            refine V.loadO T_ok Fk2 rfl rfl rfl rfl rfl ?_
            refine V.yes rfl rfl rfl ?_
            refine V.loadO T_ok Fk9 rfl rfl rfl rfl rfl ?_
            refine V.yes rfl rfl rfl ?_
            refine V.call (less_spec (a := a) (b := b) (c := c) (d := d)) rfl rfl rfl ?_
            rintro _ w481 ⟨rfl, G482⟩
            have z483 := V.Fr.size G482
            try replace Fk2 := Fk2.gr G482
            try replace Fk9 := Fk9.gr G482
            try replace Fk16 := Fk16.gr G482
            try replace Fk380 := Fk380.gr G482
            try replace Fk449 := Fk449.gr G482
            replace HG := HG.grow G482
            clear G482
            refine V.run T_ok 3 rfl ?_
            refine V.split (j := 24) (t := 117) rfl rfl (fun g16_24 => ?_) (fun g16_24 => ?_)
            ·
              try simp only [decide_eq_true_eq, decide_eq_false_iff_not, Bool.or_eq_true, Bool.and_eq_true, Bool.or_eq_false_iff, Bool.and_eq_false_iff, Bool.not_eq_true', Bool.not_eq_false', Int.not_lt, Int.not_le, Decidable.not_not, V.u8eq, V.S_inj, V.S_lit, V.S_lit2, V.bl] at g16_24
              try simp only [V.mk0, V.mk1, V.mk2, V.mk3] at g16_24
              refine V.run T_ok 7 rfl ?_
              refine V.nil ?_
              refine V.tN ?_
              refine V.ret ?_
              refine V.done rfl ?_
              exact ⟨(congrArg Value.bool (by first | rfl | (grind [maxSt, nextSt, stR]))), HG⟩
            ·
              try simp only [decide_eq_true_eq, decide_eq_false_iff_not, Bool.or_eq_true, Bool.and_eq_true, Bool.or_eq_false_iff, Bool.and_eq_false_iff, Bool.not_eq_true', Bool.not_eq_false', Int.not_lt, Int.not_le, Decidable.not_not, V.u8eq, V.S_inj, V.S_lit, V.S_lit2, V.bl] at g16_24
              try simp only [V.mk0, V.mk1, V.mk2, V.mk3] at g16_24
              refine V.yes rfl rfl rfl ?_
              refine V.loadO T_ok Fk9 rfl rfl rfl rfl rfl ?_
              refine V.yes rfl rfl rfl ?_
              refine V.loadO T_ok Fk449 rfl rfl rfl rfl rfl ?_
              refine V.yes rfl rfl rfl ?_
              refine V.call (less_spec (a := c) (b := d) (c := (((nextSt a b).1).1)) (d := (((nextSt a b).1).2))) rfl rfl rfl ?_
              rintro _ w484 ⟨rfl, G485⟩
              have z486 := V.Fr.size G485
              try replace Fk2 := Fk2.gr G485
              try replace Fk9 := Fk9.gr G485
              try replace Fk16 := Fk16.gr G485
              try replace Fk380 := Fk380.gr G485
              try replace Fk449 := Fk449.gr G485
              replace HG := HG.grow G485
              clear G485
              refine V.run T_ok 4 rfl ?_
              refine V.nil ?_
              refine V.tN ?_
              refine V.ret ?_
              refine V.done rfl ?_
              exact ⟨(congrArg Value.bool (by first | rfl | (grind [maxSt, nextSt, stR]))), HG⟩

end Go.Proofs.YtbpfojlnndkaoaaDoor
