/- For every input the law PrinterUnits returns true. Part 12 of 16. No condition. -/
import Derived.Test.YtlhikhaailhoaaaGreatDoorPUk
set_option linter.unusedVariables false
set_option linter.unnecessarySimpa false
set_option linter.unusedSimpArgs false
set_option maxRecDepth 100000
set_option maxHeartbeats 1000000
namespace Go.Proofs.YtlhikhaailhoaaaGreatDoor
open Go Go.Abs
theorem zHz (fuel : Nat) (t1 : zJC) (r : Bool) (h : zCK fuel t1 = some r) : Pure Tryz.prog 124 [.agg t1.d] (.bool r) := by
 rw [zCK] at h
 refine zAO Tryz.func124 (by rfl) (by rfl) (by simp) (by simp) (by simp) <| cutA 110 0 [(1, .mptr 0 0)] [t1.d] <| cutA 110 0 [(1, .mptr 0 0), (3, .int .i64 t1.L.length)] [t1.d] <| zAM <| cutA 110 0 [(1, .mptr 0 0), (3, .int .i64 t1.L.length), (9, .bool (eqI t1.Op 81))] [t1.d] <| spc h rfl (fun g2 h => ?_) fun g2 h => ?_
 ·obtain ⟨b9, q10, h⟩ := bs h
  refine cut 110 0 [(2, .bool b9)] [t1.d] ?_ ?_
  ·obtain ⟨v4, q5, q10⟩ := bs q10
   rcases sp q10 with ⟨g6, q10⟩ | ⟨g6, q10⟩
   ·obtain ⟨v7, q8, q10⟩ := bs q10
    obtain rfl := oi q10
    refine st ?_
    simp [g6]
    have r11 := zAG t1 false false false v4 q5
    try simp [g6] at r11
    refine zAA r11 (by simp) rfl ?_
    simp [g6]
    have r12 := zCE fuel t1 0 (t1.L.length : Int) 4 v7 q8
    try simp [g6] at r12
    refine zAA r12 (by simp) rfl ?_
    simp [g6]
   obtain rfl := oi q10
   refine st ?_
   simp [g6]
   have r13 := zAG t1 false false false v4 q5
   try simp [g6] at r13
   refine zAA r13 (by simp) rfl ?_
   simp [g6]
  refine zAB <| zAE ?_
  obtain rfl := oi h
  simp
 refine zAF <| zAP <| zAM <| cutA 110 0 [(1, .mptr 0 0), (3, .int .i64 t1.L.length), (19, .bool (eqI t1.Op 82))] [t1.d] <| spc h rfl (fun g15 h => ?_) fun g15 h => ?_
 ·obtain ⟨b23, q24, h⟩ := bs h
  refine cut 110 0 [(2, .bool b23)] [t1.d] ?_ ?_
  ·obtain ⟨v17, q18, q24⟩ := bs q24
   rcases sp q24 with ⟨g19, q24⟩ | ⟨g19, q24⟩
   ·obtain ⟨v20, q21, q24⟩ := bs q24
    rcases sp q24 with ⟨g22, q24⟩ | ⟨g22, q24⟩
    ·obtain rfl := oi q24
     refine st ?_
     simp [g19, g22]
     have r25 := zAG t1 false false true v17 q18
     try simp [g19, g22] at r25
     refine zAA r25 (by simp) rfl ?_
     simp [g19, g22]
     have r26 := zAx fuel t1.Names false v20 q21
     try simp [g19, g22] at r26
     refine zAA r26 (by simp) rfl ?_
     simp [g19, g22]
    obtain rfl := oi q24
    refine st ?_
    simp [g19, g22]
    have r27 := zAG t1 false false true v17 q18
    try simp [g19, g22] at r27
    refine zAA r27 (by simp) rfl ?_
    simp [g19, g22]
    have r28 := zAx fuel t1.Names false v20 q21
    try simp [g19, g22] at r28
    refine zAA r28 (by simp) rfl ?_
    simp [g19, g22]
   obtain rfl := oi q24
   refine st ?_
   simp [g19]
   have r29 := zAG t1 false false true v17 q18
   try simp [g19] at r29
   refine zAA r29 (by simp) rfl ?_
   simp [g19]
  refine zAB <| zAE ?_
  obtain rfl := oi h
  simp
 refine zAF <| zAP <| zAM <| cutA 110 0 [(1, .mptr 0 0), (3, .int .i64 t1.L.length), (33, .bool (eqI t1.Op 83))] [t1.d] <| spc h rfl (fun g31 h => ?_) fun g31 h => ?_
 ·obtain ⟨b60, q61, h⟩ := bs h
  refine cut 110 0 [(2, .bool b60)] [t1.d] ?_ ?_
  ·obtain ⟨v33, q34, q61⟩ := bs q61
   rcases sp q61 with ⟨g35, q61⟩ | ⟨g35, q61⟩
   ·rcases sp q61 with ⟨g36, q61⟩ | ⟨g36, q61⟩
    ·have c37 := eqT g36
     obtain ⟨v38, q39, q61⟩ := bs q61
     rcases sp q61 with ⟨g40, q61⟩ | ⟨g40, q61⟩
     ·obtain ⟨l41, q42, q61⟩ := bs q61
      obtain ⟨q43, q44⟩ := zD6 q42
      obtain ⟨v45, q46, q61⟩ := bs q61
      obtain rfl := oi q61
      refine st ?_
      simp [g35, g36, g40, q43, q44]
      have r62 := zAG t1 true true false v33 q34
      try simp [g35, g36, g40, q43, q44] at r62
      refine zAA r62 (by simp) rfl ?_
      simp [g35, g36, g40, q43, q44]
      have r63 := zA1 fuel t1.S v38 q39
      try simp [g35, g36, g40, q43, q44] at r63
      refine zAA r63 (by simp) rfl ?_
      simp [g35, g36, g40, q43, q44]
      have r64 := zAt fuel t1 l41 v45 q46
      try simp [g35, g36, g40, q43, q44] at r64
      refine zAA r64 (by simp) rfl ?_
      simp [g35, g36, g40, q43, q44]
     obtain rfl := oi q61
     refine st ?_
     simp [g35, g36, g40]
     have r65 := zAG t1 true true false v33 q34
     try simp [g35, g36, g40] at r65
     refine zAA r65 (by simp) rfl ?_
     simp [g35, g36, g40]
     have r66 := zA1 fuel t1.S v38 q39
     try simp [g35, g36, g40] at r66
     refine zAA r66 (by simp) rfl ?_
     simp [g35, g36, g40]
    have c47 := eqF g36
    rcases sp q61 with ⟨g48, q61⟩ | ⟨g48, q61⟩
    ·have c49 := eqT g48
     obtain ⟨v50, q51, q61⟩ := bs q61
     rcases sp q61 with ⟨g52, q61⟩ | ⟨g52, q61⟩
     ·obtain ⟨l53, q54, q61⟩ := bs q61
      obtain ⟨q55, q56⟩ := zD6 q54
      obtain ⟨v57, q58, q61⟩ := bs q61
      obtain rfl := oi q61
      refine st ?_
      simp [g35, g36, g48, g52, q55, q56]
      have r67 := zAG t1 true true false v33 q34
      try simp [g35, g36, g48, g52, q55, q56] at r67
      refine zAA r67 (by simp) rfl ?_
      simp [g35, g36, g48, g52, q55, q56]
      have r68 := zA1 fuel t1.S v50 q51
      try simp [g35, g36, g48, g52, q55, q56] at r68
      refine zAA r68 (by simp) rfl ?_
      simp [g35, g36, g48, g52, q55, q56]
      have r69 := zAt fuel t1 l53 v57 q58
      try simp [g35, g36, g48, g52, q55, q56] at r69
      refine zAA r69 (by simp) rfl ?_
      simp [g35, g36, g48, g52, q55, q56]
     obtain rfl := oi q61
     refine st ?_
     simp [g35, g36, g48, g52]
     have r70 := zAG t1 true true false v33 q34
     try simp [g35, g36, g48, g52] at r70
     refine zAA r70 (by simp) rfl ?_
     simp [g35, g36, g48, g52]
     have r71 := zA1 fuel t1.S v50 q51
     try simp [g35, g36, g48, g52] at r71
     refine zAA r71 (by simp) rfl ?_
     simp [g35, g36, g48, g52]
    have c59 := eqF g48
    obtain rfl := oi q61
    refine st ?_
    simp [g35, g36, g48]
    have r72 := zAG t1 true true false v33 q34
    try simp [g35, g36, g48] at r72
    refine zAA r72 (by simp) rfl ?_
    simp [g35, g36, g48]
   obtain rfl := oi q61
   refine st ?_
   simp [g35]
   have r73 := zAG t1 true true false v33 q34
   try simp [g35] at r73
   refine zAA r73 (by simp) rfl ?_
   simp [g35]
  refine zAB <| zAE ?_
  obtain rfl := oi h
  simp
 refine zAF <| zAP <| zAM <| cutA 110 0 [(1, .mptr 0 0), (3, .int .i64 t1.L.length), (58, .bool (eqI t1.Op 84))] [t1.d] <| spc h rfl (fun g75 h => ?_) fun g75 h => ?_
 ·obtain ⟨b86, q87, h⟩ := bs h
  refine cut 110 0 [(2, .bool b86)] [t1.d] ?_ ?_
  ·obtain ⟨v77, q78, q87⟩ := bs q87
   rcases sp q87 with ⟨g79, q87⟩ | ⟨g79, q87⟩
   ·obtain ⟨l80, q81, q87⟩ := bs q87
    obtain ⟨q82, q83⟩ := zD6 q81
    obtain ⟨v84, q85, q87⟩ := bs q87
    obtain rfl := oi q87
    refine st ?_
    simp [g79, q82, q83]
    have r88 := zAG t1 false false false v77 q78
    try simp [g79, q82, q83] at r88
    refine zAA r88 (by simp) rfl ?_
    simp [g79, q82, q83]
    have r89 := zAt fuel t1 l80 v84 q85
    try simp [g79, q82, q83] at r89
    refine zAA r89 (by simp) rfl ?_
    simp [g79, q82, q83]
   obtain rfl := oi q87
   refine st ?_
   simp [g79]
   have r90 := zAG t1 false false false v77 q78
   try simp [g79] at r90
   refine zAA r90 (by simp) rfl ?_
   simp [g79]
  refine zAB <| zAE ?_
  obtain rfl := oi h
  simp
 refine zAF <| zAP <| zAM <| cut 110 0 [(1, .mptr 0 0), (3, .int .i64 t1.L.length), (73, .bool ((eqI t1.Op 85) || (eqI t1.Op 86)))] [t1.d] ?_ ?_
 ·rcases tf (eqI t1.Op 85) with g92 | g92
  ·have c93 := eqT g92
   refine st ?_
   simp [g92]
  have c94 := eqF g92
  refine st ?_
  simp [g92]
 rcases sp h with ⟨g95, h⟩ | ⟨g95, h⟩
 ·refine zBE rfl g95 ?_
  obtain ⟨b105, q106, h⟩ := bs h
  refine cut 110 0 [(2, .bool b105)] [t1.d] ?_ ?_
  ·obtain ⟨v96, q97, q106⟩ := bs q106
   rcases sp q106 with ⟨g98, q106⟩ | ⟨g98, q106⟩
   ·obtain ⟨l99, q100, q106⟩ := bs q106
    obtain ⟨q101, q102⟩ := zD6 q100
    obtain ⟨v103, q104, q106⟩ := bs q106
    obtain rfl := oi q106
    refine st ?_
    simp [g98, q101, q102]
    have r107 := zAG t1 false false false v96 q97
    try simp [g98, q101, q102] at r107
    refine zAA r107 (by simp) rfl ?_
    simp [g98, q101, q102]
    have r108 := zAt fuel t1 l99 v103 q104
    try simp [g98, q101, q102] at r108
    refine zAA r108 (by simp) rfl ?_
    simp [g98, q101, q102]
   obtain rfl := oi q106
   refine st ?_
   simp [g98]
   have r109 := zAG t1 false false false v96 q97
   try simp [g98] at r109
   refine zAA r109 (by simp) rfl ?_
   simp [g98]
  refine zAB <| zAE ?_
  obtain rfl := oi h
  simp
 obtain ⟨g110, g111⟩ := orF g95
 have c112 := eqF g110
 have c113 := eqF g111
 refine zGH rfl g95 <| zAF <| zAP <| zAM <| cutA 110 0 [(1, .mptr 0 0), (3, .int .i64 t1.L.length), (83, .bool (eqI t1.Op 87))] [t1.d] <| spc h rfl (fun g114 h => ?_) fun g114 h => ?_
 ·obtain ⟨b131, q132, h⟩ := bs h
  refine cut 110 0 [(2, .bool b131)] [t1.d] ?_ ?_
  ·obtain ⟨v116, q117, q132⟩ := bs q132
   rcases sp q132 with ⟨g118, q132⟩ | ⟨g118, q132⟩
   ·rcases sp q132 with ⟨g119, q132⟩ | ⟨g119, q132⟩
    ·have c120 := leT g119
     refine zCJ 0 4 rfl rfl rfl fun f121 => ?_
     rw [List.length_map] at f121
     have q122 : Rng .i64 ((t1.L.length : Int) - 1) := by simp only [Rng, inR]; omega
     try simp at q122
     obtain ⟨v123, q124, q132⟩ := bs q132
     rcases sp q132 with ⟨g125, q132⟩ | ⟨g125, q132⟩
     ·have q126 : Rng .i64 ((t1.L.length : Int) - 1) := by simp only [Rng, inR]; omega
      try simp at q126
      obtain ⟨v127, q128, q132⟩ := bs q132
      obtain rfl := oi q132
      refine st ?_
      simp [g118, g119, q122, g125, q126]
      have r133 := zAG t1 false false false v116 q117
      try simp [g118, g119, q122, g125, q126] at r133
      refine zAA r133 (by simp) rfl ?_
      simp [g118, g119, q122, g125, q126]
      have r134 := zCE fuel t1 0 ((t1.L.length : Int) - 1) 4 v123 q124
      try simp [g118, g119, q122, g125, q126] at r134
      refine zAA r134 (by simp) rfl ?_
      simp [g118, g119, q122, g125, q126]
      have r135 := zCE fuel t1 ((t1.L.length : Int) - 1) (t1.L.length : Int) 7 v127 q128
      try simp [g118, g119, q122, g125, q126] at r135
      refine zAA r135 (by simp) rfl ?_
      simp [g118, g119, q122, g125, q126]
     obtain rfl := oi q132
     refine st ?_
     simp [g118, g119, q122, g125]
     have r136 := zAG t1 false false false v116 q117
     try simp [g118, g119, q122, g125] at r136
     refine zAA r136 (by simp) rfl ?_
     simp [g118, g119, q122, g125]
     have r137 := zCE fuel t1 0 ((t1.L.length : Int) - 1) 4 v123 q124
     try simp [g118, g119, q122, g125] at r137
     refine zAA r137 (by simp) rfl ?_
     simp [g118, g119, q122, g125]
    have c129 := leF g119
    refine zCJ 0 4 rfl rfl rfl fun f130 => ?_
    rw [List.length_map] at f130
    obtain rfl := oi q132
    refine st ?_
    simp [g118, g119]
    have r138 := zAG t1 false false false v116 q117
    try simp [g118, g119] at r138
    refine zAA r138 (by simp) rfl ?_
    simp [g118, g119]
   obtain rfl := oi q132
   refine st ?_
   simp [g118]
   have r139 := zAG t1 false false false v116 q117
   try simp [g118] at r139
   refine zAA r139 (by simp) rfl ?_
   simp [g118]
  refine zAB <| zAE ?_
  obtain rfl := oi h
  simp
 refine zAF <| zAP ?_
 obtain ⟨b150, q151, h⟩ := bs h
 refine cut 110 0 [(2, .bool b150)] [t1.d] ?_ ?_
 ·obtain ⟨v141, q142, q151⟩ := bs q151
  rcases sp q151 with ⟨g143, q151⟩ | ⟨g143, q151⟩
  ·obtain ⟨l144, q145, q151⟩ := bs q151
   obtain ⟨q146, q147⟩ := zD6 q145
   obtain ⟨v148, q149, q151⟩ := bs q151
   obtain rfl := oi q151
   refine st ?_
   simp [g143, q146, q147]
   have r152 := zAG t1 false false false v141 q142
   try simp [g143, q146, q147] at r152
   refine zAA r152 (by simp) rfl ?_
   simp [g143, q146, q147]
   have r153 := zAt fuel t1 l144 v148 q149
   try simp [g143, q146, q147] at r153
   refine zAA r153 (by simp) rfl ?_
   simp [g143, q146, q147]
  obtain rfl := oi q151
  refine st ?_
  simp [g143]
  have r154 := zAG t1 false false false v141 q142
  try simp [g143] at r154
  refine zAA r154 (by simp) rfl ?_
  simp [g143]
 refine zAB ?_
 obtain rfl := oi h
 simp
theorem ref03_form_ok (fuel : Nat) (t1 : zJC) (anonymous2 : Bool) (r : Bool) (h : zAa fuel t1 anonymous2 = some r) : Pure Tryz.prog 99 [.agg t1.d, .bool anonymous2] (.bool r) := by
 rw [zAa] at h
 refine zAO Tryz.func99 (by rfl) (by rfl) (by simp) (by simp) (by simp) <| cutA 59 0 [(1, .bool anonymous2), (2, .mptr 0 0)] [t1.d] ?_
 obtain ⟨v3, q4, h⟩ := bs h
 refine cut 59 0 [(1, .bool anonymous2), (2, .mptr 0 0), (5, .int .i64 v3)] [t1.d] ?_ ?_
 ·refine st ?_
  simp
  have r66 := zDd t1.Op v3 q4
  try simp at r66
  refine zAA r66 (by simp) rfl ?_
  simp
 refine zAM <| cut 59 0 [(2, .mptr 0 0), (5, .int .i64 v3), (18, .bool ((eqI t1.Op 43) && (!(eqB (eqS t1.S ([] : List UInt8)) anonymous2))))] [t1.d] ?_ ?_
 ·rcases tf (eqI t1.Op 43) with g5 | g5
  ·have c6 := eqT g5
   refine st ?_
   simp [g5]
  have c7 := eqF g5
  refine st ?_
  simp [g5]
 rcases sp h with ⟨g8, h⟩ | ⟨g8, h⟩
 ·obtain ⟨g9, g10⟩ := andT g8
  have c11 := eqT g9
  have g12 := notT g10
  refine zBE rfl g8 <| cutA 59 0 [(4, .bool false)] [t1.d] <| zAB <| zAE ?_
  obtain rfl := oi h
  simp
 refine zGH rfl g8 <| zAF <| zAP <| zAM <| cutA 59 0 [(2, .mptr 0 0), (5, .int .i64 v3), (20, .bool (eqI v3 1))] [t1.d] <| spc h rfl (fun g13 h => ?_) fun g13 h => ?_
 ·have c14 := eqT g13
  obtain ⟨v15, q16, h⟩ := bs h
  refine cut 59 0 [(4, .bool v15)] [t1.d] ?_ ?_
  ·refine st ?_
   simp
   have r17 := zHX fuel t1 v15 q16
   try simp at r17
   refine zAA r17 (by simp) rfl ?_
   simp
  refine zAB <| zAE ?_
  obtain rfl := oi h
  simp
 have c18 := eqF g13
 refine zAF <| zAP <| zAM <| cutA 59 0 [(2, .mptr 0 0), (5, .int .i64 v3), (24, .bool (eqI v3 2))] [t1.d] <| spc h rfl (fun g19 h => ?_) fun g19 h => ?_
 ·have c20 := eqT g19
  obtain ⟨v21, q22, h⟩ := bs h
  refine cut 59 0 [(4, .bool v21)] [t1.d] ?_ ?_
  ·refine st ?_
   simp
   have r23 := zHy fuel t1 v21 q22
   try simp at r23
   refine zAA r23 (by simp) rfl ?_
   simp
  refine zAB <| zAE ?_
  obtain rfl := oi h
  simp
 have c24 := eqF g19
 refine zAF <| zAP <| zAM <| cut 59 0 [(2, .mptr 0 0), (5, .int .i64 v3), (33, .bool ((eqI v3 3) || (eqI t1.Op 30)))] [t1.d] ?_ ?_
 ·rcases tf (eqI v3 3) with g25 | g25
  ·have c26 := eqT g25
   refine st ?_
   simp [g25]
  have c27 := eqF g25
  refine st ?_
  simp [g25]
 rcases sp h with ⟨g28, h⟩ | ⟨g28, h⟩
 ·refine zBE rfl g28 ?_
  obtain ⟨v29, q30, h⟩ := bs h
  refine cut 59 0 [(4, .bool v29)] [t1.d] ?_ ?_
  ·refine st ?_
   simp
   have r31 := zHZ fuel t1 v29 q30
   try simp at r31
   refine zAA r31 (by simp) rfl ?_
   simp
  refine zAB <| zAE ?_
  obtain rfl := oi h
  simp
 obtain ⟨g32, g33⟩ := orF g28
 have c34 := eqF g32
 have c35 := eqF g33
 refine zGH rfl g28 <| zAF <| zAP <| zAM <| cut 59 0 [(2, .mptr 0 0), (5, .int .i64 v3), (42, .bool ((eqI v3 4) || (eqI t1.Op 45)))] [t1.d] ?_ ?_
 ·rcases tf (eqI v3 4) with g36 | g36
  ·have c37 := eqT g36
   refine st ?_
   simp [g36]
  have c38 := eqF g36
  refine st ?_
  simp [g36]
 rcases sp h with ⟨g39, h⟩ | ⟨g39, h⟩
 ·refine zBE rfl g39 ?_
  obtain ⟨v40, q41, h⟩ := bs h
  refine cut 59 0 [(4, .bool v40)] [t1.d] ?_ ?_
  ·refine st ?_
   simp
   have r42 := zHa fuel t1 v40 q41
   try simp at r42
   refine zAA r42 (by simp) rfl ?_
   simp
  refine zAB <| zAE ?_
  obtain rfl := oi h
  simp
 obtain ⟨g43, g44⟩ := orF g39
 have c45 := eqF g43
 have c46 := eqF g44
 refine zGH rfl g39 <| zAF <| zAP <| zAM <| cut 59 0 [(2, .mptr 0 0), (5, .int .i64 v3), (50, .bool ((eqI v3 5) || (eqI v3 6)))] [t1.d] ?_ ?_
 ·rcases tf (eqI v3 5) with g47 | g47
  ·have c48 := eqT g47
   refine st ?_
   simp [g47]
  have c49 := eqF g47
  refine st ?_
  simp [g47]
 rcases sp h with ⟨g50, h⟩ | ⟨g50, h⟩
 ·refine zBE rfl g50 ?_
  obtain ⟨v51, q52, h⟩ := bs h
  refine cut 59 0 [(4, .bool v51)] [t1.d] ?_ ?_
  ·refine st ?_
   simp
   have r53 := zHY fuel t1 v51 q52
   try simp at r53
   refine zAA r53 (by simp) rfl ?_
   simp
  refine zAB <| zAE ?_
  obtain rfl := oi h
  simp
 obtain ⟨g54, g55⟩ := orF g50
 have c56 := eqF g54
 have c57 := eqF g55
 refine zGH rfl g50 <| zAF <| zAP ?_
 obtain ⟨b63, q64, h⟩ := bs h
 refine cut 59 0 [(4, .bool b63)] [t1.d] ?_ ?_
 ·rcases sp q64 with ⟨g58, q64⟩ | ⟨g58, q64⟩
  ·have c59 := eqT g58
   obtain ⟨v60, q61, q64⟩ := bs q64
   obtain rfl := oi q64
   refine st ?_
   simp [g58]
   have r65 := zHz fuel t1 v60 q61
   try simp [g58] at r65
   refine zAA r65 (by simp) rfl ?_
   simp [g58]
  have c62 := eqF g58
  obtain rfl := oi q64
  refine st ?_
  simp [g58]
 refine zAB ?_
 obtain rfl := oi h
 simp
theorem zIq (fuel : Nat) : (∀ (t1 : zJC) (anonymous2 : Bool) (r : Bool) (_ : zC9 fuel t1 anonymous2 = some r), Pure Tryz.prog 70 [.agg t1.d, .bool anonymous2] (.bool r)) := by
 induction fuel with
 | zero => intro t1 anonymous2 r h; rw [zC9] at h; cases h
 | succ fuel zGw =>
  intro t1 anonymous2 r h
  rw [zC9] at h
  refine zAO Tryz.func70 (by rfl) (by rfl) (by simp) (by simp) (by simp) <| cutA 31 0 [(1, .bool anonymous2), (2, .mptr 0 0)] [t1.d] <| zAM ?_
  obtain ⟨v3, q4, h⟩ := bs h
  refine cut 31 0 [(2, .mptr 0 0), (9, .bool (!v3))] [t1.d] ?_ ?_
  ·refine st ?_
   simp
   have r35 := ref03_form_ok fuel t1 anonymous2 v3 q4
   try simp at r35
   refine zAA r35 (by simp) rfl ?_
   simp
  refine spc h rfl (fun g5 h => ?_) fun g5 h => ?_
  ·have g6 := notT g5
   refine cutA 31 0 [(4, .bool false)] [t1.d] <| zAB <| zAE ?_
   obtain rfl := oi h
   simp
  have g7 := notF g5
  refine zAF <| zAP <| zAM <| cutA 31 0 [(2, .mptr 0 0), (5, .int .i64 0)] [t1.d] <| zAU ?_
  obtain ⟨o10, l11, h⟩ := bs h
  refine zB2 (fun p : Nat × Nat => mkS 31 0 [(2, .mptr 0 0), (5, .int .i64 p.2)] [t1.d]) (fun p => zB8 (zC9 fuel) t1 p.1 p.2 = some o10) (fun p => p.1) (fuel, 0) l11 (zBS (by simp)) ?_
  rintro ⟨k12, i8⟩ l11
  dsimp only at l11 ⊢
  cases k12 with
  | zero =>
   rw [zB8] at l11; cases l11
  | succ k13 =>
   rw [zB8] at l11
   refine zAM <| cutA 31 0 [(2, .mptr 0 0), (5, .int .i64 i8), (14, .bool (ltI ((i8 : Nat) : Int) (t1.L.length : Int)))] [t1.d] <| spc l11 rfl (fun g14 l11 => ?_) fun g14 l11 => ?_
   ·have c15 := ltT g14
    refine zCJ 0 4 rfl rfl rfl fun f16 => ?_
    rw [List.length_map] at f16
    refine zAF <| zAP <| zAM <| zAU ?_
    obtain ⟨b26, q27, l11⟩ := bs l11
    refine cut 31 0 [(2, .mptr 0 0), (5, .int .i64 i8), (30, .bool b26)] [t1.d] ?_ ?_
    ·obtain ⟨x17, q18, q27⟩ := bs q27
     rcases sp q27 with ⟨g19, q27⟩ | ⟨g19, q27⟩
     ·have c20 := eqT g19
      obtain ⟨v21, q22, q27⟩ := bs q27
      obtain rfl := oi q27
      refine zAW [] mixed (n := 31) rfl (by decide) ?_
      simp [q18, g19]
      have r30 := zGw x17 (eqI ((i8 : Nat) : Int) 1) v21 q22
      try simp [q18, g19] at r30
      refine zDT r30 (by simp) rfl ?_
      simp [q18, g19]
     have c23 := eqF g19
     obtain ⟨v24, q25, q27⟩ := bs q27
     obtain rfl := oi q27
     refine zAW [] mixed (n := 31) rfl (by decide) ?_
     simp [q18, g19]
     have r31 := zGw x17 false v24 q25
     try simp [q18, g19] at r31
     refine zDT r31 (by simp) rfl ?_
     simp [q18, g19]
    refine spc l11 rfl (fun g28 l11 => ?_) fun g28 l11 => ?_
    ·refine cutA 31 0 [(4, .bool false)] [t1.d] <| zAB <| zAJ <| zAE ?_
     replace h := retL l11 h
     refine zAE <| zAJ <| zAE ?_
     obtain rfl := oi h
     simp
    refine zAF <| zCx <| zAP ?_
    have q29 : Rng .i64 (((i8 : Nat) : Int) + 1) := by simp only [Rng, inR]; omega
    try simp at q29
    refine last 31 0 [(2, .mptr 0 0), (5, .int .i64 ((i8 + 1 : Nat) : Int))] [t1.d] (st (by simp [q29])) fun zz hs => ?_
    exact ⟨(k13, i8 + 1), hs, l11, by simp⟩
   have c32 := ltF g14
   refine zCJ 0 4 rfl rfl rfl fun f33 => ?_
   rw [List.length_map] at f33
   refine zBR <| zAc ?_
   rcases o10 with o10 | o9
   ·cases l11
   have q34 := Sum.inr.inj (Option.some.inj l11)
   replace h := zFp h
   refine zAc <| zBQ <| zBT (t := mkS 31 0 [] [t1.d]) ?_ (zBS (by simp))
   refine cutA 31 0 [(4, .bool true)] [t1.d] <| zAB ?_
   obtain rfl := oi h
   simp
theorem zIJ (fuel : Nat) (t1 : zJC) (r : Bool) (h : zEi fuel t1 = some r) : Pure Tryz.prog 41 [.agg t1.d] (.bool r) := by
 rw [zEi] at h
 refine zAO Tryz.func41 (by rfl) (by rfl) (by simp) (by simp) (by simp) <| cutA 15 0 [(1, .mptr 0 0)] [t1.d] ?_
 obtain ⟨b14, q15, h⟩ := bs h
 refine cut 15 0 [(2, .bool b14)] [t1.d] ?_ ?_
 ·obtain ⟨v2, q3, q15⟩ := bs q15
  rcases sp q15 with ⟨g4, q15⟩ | ⟨g4, q15⟩
  ·have c5 := leT g4
   obtain ⟨v6, q7, q15⟩ := bs q15
   rcases sp q15 with ⟨g8, q15⟩ | ⟨g8, q15⟩
   ·have c9 := leT g8
    obtain ⟨v10, q11, q15⟩ := bs q15
    obtain rfl := oi q15
    refine st ?_
    simp [g4, g8]
    have r16 := zFy fuel t1 v2 q3
    try simp [g4, g8] at r16
    refine zAA r16 (by simp) rfl ?_
    simp [g4, g8]
    have r17 := zGn fuel t1 v6 q7
    try simp [g4, g8] at r17
    refine zAA r17 (by simp) rfl ?_
    simp [g4, g8]
    have r18 := zIq fuel t1 false v10 q11
    try simp [g4, g8] at r18
    refine zAA r18 (by simp) rfl ?_
    simp [g4, g8]
   have c12 := leF g8
   obtain rfl := oi q15
   refine st ?_
   simp [g4, g8]
   have r19 := zFy fuel t1 v2 q3
   try simp [g4, g8] at r19
   refine zAA r19 (by simp) rfl ?_
   simp [g4, g8]
   have r20 := zGn fuel t1 v6 q7
   try simp [g4, g8] at r20
   refine zAA r20 (by simp) rfl ?_
   simp [g4, g8]
  have c13 := leF g4
  obtain rfl := oi q15
  refine st ?_
  simp [g4]
  have r21 := zFy fuel t1 v2 q3
  try simp [g4] at r21
  refine zAA r21 (by simp) rfl ?_
  simp [g4]
 refine zAB ?_
 obtain rfl := oi h
 simp
theorem zGm (fuel : Nat) (cat1 : Int) (t2 : zJC) (r : Bool) (h : zDq fuel cat1 t2 = some r) : Pure Tryz.prog 24 [.int .i64 cat1, .agg t2.d] (.bool r) := by
 rw [zDq] at h
 refine zAO Tryz.func24 (by rfl) (by rfl) (by simp) (by simp) (by simp) <| cutA 21 0 [(0, .int .i64 cat1), (3, .mptr 0 0)] [t2.d] ?_
 obtain ⟨b14, q15, h⟩ := bs h
 refine cut 21 0 [(4, .bool b14)] [t2.d] ?_ ?_
 ·rcases sp q15 with ⟨g3, q15⟩ | ⟨g3, q15⟩
  ·have c4 := leT g3
   rcases sp q15 with ⟨g5, q15⟩ | ⟨g5, q15⟩
   ·have c6 := leT g5
    obtain ⟨v7, q8, q15⟩ := bs q15
    rcases sp q15 with ⟨g9, q15⟩ | ⟨g9, q15⟩
    ·obtain ⟨v10, q11, q15⟩ := bs q15
     obtain rfl := oi q15
     refine st ?_
     simp [g3, g5, g9]
     have r16 := zEa t2.Op cat1 v7 q8
     try simp [g3, g5, g9] at r16
     refine zAA r16 (by simp) rfl ?_
     simp [g3, g5, g9]
     have r17 := zIJ fuel t2 v10 q11
     try simp [g3, g5, g9] at r17
     refine zAA r17 (by simp) rfl ?_
     simp [g3, g5, g9]
    obtain rfl := oi q15
    refine st ?_
    simp [g3, g5, g9]
    have r18 := zEa t2.Op cat1 v7 q8
    try simp [g3, g5, g9] at r18
    refine zAA r18 (by simp) rfl ?_
    simp [g3, g5, g9]
   have c12 := leF g5
   obtain rfl := oi q15
   refine st ?_
   simp [g3, g5]
  have c13 := leF g3
  obtain rfl := oi q15
  refine st ?_
  simp [g3]
 refine zAB ?_
 obtain rfl := oi h
 simp
theorem zFn (n1 : Int) (r : Int) (h : zDp n1 = some r) : Pure Tryz.prog 27 [.int .i64 n1] (.int .i64 r) := by
 rw [zDp] at h
 refine zAO Tryz.func27 (by rfl) (by rfl) (by simp) (by simp) (by simp) <| cutA 23 0 [(0, .int .i64 n1)] [] <| zAM <| cutA 23 0 [(3, .int .i64 n1)] [] <| zAU <| cutA 23 0 [(3, .int .i64 n1), (4, .bool (eqI n1 1))] [] <| spc h rfl (fun g2 h => ?_) fun g2 h => ?_
 ·refine cutA 23 0 [(2, .int .i64 1)] [] <| zAB <| zAJ <| zAE ?_
  obtain rfl := oi h
  simp
 refine cutA 23 0 [(3, .int .i64 n1), (6, .bool (eqI n1 2))] [] <| spc h rfl (fun g5 h => ?_) fun g5 h => ?_
 ·refine cutA 23 0 [(2, .int .i64 2)] [] <| zAB <| zAJ <| zAE ?_
  obtain rfl := oi h
  simp
 refine zAM <| cutA 23 0 [(3, .int .i64 n1), (8, .bool (eqI n1 3))] [] <| spc h rfl (fun g8 h => ?_) fun g8 h => ?_
 ·refine zAF <| zAP <| zBE rfl (by simp [g8]) <| cutA 23 0 [(2, .int .i64 3)] [] <| zAB <| zAJ <| zAE ?_
  obtain rfl := oi h
  simp
 refine cutA 23 0 [(3, .int .i64 n1), (8, .bool (eqI n1 4))] [] <| spc h rfl (fun g11 h => ?_) fun g11 h => ?_
 ·refine zAF <| zAP <| zBE rfl (by simp [g11]) <| cutA 23 0 [(2, .int .i64 3)] [] <| zAB <| zAJ <| zAE ?_
  obtain rfl := oi h
  simp
 refine zEf 23 0 [(3, .int .i64 n1), (8, .bool (eqI n1 5))] [] <| spc h rfl (fun g14 h => ?_) fun g14 h => ?_
 ·have c15 := eqT g14
  refine cutA 23 0 [(2, .int .i64 3)] [] <| zAB <| zAJ <| zAE ?_
  obtain rfl := oi h
  simp
 have c16 := eqF g14
 refine cutA 23 0 [(3, .int .i64 n1), (12, .bool (eqI n1 6))] [] <| spc h rfl (fun g17 h => ?_) fun g17 h => ?_
 ·refine cutA 23 0 [(2, .int .i64 4)] [] <| zAB <| zAJ <| zAE ?_
  obtain rfl := oi h
  simp
 refine zAM <| cutA 23 0 [(3, .int .i64 n1), (14, .bool (eqI n1 7))] [] <| spc h rfl (fun g20 h => ?_) fun g20 h => ?_
 ·refine zAF <| zAP <| zBE rfl (by simp [g20]) <| cutA 23 0 [(2, .int .i64 5)] [] <| zAB <| zAJ <| zAE ?_
  obtain rfl := oi h
  simp
 refine zEf 23 0 [(3, .int .i64 n1), (14, .bool (eqI n1 8))] [] <| spc h rfl (fun g23 h => ?_) fun g23 h => ?_
 ·have c24 := eqT g23
  refine cutA 23 0 [(2, .int .i64 5)] [] <| zAB <| zAJ <| zAE ?_
  obtain rfl := oi h
  simp
 have c25 := eqF g23
 refine zAM <| cutA 23 0 [(3, .int .i64 n1), (17, .bool (eqI n1 9))] [] <| spc h rfl (fun g26 h => ?_) fun g26 h => ?_
 ·refine zAF <| zAP <| zBE rfl (by simp [g26]) <| cutA 23 0 [(2, .int .i64 6)] [] <| zAB <| zAJ <| zAE ?_
  obtain rfl := oi h
  simp
 refine cutA 23 0 [(3, .int .i64 n1), (17, .bool (eqI n1 10))] [] <| spc h rfl (fun g29 h => ?_) fun g29 h => ?_
 ·refine zAF <| zAP <| zBE rfl (by simp [g29]) <| cutA 23 0 [(2, .int .i64 6)] [] <| zAB <| zAJ <| zAE ?_
  obtain rfl := oi h
  simp
 refine zEf 23 0 [(3, .int .i64 n1), (17, .bool (eqI n1 11))] [] <| spc h rfl (fun g32 h => ?_) fun g32 h => ?_
 ·have c33 := eqT g32
  refine cutA 23 0 [(2, .int .i64 6)] [] <| zAB <| zAJ <| zAE ?_
  obtain rfl := oi h
  simp
 have c34 := eqF g32
 refine cutA 23 0 [(21, .bool (eqI n1 12))] [] <| spc h rfl (fun g35 h => ?_) fun g35 h => ?_
 ·refine cutA 23 0 [(2, .int .i64 7)] [] <| zAB <| zAJ <| zAE ?_
  obtain rfl := oi h
  simp
 refine zAF <| zCx <| zAP <| cutA 23 0 [(2, .int .i64 0)] [] <| zAB ?_
 obtain rfl := oi h
 simp
theorem zIp (t1 : zJC) (r : Int) (h : zE2 t1 = some r) : Pure Tryz.prog 10 [.agg t1.d] (.int .i64 r) := by
 rw [zE2] at h
 refine zAO Tryz.func10 (by rfl) (by rfl) (by simp) (by simp) (by simp) <| cutA 55 0 [(1, .mptr 0 0)] [t1.d] <| zAM <| cutA 55 0 [(1, .mptr 0 0), (4, .int .i64 t1.Op)] [t1.d] <| zAU <| zAM <| cutA 55 0 [(1, .mptr 0 0), (4, .int .i64 t1.Op), (5, .bool (eqI t1.Op 4))] [t1.d] ?_
 refine spc h rfl (fun g2 h => ?_) fun g2 h => ?_
 ·refine zAF <| zAP <| zBE rfl (by simp [g2]) <| cutA 55 0 [(2, .int .i64 1)] [t1.d] <| zAB <| zAJ <| zAE ?_
  obtain rfl := oi h
  simp
 refine cutA 55 0 [(1, .mptr 0 0), (4, .int .i64 t1.Op), (5, .bool (eqI t1.Op 74))] [t1.d] <| spc h rfl (fun g5 h => ?_) fun g5 h => ?_
 ·refine zAF <| zAP <| zBE rfl (by simp [g5]) <| cutA 55 0 [(2, .int .i64 1)] [t1.d] <| zAB <| zAJ <| zAE ?_
  obtain rfl := oi h
  simp
 refine cutA 55 0 [(1, .mptr 0 0), (4, .int .i64 t1.Op), (5, .bool (eqI t1.Op 85))] [t1.d] <| spc h rfl (fun g8 h => ?_) fun g8 h => ?_
 ·refine zAF <| zAP <| zBE rfl (by simp [g8]) <| cutA 55 0 [(2, .int .i64 1)] [t1.d] <| zAB <| zAJ <| zAE ?_
  obtain rfl := oi h
  simp
 refine zEf 55 0 [(1, .mptr 0 0), (4, .int .i64 t1.Op), (5, .bool (eqI t1.Op 86))] [t1.d] <| spc h rfl (fun g11 h => ?_) fun g11 h => ?_
 ·have c12 := eqT g11
  refine cutA 55 0 [(2, .int .i64 1)] [t1.d] <| zAB <| zAJ <| zAE ?_
  obtain rfl := oi h
  simp
 have c13 := eqF g11
 refine cutA 55 0 [(1, .mptr 0 0), (4, .int .i64 t1.Op), (10, .bool (eqI t1.Op 2))] [t1.d] <| spc h rfl (fun g14 h => ?_) fun g14 h => ?_
 ·refine zAM <| cutA 55 0 [(15, .bool (ltI 0 (t1.L.length : Int)))] [t1.d] <| spc h rfl (fun g16 h => ?_) fun g16 h => ?_
  ·have c17 := ltT g16
   refine zCJ 0 4 rfl rfl rfl fun f18 => ?_
   rw [List.length_map] at f18
   refine cutA 55 0 [(2, .int .i64 2)] [t1.d] <| zAB <| zAE <| zAJ <| zAE ?_
   obtain rfl := oi h
   simp
  have c19 := ltF g16
  refine zCJ 0 4 rfl rfl rfl fun f20 => ?_
  rw [List.length_map] at f20
  refine zAF <| zAP <| cutA 55 0 [(2, .int .i64 3)] [t1.d] <| zAB <| zAJ <| zAE ?_
  obtain rfl := oi h
  simp
 refine zAM <| cutA 55 0 [(1, .mptr 0 0), (4, .int .i64 t1.Op), (16, .bool (eqI t1.Op 1))] [t1.d] <| spc h rfl (fun g22 h => ?_) fun g22 h => ?_
 ·refine zAF <| zAP <| zBE rfl (by simp [g22]) <| cutA 55 0 [(2, .int .i64 3)] [t1.d] <| zAB <| zAJ <| zAE ?_
  obtain rfl := oi h
  simp
 refine cutA 55 0 [(1, .mptr 0 0), (4, .int .i64 t1.Op), (16, .bool (eqI t1.Op 5))] [t1.d] <| spc h rfl (fun g25 h => ?_) fun g25 h => ?_
 ·refine zAF <| zAP <| zBE rfl (by simp [g25]) <| cutA 55 0 [(2, .int .i64 3)] [t1.d] <| zAB <| zAJ <| zAE ?_
  obtain rfl := oi h
  simp
 refine cutA 55 0 [(1, .mptr 0 0), (4, .int .i64 t1.Op), (16, .bool (eqI t1.Op 81))] [t1.d] <| spc h rfl (fun g28 h => ?_) fun g28 h => ?_
 ·refine zAF <| zAP <| zBE rfl (by simp [g28]) <| cutA 55 0 [(2, .int .i64 3)] [t1.d] <| zAB <| zAJ <| zAE ?_
  obtain rfl := oi h
  simp
 refine cutA 55 0 [(1, .mptr 0 0), (4, .int .i64 t1.Op), (16, .bool (eqI t1.Op 82))] [t1.d] <| spc h rfl (fun g31 h => ?_) fun g31 h => ?_
 ·refine zAF <| zAP <| zBE rfl (by simp [g31]) <| cutA 55 0 [(2, .int .i64 3)] [t1.d] <| zAB <| zAJ <| zAE ?_
  obtain rfl := oi h
  simp
 refine cutA 55 0 [(1, .mptr 0 0), (4, .int .i64 t1.Op), (16, .bool (eqI t1.Op 87))] [t1.d] <| spc h rfl (fun g34 h => ?_) fun g34 h => ?_
 ·refine zAF <| zAP <| zBE rfl (by simp [g34]) <| cutA 55 0 [(2, .int .i64 3)] [t1.d] <| zAB <| zAJ <| zAE ?_
  obtain rfl := oi h
  simp
 refine zEf 55 0 [(1, .mptr 0 0), (4, .int .i64 t1.Op), (16, .bool (eqI t1.Op 88))] [t1.d] <| spc h rfl (fun g37 h => ?_) fun g37 h => ?_
 ·have c38 := eqT g37
  refine cutA 55 0 [(2, .int .i64 3)] [t1.d] <| zAB <| zAJ <| zAE ?_
  obtain rfl := oi h
  simp
 have c39 := eqF g37
 refine cutA 55 0 [(1, .mptr 0 0), (4, .int .i64 t1.Op), (23, .bool (eqI t1.Op 14))] [t1.d] <| spc h rfl (fun g40 h => ?_) fun g40 h => ?_
 ·refine zAM <| cutA 55 0 [(28, .bool (ltI 0 (t1.L.length : Int)))] [t1.d] <| spc h rfl (fun g42 h => ?_) fun g42 h => ?_
  ·have c43 := ltT g42
   refine zCJ 0 4 rfl rfl rfl fun f44 => ?_
   rw [List.length_map] at f44
   refine cutA 55 0 [(2, .int .i64 0)] [t1.d] <| zAB <| zAE <| zAJ <| zAE ?_
   obtain rfl := oi h
   simp
  have c45 := ltF g42
  refine zCJ 0 4 rfl rfl rfl fun f46 => ?_
  rw [List.length_map] at f46
  refine zAF <| zAP <| cutA 55 0 [(2, .int .i64 1)] [t1.d] <| zAB <| zAJ <| zAE ?_
  obtain rfl := oi h
  simp
 refine zAM <| cutA 55 0 [(1, .mptr 0 0), (4, .int .i64 t1.Op), (29, .bool (eqI t1.Op 11))] [t1.d] <| spc h rfl (fun g48 h => ?_) fun g48 h => ?_
 ·refine zAF <| zAP <| zBE rfl (by simp [g48]) <| cutA 55 0 [(2, .int .i64 1)] [t1.d] <| zAB <| zAJ <| zAE ?_
  obtain rfl := oi h
  simp
 refine cutA 55 0 [(1, .mptr 0 0), (4, .int .i64 t1.Op), (29, .bool (eqI t1.Op 12))] [t1.d] <| spc h rfl (fun g51 h => ?_) fun g51 h => ?_
 ·refine zAF <| zAP <| zBE rfl (by simp [g51]) <| cutA 55 0 [(2, .int .i64 1)] [t1.d] <| zAB <| zAJ <| zAE ?_
  obtain rfl := oi h
  simp
 refine cutA 55 0 [(1, .mptr 0 0), (4, .int .i64 t1.Op), (29, .bool (eqI t1.Op 13))] [t1.d] <| spc h rfl (fun g54 h => ?_) fun g54 h => ?_
 ·refine zAF <| zAP <| zBE rfl (by simp [g54]) <| cutA 55 0 [(2, .int .i64 1)] [t1.d] <| zAB <| zAJ <| zAE ?_
  obtain rfl := oi h
  simp
 refine zEf 55 0 [(1, .mptr 0 0), (4, .int .i64 t1.Op), (29, .bool (eqI t1.Op 15))] [t1.d] <| spc h rfl (fun g57 h => ?_) fun g57 h => ?_
 ·have c58 := eqT g57
  refine cutA 55 0 [(2, .int .i64 1)] [t1.d] <| zAB <| zAJ <| zAE ?_
  obtain rfl := oi h
  simp
 have c59 := eqF g57
 refine cutA 55 0 [(1, .mptr 0 0), (4, .int .i64 t1.Op), (34, .bool (eqI t1.Op 32))] [t1.d] <| spc h rfl (fun g60 h => ?_) fun g60 h => ?_
 ·obtain ⟨v62, q63, h⟩ := bs h
  refine cut 55 0 [(2, .int .i64 v62)] [t1.d] ?_ ?_
  ·refine st ?_
   simp
   have r64 := zFn t1.N v62 q63
   try simp at r64
   refine zAA r64 (by simp) rfl ?_
   simp
  refine zAB <| zAJ <| zAE ?_
  obtain rfl := oi h
  simp
 refine cutA 55 0 [(4, .int .i64 t1.Op), (39, .bool (eqI t1.Op 26))] [t1.d] <| spc h rfl (fun g66 h => ?_) fun g66 h => ?_
 ·refine cutA 55 0 [(2, .int .i64 8)] [t1.d] <| zAB <| zAJ <| zAE ?_
  obtain rfl := oi h
  simp
 refine zAM <| cutA 55 0 [(4, .int .i64 t1.Op), (41, .bool (eqI t1.Op 21))] [t1.d] <| spc h rfl (fun g69 h => ?_) fun g69 h => ?_
 ·refine zAF <| zAP <| zBE rfl (by simp [g69]) <| cutA 55 0 [(2, .int .i64 9)] [t1.d] <| zAB <| zAJ <| zAE ?_
  obtain rfl := oi h
  simp
 refine cutA 55 0 [(4, .int .i64 t1.Op), (41, .bool (eqI t1.Op 22))] [t1.d] <| spc h rfl (fun g72 h => ?_) fun g72 h => ?_
 ·refine zAF <| zAP <| zBE rfl (by simp [g72]) <| cutA 55 0 [(2, .int .i64 9)] [t1.d] <| zAB <| zAJ <| zAE ?_
  obtain rfl := oi h
  simp
 refine cutA 55 0 [(4, .int .i64 t1.Op), (41, .bool (eqI t1.Op 23))] [t1.d] <| spc h rfl (fun g75 h => ?_) fun g75 h => ?_
 ·refine zAF <| zAP <| zBE rfl (by simp [g75]) <| cutA 55 0 [(2, .int .i64 9)] [t1.d] <| zAB <| zAJ <| zAE ?_
  obtain rfl := oi h
  simp
 refine cutA 55 0 [(4, .int .i64 t1.Op), (41, .bool (eqI t1.Op 24))] [t1.d] <| spc h rfl (fun g78 h => ?_) fun g78 h => ?_
 ·refine zAF <| zAP <| zBE rfl (by simp [g78]) <| cutA 55 0 [(2, .int .i64 9)] [t1.d] <| zAB <| zAJ <| zAE ?_
  obtain rfl := oi h
  simp
 refine cutA 55 0 [(4, .int .i64 t1.Op), (41, .bool (eqI t1.Op 27))] [t1.d] <| spc h rfl (fun g81 h => ?_) fun g81 h => ?_
 ·refine zAF <| zAP <| zBE rfl (by simp [g81]) <| cutA 55 0 [(2, .int .i64 9)] [t1.d] <| zAB <| zAJ <| zAE ?_
  obtain rfl := oi h
  simp
 refine cutA 55 0 [(4, .int .i64 t1.Op), (41, .bool (eqI t1.Op 29))] [t1.d] <| spc h rfl (fun g84 h => ?_) fun g84 h => ?_
 ·refine zAF <| zAP <| zBE rfl (by simp [g84]) <| cutA 55 0 [(2, .int .i64 9)] [t1.d] <| zAB <| zAJ <| zAE ?_
  obtain rfl := oi h
  simp
 refine cutA 55 0 [(4, .int .i64 t1.Op), (41, .bool (eqI t1.Op 31))] [t1.d] <| spc h rfl (fun g87 h => ?_) fun g87 h => ?_
 ·refine zAF <| zAP <| zBE rfl (by simp [g87]) <| cutA 55 0 [(2, .int .i64 9)] [t1.d] <| zAB <| zAJ <| zAE ?_
  obtain rfl := oi h
  simp
 refine cutA 55 0 [(4, .int .i64 t1.Op), (41, .bool (eqI t1.Op 33))] [t1.d] <| spc h rfl (fun g90 h => ?_) fun g90 h => ?_
 ·refine zAF <| zAP <| zBE rfl (by simp [g90]) <| cutA 55 0 [(2, .int .i64 9)] [t1.d] <| zAB <| zAJ <| zAE ?_
  obtain rfl := oi h
  simp
 refine zEf 55 0 [(4, .int .i64 t1.Op), (41, .bool (eqI t1.Op 34))] [t1.d] <| spc h rfl (fun g93 h => ?_) fun g93 h => ?_
 ·have c94 := eqT g93
  refine cutA 55 0 [(2, .int .i64 9)] [t1.d] <| zAB <| zAJ <| zAE ?_
  obtain rfl := oi h
  simp
 have c95 := eqF g93
 refine zAM <| cutA 55 0 [(4, .int .i64 t1.Op), (51, .bool (eqI t1.Op 71))] [t1.d] <| spc h rfl (fun g96 h => ?_) fun g96 h => ?_
 ·refine zAF <| zAP <| zBE rfl (by simp [g96]) <| cutA 55 0 [(2, .int .i64 2)] [t1.d] <| zAB <| zAJ <| zAE ?_
  obtain rfl := oi h
  simp
 refine cutA 55 0 [(4, .int .i64 t1.Op), (51, .bool (eqI t1.Op 72))] [t1.d] <| spc h rfl (fun g99 h => ?_) fun g99 h => ?_
 ·refine zAF <| zAP <| zBE rfl (by simp [g99]) <| cutA 55 0 [(2, .int .i64 2)] [t1.d] <| zAB <| zAJ <| zAE ?_
  obtain rfl := oi h
  simp
 refine zEf 55 0 [(51, .bool (eqI t1.Op 84))] [t1.d] <| spc h rfl (fun g102 h => ?_) fun g102 h => ?_
 ·have c103 := eqT g102
  refine cutA 55 0 [(2, .int .i64 2)] [t1.d] <| zAB <| zAJ <| zAE ?_
  obtain rfl := oi h
  simp
 have c104 := eqF g102
 refine zAF <| zCx <| zAP <| cutA 55 0 [(2, .int .i64 0)] [t1.d] <| zAB ?_
 obtain rfl := oi h
 simp
theorem zEA (fuel : Nat) (l1 : (List (List UInt8))) (between2 : (List UInt8)) (r : (List UInt8)) (h : zCi fuel l1 between2 = some r) : Pure Tryz.prog 34 [.sl (l1.map cS), .str between2] (.str r) := by
 rw [zCi] at h
 refine zAO Tryz.func34 (by rfl) (by rfl) (by simp) (by simp) (by simp) <| cutA 25 0 [(0, .sl (l1.map cS)), (1, .str between2)] [] <| cutA 25 0 [(0, .sl (l1.map cS)), (1, .str between2), (5, .str ([] : List UInt8))] [] <| zAM <| cutA 25 0 [(0, .sl (l1.map cS)), (1, .str between2), (5, .str ([] : List UInt8)), (6, .int .i64 0)] [] <| zAU ?_
 obtain ⟨o5, l6, h⟩ := bs h
 refine zB2 (fun p : Nat × (List UInt8) × Nat => mkS 25 0 [(0, .sl (l1.map cS)), (1, .str between2), (5, .str p.2.1), (6, .int .i64 p.2.2)] []) (fun p => zCB l1 between2 p.1 p.2.1 p.2.2 = some o5) (fun p => p.1) (fuel, ([] : List UInt8), 0) l6 (zBS (by simp)) ?_
 rintro ⟨k7, s3, i4⟩ l6
 dsimp only at l6 ⊢
 cases k7 with
 | zero =>
  rw [zCB] at l6; cases l6
 | succ k8 =>
  rw [zCB] at l6
  refine zAM <| cutA 25 0 [(0, .sl (l1.map cS)), (1, .str between2), (5, .str s3), (6, .int .i64 i4), (10, .bool (ltI ((i4 : Nat) : Int) (l1.length : Int)))] [] <| spc l6 rfl (fun g9 l6 => ?_) fun g9 l6 => ?_
  ·have c10 := ltT g9
   refine zD3 0 rfl fun f11 => ?_
   rw [List.length_map] at f11
   refine zAF <| zAP <| zAM <| zAU <| zAM <| cutA 25 0 [(0, .sl (l1.map cS)), (1, .str between2), (5, .str s3), (6, .int .i64 i4), (14, .bool (ltI 0 ((i4 : Nat) : Int)))] [] <| spc l6 rfl (fun g12 l6 => ?_) fun g12 l6 => ?_
   ·have c13 := ltT g12
    obtain ⟨s14, q15, l6⟩ := bs l6
    obtain ⟨q16, q17⟩ := zAf q15
    try simp at q16
    try simp at q17
    refine last 25 0 [(0, .sl (l1.map cS)), (1, .str between2), (5, .str s14), (6, .int .i64 i4)] [] (st (by simp [q16, q17])) fun zz hs => ?_
    refine zBT ?_ hs
    obtain ⟨x18, q19, l6⟩ := bs l6
    obtain ⟨s20, q21, l6⟩ := bs l6
    obtain ⟨q22, q23⟩ := zAf q21
    try simp at q22
    try simp at q23
    refine last 25 0 [(0, .sl (l1.map cS)), (1, .str between2), (5, .str s20), (6, .int .i64 i4)] [] (st (by simp [q19, q22, q23])) fun zz hs => ?_
    refine zCx <| zBT ?_ hs
    have q24 : Rng .i64 (((i4 : Nat) : Int) + 1) := by simp only [Rng, inR]; omega
    try simp at q24
    refine last 25 0 [(0, .sl (l1.map cS)), (1, .str between2), (5, .str s20), (6, .int .i64 ((i4 + 1 : Nat) : Int))] [] (st (by simp [q24])) fun zz hs => ?_
    exact ⟨(k8, s20, i4 + 1), hs, l6, by simp⟩
   have c25 := ltF g12
   refine zAF <| zAP ?_
   obtain ⟨x26, q27, l6⟩ := bs l6
   obtain ⟨s28, q29, l6⟩ := bs l6
   obtain ⟨q30, q31⟩ := zAf q29
   try simp at q30
   try simp at q31
   refine last 25 0 [(0, .sl (l1.map cS)), (1, .str between2), (5, .str s28), (6, .int .i64 i4)] [] (st (by simp [q27, q30, q31])) fun zz hs => ?_
   refine zCx <| zBT ?_ hs
   have q32 : Rng .i64 (((i4 : Nat) : Int) + 1) := by simp only [Rng, inR]; omega
   try simp at q32
   refine last 25 0 [(0, .sl (l1.map cS)), (1, .str between2), (5, .str s28), (6, .int .i64 ((i4 + 1 : Nat) : Int))] [] (st (by simp [q32])) fun zz hs => ?_
   exact ⟨(k8, s28, i4 + 1), hs, l6, by simp⟩
  have c33 := ltF g9
  refine zD3 0 rfl fun f34 => ?_
  rw [List.length_map] at f34
  refine zBR <| zAc ?_
  have q35 := Option.some.inj l6
  have q35 := q35.symm
  refine zAc <| zBQ <| zBT (t := mkS 25 0 [(5, .str o5)] []) ?_ (zBS (by simp [q35]))
  refine cutA 25 0 [(4, .str o5)] [] <| zAB ?_
  obtain rfl := oi h
  simp
theorem zB6 (fuel : Nat) (l1 : (List (List UInt8))) (r : (List UInt8)) (h : zBq fuel l1 = some r) : Pure Tryz.prog 73 [.sl (l1.map cS)] (.str r) := by
 rw [zBq] at h
 refine zAO Tryz.func73 (by rfl) (by rfl) (by simp) (by simp) (by simp) <| cutA 5 0 [(0, .sl (l1.map cS))] [] ?_
 obtain ⟨v2, q3, h⟩ := bs h
 refine cut 5 0 [(2, .str v2)] [] ?_ ?_
 ·refine st ?_
  simp
  have r4 := zEA fuel l1 [46] v2 q3
  try simp at r4
  refine zAA r4 (by simp) rfl ?_
  simp
 refine zAB ?_
 obtain rfl := oi h
 simp
theorem zGO (fuel : Nat) : (∀ (n1 : Int) (r : (List UInt8)) (_ : zCk fuel n1 = some r), Pure Tryz.prog 100 [.int .i64 n1] (.str r)) := by
 induction fuel with
 | zero => intro n1 r h; rw [zCk] at h; cases h
 | succ fuel zGP =>
  intro n1 r h
  rw [zCk] at h
  refine zAO Tryz.func100 (by rfl) (by rfl) (by simp) (by simp) (by simp) <| cutA 17 0 [(0, .int .i64 n1)] [] <| zAM <| cutA 17 0 [(0, .int .i64 n1), (4, .bool (ltI 9 n1))] [] <| spc h rfl (fun g2 h => ?_) fun g2 h => ?_
  ·have c3 := ltT g2
   obtain ⟨n4, q5, h⟩ := bs h
   obtain ⟨q6, q7⟩ := zFi q5
   try simp at q6
   try simp at q7
   obtain ⟨v8, q9, h⟩ := bs h
   have q10 : Rng .i64 (Int.tmod n1 10) := by rw [Int.tmod_eq_emod_of_nonneg (by omega)]; simp only [Rng, inR]; omega
   obtain ⟨v12, q13, h⟩ := bs h
   obtain ⟨s14, q15, h⟩ := bs h
   obtain ⟨q16, q17⟩ := zAf q15
   try simp at q16
   try simp at q17
   refine cut 17 0 [(2, .str s14)] [] ?_ ?_
   ·refine st ?_
    simp [q6, q7, q10, q16, q17]
    have r18 := zGP n4 v8 q9
    try simp [q6, q7, q10, q16, q17] at r18
    refine zAA r18 (by simp) rfl ?_
    simp [q6, q7, q10, q16, q17]
    have r19 := zGP (Int.tmod n1 10) v12 q13
    try simp [q6, q7, q10, q16, q17] at r19
    refine zAA r19 (by simp) rfl ?_
    simp [q6, q7, q10, q16, q17]
   refine zAB <| zAE ?_
   obtain rfl := oi h
   simp
  have c20 := ltF g2
  refine zAF <| zAP ?_
  obtain ⟨n21, q22, h⟩ := bs h
  obtain ⟨q23, q24⟩ := zFi q22
  try simp at q23
  try simp at q24
  have c25 := q23; simp only [Rng, inR] at c25
  obtain ⟨n26, q27, h⟩ := bs h
  obtain ⟨q28, q29⟩ := zFi q27
  try simp at q28
  try simp at q29
  try rw [q29] at q23
  refine cut 17 0 [(2, .str [(UInt8.ofNat (Int.toNat n26))])] [] (st (by simp [q23, q24, q28, q29])) <| zAB ?_
  obtain rfl := oi h
  simp
theorem zGN (fuel : Nat) (n1 : Int) (r : (List UInt8)) (h : zDO fuel n1 = some r) : Pure Tryz.prog 74 [.int .i64 n1] (.str r) := by
 rw [zDO] at h
 refine zAO Tryz.func74 (by rfl) (by rfl) (by simp) (by simp) (by simp) <| cutA 11 0 [(0, .int .i64 n1)] [] <| zAM <| cutA 11 0 [(0, .int .i64 n1), (4, .bool (ltI n1 0))] [] <| spc h rfl (fun g2 h => ?_) fun g2 h => ?_
 ·have c3 := ltT g2
  obtain ⟨n4, q5, h⟩ := bs h
  obtain ⟨q6, q7⟩ := zFi q5
  try simp at q6
  try simp at q7
  have c8 := q6; simp only [Rng, inR] at c8
  obtain ⟨v9, q10, h⟩ := bs h
  obtain ⟨s11, q12, h⟩ := bs h
  obtain ⟨q13, q14⟩ := zAf q12
  try simp at q13
  try simp at q14
  refine cut 11 0 [(2, .str s11)] [] ?_ ?_
  ·refine st ?_
   simp [q6, q7, q13, q14]
   have r15 := zGO fuel n4 v9 q10
   try simp [q6, q7, q13, q14] at r15
   refine zAA r15 (by simp) rfl ?_
   simp [q6, q7, q13, q14]
  refine zAB <| zAE ?_
  obtain rfl := oi h
  simp
 have c16 := ltF g2
 refine zAF <| zAP ?_
 obtain ⟨v17, q18, h⟩ := bs h
 refine cut 11 0 [(2, .str v17)] [] ?_ ?_
 ·refine st ?_
  simp
  have r19 := zGO fuel n1 v17 q18
  try simp at r19
  refine zAA r19 (by simp) rfl ?_
  simp
 refine zAB ?_
 obtain rfl := oi h
 simp
theorem zIr (fuel : Nat) (s1 : (List UInt8)) (r : (List UInt8)) (h : zEP fuel s1 = some r) : Pure Tryz.prog 75 [.str s1] (.str r) := by
 rw [zEP] at h
 refine zAO Tryz.func75 (by rfl) (by rfl) (by simp) (by simp) (by simp) <| cutA 35 0 [(0, .str s1)] [] <| cutA 35 0 [(0, .str s1), (3, .str [34])] [] <| zAM <| cutA 35 0 [(0, .str s1), (3, .str [34]), (4, .int .i64 0)] [] <| zAU ?_
 obtain ⟨o4, l5, h⟩ := bs h
 refine zB2 (fun p : Nat × (List UInt8) × Nat => mkS 35 0 [(0, .str s1), (3, .str p.2.1), (4, .int .i64 p.2.2)] []) (fun p => zCA s1 p.1 p.2.1 p.2.2 = some o4) (fun p => p.1) (fuel, [34], 0) l5 (zBS (by simp)) ?_
 rintro ⟨k6, out2, i3⟩ l5
 dsimp only at l5 ⊢
 cases k6 with
 | zero =>
  rw [zCA] at l5; cases l5
 | succ k7 =>
  rw [zCA] at l5
  refine zAM <| cutA 35 0 [(0, .str s1), (3, .str out2), (4, .int .i64 i3), (8, .bool (ltI ((i3 : Nat) : Int) (s1.length : Int)))] [] <| spc l5 rfl (fun g8 l5 => ?_) fun g8 l5 => ?_
  ·have c9 := ltT g8
   refine zGX 0 rfl fun f10 => ?_
   refine zAF <| zAP <| zAM <| zAU ?_
   obtain ⟨c11, q12, l5⟩ := bs l5
   refine cut 35 0 [(0, .str s1), (3, .str out2), (4, .int .i64 i3), (13, .int .u8 c11.toNat)] [] (st (by simp [q12])) <| zAU <| cutA 35 0 [(0, .str s1), (3, .str out2), (4, .int .i64 i3), (13, .int .u8 c11.toNat), (21, .bool (eqI (c11.toNat : Int) 34))] [] <| spc l5 rfl (fun g13 l5 => ?_) fun g13 l5 => ?_
   ·have c14 := eqT g13
    obtain ⟨s15, q16, l5⟩ := bs l5
    obtain ⟨q17, q18⟩ := zAf q16
    try simp at q17
    try simp at q18
    refine last 35 0 [(0, .str s1), (3, .str s15), (4, .int .i64 i3)] [] (st (by simp [q17, q18])) fun zz hs => ?_
    refine zCx <| zCx <| zBT ?_ hs
    have q19 : Rng .i64 (((i3 : Nat) : Int) + 1) := by simp only [Rng, inR]; omega
    try simp at q19
    refine last 35 0 [(0, .str s1), (3, .str s15), (4, .int .i64 ((i3 + 1 : Nat) : Int))] [] (st (by simp [q19])) fun zz hs => ?_
    exact ⟨(k7, s15, i3 + 1), hs, l5, by simp⟩
   have c20 := eqF g13
   refine cutA 35 0 [(0, .str s1), (3, .str out2), (4, .int .i64 i3), (13, .int .u8 c11.toNat), (25, .bool (eqI (c11.toNat : Int) 92))] [] <| spc l5 rfl (fun g21 l5 => ?_) fun g21 l5 => ?_
   ·have c22 := eqT g21
    obtain ⟨s23, q24, l5⟩ := bs l5
    obtain ⟨q25, q26⟩ := zAf q24
    try simp at q25
    try simp at q26
    refine last 35 0 [(0, .str s1), (3, .str s23), (4, .int .i64 i3)] [] (st (by simp [q25, q26])) fun zz hs => ?_
    refine zCx <| zCx <| zBT ?_ hs
    have q27 : Rng .i64 (((i3 : Nat) : Int) + 1) := by simp only [Rng, inR]; omega
    try simp at q27
    refine last 35 0 [(0, .str s1), (3, .str s23), (4, .int .i64 ((i3 + 1 : Nat) : Int))] [] (st (by simp [q27])) fun zz hs => ?_
    exact ⟨(k7, s23, i3 + 1), hs, l5, by simp⟩
   have c28 := eqF g21
   refine cutA 35 0 [(0, .str s1), (3, .str out2), (4, .int .i64 i3), (29, .bool (eqI (c11.toNat : Int) 10))] [] <| spc l5 rfl (fun g29 l5 => ?_) fun g29 l5 => ?_
   ·have c30 := eqT g29
    obtain ⟨s31, q32, l5⟩ := bs l5
    obtain ⟨q33, q34⟩ := zAf q32
    try simp at q33
    try simp at q34
    refine last 35 0 [(0, .str s1), (3, .str s31), (4, .int .i64 i3)] [] (st (by simp [q33, q34])) fun zz hs => ?_
    refine zCx <| zCx <| zBT ?_ hs
    have q35 : Rng .i64 (((i3 : Nat) : Int) + 1) := by simp only [Rng, inR]; omega
    try simp at q35
    refine last 35 0 [(0, .str s1), (3, .str s31), (4, .int .i64 ((i3 + 1 : Nat) : Int))] [] (st (by simp [q35])) fun zz hs => ?_
    exact ⟨(k7, s31, i3 + 1), hs, l5, by simp⟩
   have c36 := eqF g29
   have q37 : Rng .i64 (((i3 : Nat) : Int) + 1) := by simp only [Rng, inR]; omega
   try simp at q37
   obtain ⟨s38, q39, l5⟩ := bs l5
   obtain ⟨q40, q41⟩ := zEW q39
   try simp at q40
   try simp at q41
   obtain ⟨s42, q43, l5⟩ := bs l5
   obtain ⟨q44, q45⟩ := zAf q43
   try simp at q44
   try simp at q45
   refine last 35 0 [(0, .str s1), (3, .str s42), (4, .int .i64 i3)] [] (st (by simp [q37, q40, q41, q44, q45])) fun zz hs => ?_
   refine zCx <| zCx <| zBT ?_ hs
   have q46 : Rng .i64 (((i3 : Nat) : Int) + 1) := by simp only [Rng, inR]; omega
   try simp at q46
   refine last 35 0 [(0, .str s1), (3, .str s42), (4, .int .i64 ((i3 + 1 : Nat) : Int))] [] (st (by simp [q46])) fun zz hs => ?_
   exact ⟨(k7, s42, i3 + 1), hs, l5, by simp⟩
  have c47 := ltF g8
  refine zGX 0 rfl fun f48 => ?_
  refine zBR <| zAc ?_
  have q49 := Option.some.inj l5
  have q49 := q49.symm
  refine zAc <| zBQ <| zBT (t := mkS 35 0 [(3, .str o4)] []) ?_ (zBS (by simp [q49]))
  obtain ⟨s50, q51, h⟩ := bs h
  obtain ⟨q52, q53⟩ := zAf q51
  try simp at q52
  try simp at q53
  refine cut 35 0 [(2, .str s50)] [] (st (by simp [q52, q53])) <| zAB ?_
  obtain rfl := oi h
  simp
theorem zDm (n1 : Int) (r : (List UInt8)) (h : zBc n1 = some r) : Pure Tryz.prog 101 [.int .i64 n1] (.str r) := by
 rw [zBc] at h
 refine zAO Tryz.func101 (by rfl) (by rfl) (by simp) (by simp) (by simp) <| cutA 9 0 [(0, .int .i64 n1)] [] ?_
 obtain ⟨l2, q3, h⟩ := bs h
 obtain ⟨q4, q5⟩ := zD6 q3
 refine cut 9 0 [(0, .int .i64 n1), (3, .osl ⟨1, 9⟩ (l2.map cS))] [] (st (by simp [q4, q5])) ?_
 obtain ⟨x6, q7, h⟩ := bs h
 obtain ⟨q8, q9⟩ := idx_ok q7
 have q10 := litIdx (cS) q9
 rw [q4] at q10
 try simp at q10
 refine cut 9 0 [(2, .str x6)] [] (st (by simp [q8, q9, q10])) <| zAB ?_
 obtain rfl := oi h
 simp
theorem zEu (fuel : Nat) (l1 : (List (List UInt8))) (r : (List UInt8)) (h : zCh fuel l1 = some r) : Pure Tryz.prog 77 [.sl (l1.map cS)] (.str r) := by
 rw [zCh] at h
 refine zAO Tryz.func77 (by rfl) (by rfl) (by simp) (by simp) (by simp) <| cutA 17 0 [(0, .sl (l1.map cS))] [] <| zAM <| cutA 17 0 [(0, .sl (l1.map cS)), (4, .int .i64 l1.length)] [] <| zAU <| cutA 17 0 [(0, .sl (l1.map cS)), (4, .int .i64 l1.length), (5, .bool (eqI (l1.length : Int) 0))] [] <| spc h rfl (fun g2 h => ?_) fun g2 h => ?_
 ·have c3 := eqT g2
  refine cutA 17 0 [(2, .str ([] : List UInt8))] [] <| zAB <| zAJ <| zAE ?_
  obtain rfl := oi h
  simp
 have c4 := eqF g2
 refine cutA 17 0 [(0, .sl (l1.map cS)), (7, .bool (eqI (l1.length : Int) 1))] [] <| spc h rfl (fun g5 h => ?_) fun g5 h => ?_
 ·have c6 := eqT g5
  obtain ⟨x7, q8, h⟩ := bs h
  obtain ⟨s9, q10, h⟩ := bs h
  obtain ⟨q11, q12⟩ := zAf q10
  try simp at q11
  try simp at q12
  refine cut 17 0 [(2, .str s9)] [] (st (by simp [q8, q11, q12])) <| zAB <| zAJ <| zAE ?_
  obtain rfl := oi h
  simp
 have c13 := eqF g5
 refine zAF <| zCx <| zAP ?_
 obtain ⟨v14, q15, h⟩ := bs h
 obtain ⟨s16, q17, h⟩ := bs h
 obtain ⟨q18, q19⟩ := zAf q17
 try simp at q18
 try simp at q19
 obtain ⟨s20, q21, h⟩ := bs h
 obtain ⟨q22, q23⟩ := zAf q21
 try simp at q22
 try simp at q23
 refine cut 17 0 [(2, .str s20)] [] ?_ ?_
 ·refine st ?_
  simp [q18, q19, q22, q23]
  have r24 := zEA fuel l1 [44, 32] v14 q15
  try simp [q18, q19, q22, q23] at r24
  refine zAA r24 (by simp) rfl ?_
  simp [q18, q19, q22, q23]
 refine zAB ?_
 obtain rfl := oi h
 simp
theorem zE7 (fuel : Nat) : (∀ (t1 : zJC) (r : (List UInt8)) (_ : zCj fuel t1 = some r), Pure Tryz.prog 78 [.agg t1.d] (.str r)) ∧ (∀ (t1 : zJC) (r : (List UInt8)) (_ : zBb fuel t1 = some r), Pure Tryz.prog 46 [.agg t1.d] (.str r)) ∧ (∀ (t1 : zJC) (r : (List UInt8)) (_ : zAh fuel t1 = some r), Pure Tryz.prog 45 [.agg t1.d] (.str r)) ∧ (∀ (t1 : zJC) (r : (List UInt8)) (_ : zBC fuel t1 = some r), Pure Tryz.prog 76 [.agg t1.d] (.str r)) ∧ (∀ (t1 : zJC) (r : (List UInt8)) (_ : zAX fuel t1 = some r), Pure Tryz.prog 44 [.agg t1.d] (.str r)) ∧ (∀ (l1 : (List zJC)) (level2 : Int) (between3 : (List UInt8)) (r : (List UInt8)) (_ : zCw fuel l1 level2 between3 = some r), Pure Tryz.prog 72 [.sl (l1.map zJC.c), .int .i64 level2, .str between3] (.str r)) ∧ (∀ (t1 : zJC) (level2 : Int) (r : (List UInt8)) (_ : zA2 fuel t1 level2 = some r), Pure Tryz.prog 71 [.agg t1.d, .int .i64 level2] (.str r)) ∧ (∀ (t1 : zJC) (r : (List UInt8)) (_ : zCp fuel t1 = some r), Pure Tryz.prog 43 [.agg t1.d] (.str r)) ∧ (∀ (l1 : (List zJC)) (r : (List UInt8)) (_ : zC3 fuel l1 = some r), Pure Tryz.prog 42 [.sl (l1.map zJC.c)] (.str r)) ∧ (∀ (t1 : zJC) (r : (List UInt8)) (_ : zAN fuel t1 = some r), Pure Tryz.prog 25 [.agg t1.d] (.str r)) := by
 induction fuel with
 | zero =>
  refine ⟨?_, ?_, ?_, ?_, ?_, ?_, ?_, ?_, ?_, ?_⟩
  ·intro t1 r h; rw [zCj] at h; cases h
  ·intro t1 r h; rw [zBb] at h; cases h
  ·intro t1 r h; rw [zAh] at h; cases h
  ·intro t1 r h; rw [zBC] at h; cases h
  ·intro t1 r h; rw [zAX] at h; cases h
  ·intro l1 level2 between3 r h; rw [zCw] at h; cases h
  ·intro t1 level2 r h; rw [zA2] at h; cases h
  ·intro t1 r h; rw [zCp] at h; cases h
  ·intro l1 r h; rw [zC3] at h; cases h
  ·intro t1 r h; rw [zAN] at h; cases h
 | succ fuel ih =>
  obtain ⟨zF5, zIL, zGW, zHH, zGv, zEM, zA7, zIy, zFS, zAm⟩ := ih
  refine ⟨?_, ?_, ?_, ?_, ?_, ?_, ?_, ?_, ?_, ?_⟩
  ·intro t1 r h
   rw [zCj] at h
   refine zAO Tryz.func78 (by rfl) (by rfl) (by simp) (by simp) (by simp) <| cutA 19 0 [(1, .mptr 0 0)] [t1.d] <| cutA 19 0 [(1, .mptr 0 0), (3, .str [103, 101, 110, 101, 114, 97, 116, 105, 118, 101, 32, 40])] [t1.d] <| zAM <| cutA 19 0 [(1, .mptr 0 0), (3, .str [103, 101, 110, 101, 114, 97, 116, 105, 118, 101, 32, 40]), (6, .bool (eqI t1.N 1))] [t1.d] <| spc h rfl (fun g2 h => ?_) fun g2 h => ?_
   ·refine zEf 19 0 [(1, .mptr 0 0), (3, .str [102, 117, 110, 99, 116, 111, 114, 32, 40])] [t1.d] ?_
    obtain ⟨s4, q5, h⟩ := bs h
    obtain ⟨q6, q7⟩ := zAf q5
    try simp at q6
    try simp at q7
    obtain ⟨s8, q9, h⟩ := bs h
    obtain ⟨q10, q11⟩ := zAf q9
    try simp at q10
    try simp at q11
    obtain ⟨x12, q13, h⟩ := bs h
    obtain ⟨v14, q15, h⟩ := bs h
    obtain ⟨s16, q17, h⟩ := bs h
    obtain ⟨q18, q19⟩ := zAf q17
    try simp at q18
    try simp at q19
    obtain ⟨s20, q21, h⟩ := bs h
    obtain ⟨q22, q23⟩ := zAf q21
    try simp at q22
    try simp at q23
    refine cut 19 0 [(2, .str s20)] [t1.d] ?_ ?_
    ·refine zAW [] mixed (n := 19) rfl (by decide) ?_
     simp [q6, q7, q10, q11, q13, q18, q19, q22, q23]
     have r24 := zAm x12 v14 q15
     try simp [q6, q7, q10, q11, q13, q18, q19, q22, q23] at r24
     refine zDT r24 (by simp) rfl ?_
     simp [q6, q7, q10, q11, q13, q18, q19, q22, q23]
    refine zAB ?_
    obtain rfl := oi h
    simp
   refine zAF <| zAP ?_
   obtain ⟨s26, q27, h⟩ := bs h
   obtain ⟨q28, q29⟩ := zAf q27
   try simp at q28
   try simp at q29
   obtain ⟨s30, q31, h⟩ := bs h
   obtain ⟨q32, q33⟩ := zAf q31
   try simp at q32
   try simp at q33
   obtain ⟨x34, q35, h⟩ := bs h
   obtain ⟨v36, q37, h⟩ := bs h
   obtain ⟨s38, q39, h⟩ := bs h
   obtain ⟨q40, q41⟩ := zAf q39
   try simp at q40
   try simp at q41
   obtain ⟨s42, q43, h⟩ := bs h
   obtain ⟨q44, q45⟩ := zAf q43
   try simp at q44
   try simp at q45
   refine cut 19 0 [(2, .str s42)] [t1.d] ?_ ?_
   ·refine zAW [] mixed (n := 19) rfl (by decide) ?_
    simp [q28, q29, q32, q33, q35, q40, q41, q44, q45]
    have r46 := zAm x34 v36 q37
    try simp [q28, q29, q32, q33, q35, q40, q41, q44, q45] at r46
    refine zDT r46 (by simp) rfl ?_
    simp [q28, q29, q32, q33, q35, q40, q41, q44, q45]
   refine zAB ?_
   obtain rfl := oi h
   simp
  ·intro t1 r h
   rw [zBb] at h
   refine zAO Tryz.func46 (by rfl) (by rfl) (by simp) (by simp) (by simp) <| cutA 121 0 [(1, .mptr 0 0)] [t1.d] <| zAM <| cutA 121 0 [(1, .mptr 0 0), (4, .int .i64 t1.Op)] [t1.d] <| zAU <| cutA 121 0 [(1, .mptr 0 0), (4, .int .i64 t1.Op), (5, .bool (eqI t1.Op 71))] [t1.d] <| spc h rfl (fun g2 h => ?_) fun g2 h => ?_
   ·obtain ⟨v4, q5, h⟩ := bs h
    obtain ⟨s6, q7, h⟩ := bs h
    obtain ⟨q8, q9⟩ := zAf q7
    try simp at q8
    try simp at q9
    obtain ⟨s10, q11, h⟩ := bs h
    obtain ⟨q12, q13⟩ := zAf q11
    try simp at q12
    try simp at q13
    refine cut 121 0 [(2, .str s10)] [t1.d] ?_ ?_
    ·refine st ?_
     simp [q8, q9, q12, q13]
     have r14 := zFS t1.L v4 q5
     try simp [q8, q9, q12, q13] at r14
     refine zAA r14 (by simp) rfl ?_
     simp [q8, q9, q12, q13]
    refine zAB <| zAJ <| zAE ?_
    obtain rfl := oi h
    simp
   refine cutA 121 0 [(1, .mptr 0 0), (4, .int .i64 t1.Op), (12, .bool (eqI t1.Op 81))] [t1.d] <| spc h rfl (fun g16 h => ?_) fun g16 h => ?_
   ·obtain ⟨v18, q19, h⟩ := bs h
    obtain ⟨s20, q21, h⟩ := bs h
    obtain ⟨q22, q23⟩ := zAf q21
    try simp at q22
    try simp at q23
    obtain ⟨s24, q25, h⟩ := bs h
    obtain ⟨q26, q27⟩ := zAf q25
    try simp at q26
    try simp at q27
    refine cut 121 0 [(2, .str s24)] [t1.d] ?_ ?_
    ·refine st ?_
     simp [q22, q23, q26, q27]
     have r28 := zFS t1.L v18 q19
     try simp [q22, q23, q26, q27] at r28
     refine zAA r28 (by simp) rfl ?_
     simp [q22, q23, q26, q27]
    refine zAB <| zAJ <| zAE ?_
    obtain rfl := oi h
    simp
   refine zAM <| cutA 121 0 [(1, .mptr 0 0), (4, .int .i64 t1.Op), (19, .bool (eqI t1.Op 72))] [t1.d] <| spc h rfl (fun g30 h => ?_) fun g30 h => ?_
   ·refine zAF <| zAP <| zBE rfl (by simp [g30]) ?_
    obtain ⟨v32, q33, h⟩ := bs h
    refine cut 121 0 [(2, .str v32)] [t1.d] ?_ ?_
    ·refine st ?_
     simp
     have r34 := zB6 fuel t1.Names v32 q33
     try simp at r34
     refine zAA r34 (by simp) rfl ?_
     simp
    refine zAB <| zAJ <| zAE ?_
    obtain rfl := oi h
    simp
   refine zEf 121 0 [(1, .mptr 0 0), (4, .int .i64 t1.Op), (19, .bool (eqI t1.Op 82))] [t1.d] <| spc h rfl (fun g36 h => ?_) fun g36 h => ?_
   ·have c37 := eqT g36
    obtain ⟨v38, q39, h⟩ := bs h
    refine cut 121 0 [(2, .str v38)] [t1.d] ?_ ?_
    ·refine st ?_
     simp
     have r40 := zB6 fuel t1.Names v38 q39
     try simp at r40
     refine zAA r40 (by simp) rfl ?_
     simp
    refine zAB <| zAJ <| zAE ?_
    obtain rfl := oi h
    simp
   have c41 := eqF g36
   refine zAM <| cutA 121 0 [(1, .mptr 0 0), (4, .int .i64 t1.Op), (25, .bool (eqI t1.Op 73))] [t1.d] <| spc h rfl (fun g42 h => ?_) fun g42 h => ?_
   ·refine zAF <| zAP <| zBE rfl (by simp [g42]) ?_
    obtain ⟨v44, q45, h⟩ := bs h
    obtain ⟨x46, q47, h⟩ := bs h
    obtain ⟨v48, q49, h⟩ := bs h
    obtain ⟨s50, q51, h⟩ := bs h
    obtain ⟨q52, q53⟩ := zAf q51
    try simp at q52
    try simp at q53
    refine cut 121 0 [(2, .str s50)] [t1.d] ?_ ?_
    ·refine zAW [] mixed (n := 121) rfl (by decide) ?_
     simp [q47, q52, q53]
     have r54 := zF5 t1 v44 q45
     try simp [q47, q52, q53] at r54
     refine zDT r54 (by simp) rfl ?_
     simp [q47, q52, q53]
     have r55 := zAm x46 v48 q49
     try simp [q47, q52, q53] at r55
     refine zDT r55 (by simp) rfl ?_
     simp [q47, q52, q53]
    refine zAB <| zAJ <| zAE ?_
    obtain rfl := oi h
    simp
   refine zEf 121 0 [(1, .mptr 0 0), (4, .int .i64 t1.Op), (25, .bool (eqI t1.Op 83))] [t1.d] <| spc h rfl (fun g57 h => ?_) fun g57 h => ?_
   ·have c58 := eqT g57
    obtain ⟨v59, q60, h⟩ := bs h
    obtain ⟨x61, q62, h⟩ := bs h
    obtain ⟨v63, q64, h⟩ := bs h
    obtain ⟨s65, q66, h⟩ := bs h
    obtain ⟨q67, q68⟩ := zAf q66
    try simp at q67
    try simp at q68
    refine cut 121 0 [(2, .str s65)] [t1.d] ?_ ?_
    ·refine zAW [] mixed (n := 121) rfl (by decide) ?_
     simp [q62, q67, q68]
     have r69 := zF5 t1 v59 q60
     try simp [q62, q67, q68] at r69
     refine zDT r69 (by simp) rfl ?_
     simp [q62, q67, q68]
     have r70 := zAm x61 v63 q64
     try simp [q62, q67, q68] at r70
     refine zDT r70 (by simp) rfl ?_
     simp [q62, q67, q68]
    refine zAB <| zAJ <| zAE ?_
    obtain rfl := oi h
    simp
   have c71 := eqF g57
   refine cutA 121 0 [(1, .mptr 0 0), (4, .int .i64 t1.Op), (36, .bool (eqI t1.Op 74))] [t1.d] <| spc h rfl (fun g72 h => ?_) fun g72 h => ?_
   ·obtain ⟨x74, q75, h⟩ := bs h
    obtain ⟨v76, q77, h⟩ := bs h
    obtain ⟨s78, q79, h⟩ := bs h
    obtain ⟨q80, q81⟩ := zAf q79
    try simp at q80
    try simp at q81
    obtain ⟨x82, q83, h⟩ := bs h
    obtain ⟨v84, q85, h⟩ := bs h
    obtain ⟨s86, q87, h⟩ := bs h
    obtain ⟨q88, q89⟩ := zAf q87
    try simp at q88
    try simp at q89
    obtain ⟨v90, q91, h⟩ := bs h
    obtain ⟨s92, q93, h⟩ := bs h
    obtain ⟨q94, q95⟩ := zAf q93
    try simp at q94
    try simp at q95
    obtain ⟨s96, q97, h⟩ := bs h
    obtain ⟨q98, q99⟩ := zAf q97
    try simp at q98
    try simp at q99
    obtain ⟨x100, q101, h⟩ := bs h
    obtain ⟨v102, q103, h⟩ := bs h
    obtain ⟨s104, q105, h⟩ := bs h
    obtain ⟨q106, q107⟩ := zAf q105
    try simp at q106
    try simp at q107
    refine cut 121 0 [(2, .str s104)] [t1.d] ?_ ?_
    ·refine zAW [] mixed (n := 121) rfl (by decide) ?_
     simp [q75, q80, q81, q83, q88, q89, q94, q95, q98, q99, q101, q106, q107]
     have r108 := zA7 x74 1 v76 q77
     try simp [q75, q80, q81, q83, q88, q89, q94, q95, q98, q99, q101, q106, q107] at r108
     refine zDT r108 (by simp) rfl ?_
     simp [q75, q80, q81, q83, q88, q89, q94, q95, q98, q99, q101, q106, q107]
     have r109 := zEu fuel x82.Names v84 q85
     try simp [q75, q80, q81, q83, q88, q89, q94, q95, q98, q99, q101, q106, q107] at r109
     refine zDT r109 (by simp) rfl ?_
     simp [q75, q80, q81, q83, q88, q89, q94, q95, q98, q99, q101, q106, q107]
     have r110 := zB6 fuel t1.Names v90 q91
     try simp [q75, q80, q81, q83, q88, q89, q94, q95, q98, q99, q101, q106, q107] at r110
     refine zDT r110 (by simp) rfl ?_
     simp [q75, q80, q81, q83, q88, q89, q94, q95, q98, q99, q101, q106, q107]
     have r111 := zAm x100 v102 q103
     try simp [q75, q80, q81, q83, q88, q89, q94, q95, q98, q99, q101, q106, q107] at r111
     refine zDT r111 (by simp) rfl ?_
     simp [q75, q80, q81, q83, q88, q89, q94, q95, q98, q99, q101, q106, q107]
    refine zAB <| zAJ <| zAE ?_
    obtain rfl := oi h
    simp
   refine cutA 121 0 [(1, .mptr 0 0), (4, .int .i64 t1.Op), (65, .bool (eqI t1.Op 84))] [t1.d] <| spc h rfl (fun g113 h => ?_) fun g113 h => ?_
   ·obtain ⟨x115, q116, h⟩ := bs h
    obtain ⟨v117, q118, h⟩ := bs h
    obtain ⟨s119, q120, h⟩ := bs h
    obtain ⟨q121, q122⟩ := zAf q120
    try simp at q121
    try simp at q122
    obtain ⟨x123, q124, h⟩ := bs h
    obtain ⟨v125, q126, h⟩ := bs h
    obtain ⟨s127, q128, h⟩ := bs h
    obtain ⟨q129, q130⟩ := zAf q128
    try simp at q129
    try simp at q130
    obtain ⟨s131, q132, h⟩ := bs h
    obtain ⟨q133, q134⟩ := zAf q132
    try simp at q133
    try simp at q134
    refine cut 121 0 [(2, .str s131)] [t1.d] ?_ ?_
    ·refine zAW [] mixed (n := 121) rfl (by decide) ?_
     simp [q116, q121, q122, q124, q129, q130, q133, q134]
     have r135 := zA7 x115 2 v117 q118
     try simp [q116, q121, q122, q124, q129, q130, q133, q134] at r135
     refine zDT r135 (by simp) rfl ?_
     simp [q116, q121, q122, q124, q129, q130, q133, q134]
     have r136 := zAm x123 v125 q126
     try simp [q116, q121, q122, q124, q129, q130, q133, q134] at r136
     refine zDT r136 (by simp) rfl ?_
     simp [q116, q121, q122, q124, q129, q130, q133, q134]
    refine zAB <| zAJ <| zAE ?_
    obtain rfl := oi h
    simp
   refine cutA 121 0 [(1, .mptr 0 0), (4, .int .i64 t1.Op), (80, .bool (eqI t1.Op 85))] [t1.d] <| spc h rfl (fun g138 h => ?_) fun g138 h => ?_
   ·obtain ⟨x140, q141, h⟩ := bs h
    obtain ⟨v142, q143, h⟩ := bs h
    obtain ⟨s144, q145, h⟩ := bs h
    obtain ⟨q146, q147⟩ := zAf q145
    try simp at q146
    try simp at q147
    obtain ⟨x148, q149, h⟩ := bs h
    obtain ⟨v150, q151, h⟩ := bs h
    obtain ⟨s152, q153, h⟩ := bs h
    obtain ⟨q154, q155⟩ := zAf q153
    try simp at q154
    try simp at q155
    refine cut 121 0 [(2, .str s152)] [t1.d] ?_ ?_
    ·refine zAW [] mixed (n := 121) rfl (by decide) ?_
     simp [q141, q146, q147, q149, q154, q155]
     have r156 := zA7 x140 1 v142 q143
     try simp [q141, q146, q147, q149, q154, q155] at r156
     refine zDT r156 (by simp) rfl ?_
     simp [q141, q146, q147, q149, q154, q155]
     have r157 := zA7 x148 2 v150 q151
     try simp [q141, q146, q147, q149, q154, q155] at r157
     refine zDT r157 (by simp) rfl ?_
     simp [q141, q146, q147, q149, q154, q155]
    refine zAB <| zAJ <| zAE ?_
    obtain rfl := oi h
    simp
   refine cutA 121 0 [(1, .mptr 0 0), (94, .bool (eqI t1.Op 86))] [t1.d] <| spc h rfl (fun g159 h => ?_) fun g159 h => ?_
   ·obtain ⟨x161, q162, h⟩ := bs h
    obtain ⟨v163, q164, h⟩ := bs h
    obtain ⟨s165, q166, h⟩ := bs h
    obtain ⟨q167, q168⟩ := zAf q166
    try simp at q167
    try simp at q168
    obtain ⟨x169, q170, h⟩ := bs h
    obtain ⟨v171, q172, h⟩ := bs h
    obtain ⟨s173, q174, h⟩ := bs h
    obtain ⟨q175, q176⟩ := zAf q174
    try simp at q175
    try simp at q176
    refine cut 121 0 [(2, .str s173)] [t1.d] ?_ ?_
    ·refine zAW [] mixed (n := 121) rfl (by decide) ?_
     simp [q162, q167, q168, q170, q175, q176]
     have r177 := zA7 x161 1 v163 q164
     try simp [q162, q167, q168, q170, q175, q176] at r177
     refine zDT r177 (by simp) rfl ?_
     simp [q162, q167, q168, q170, q175, q176]
     have r178 := zA7 x169 2 v171 q172
     try simp [q162, q167, q168, q170, q175, q176] at r178
     refine zDT r178 (by simp) rfl ?_
     simp [q162, q167, q168, q170, q175, q176]
    refine zAB <| zAJ <| zAE ?_
    obtain rfl := oi h
    simp
   refine zAF <| zCx <| zAP ?_
   obtain ⟨x180, q181, h⟩ := bs h
   obtain ⟨v182, q183, h⟩ := bs h
   obtain ⟨s184, q185, h⟩ := bs h
   obtain ⟨q186, q187⟩ := zAf q185
   try simp at q186
   try simp at q187
   obtain ⟨s188, q189, h⟩ := bs h
   obtain ⟨q190, q191⟩ := zAf q189
   try simp at q190
   try simp at q191
   obtain ⟨x192, q193, h⟩ := bs h
   obtain ⟨v194, q195, h⟩ := bs h
   obtain ⟨s196, q197, h⟩ := bs h
   obtain ⟨q198, q199⟩ := zAf q197
   try simp at q198
   try simp at q199
   refine cut 121 0 [(2, .str s196)] [t1.d] ?_ ?_
   ·refine zAW [] mixed (n := 121) rfl (by decide) ?_
    simp [q181, q186, q187, q190, q191, q193, q198, q199]
    have r200 := zA7 x180 9 v182 q183
    try simp [q181, q186, q187, q190, q191, q193, q198, q199] at r200
    refine zDT r200 (by simp) rfl ?_
    simp [q181, q186, q187, q190, q191, q193, q198, q199]
    have r201 := zA7 x192 2 v194 q195
    try simp [q181, q186, q187, q190, q191, q193, q198, q199] at r201
    refine zDT r201 (by simp) rfl ?_
    simp [q181, q186, q187, q190, q191, q193, q198, q199]
   refine zAB ?_
   obtain rfl := oi h
   simp
  ·intro t1 r h
   rw [zAh] at h
   refine zAO Tryz.func45 (by rfl) (by rfl) (by simp) (by simp) (by simp) <| cutA 189 0 [(1, .mptr 0 0)] [t1.d] <| zAM <| cutA 189 0 [(1, .mptr 0 0), (4, .int .i64 t1.Op)] [t1.d] <| zAU <| cutA 189 0 [(1, .mptr 0 0), (4, .int .i64 t1.Op), (5, .bool (eqI t1.Op 41))] [t1.d] <| spc h rfl (fun g2 h => ?_) fun g2 h => ?_
   ·obtain ⟨s4, q5, h⟩ := bs h
    obtain ⟨q6, q7⟩ := zAf q5
    try simp at q6
    try simp at q7
    obtain ⟨s8, q9, h⟩ := bs h
    obtain ⟨q10, q11⟩ := zAf q9
    try simp at q10
    try simp at q11
    obtain ⟨x12, q13, h⟩ := bs h
    obtain ⟨v14, q15, h⟩ := bs h
    obtain ⟨s16, q17, h⟩ := bs h
    obtain ⟨q18, q19⟩ := zAf q17
    try simp at q18
    try simp at q19
    refine cut 189 0 [(2, .str s16)] [t1.d] ?_ ?_
    ·refine zAW [] mixed (n := 189) rfl (by decide) ?_
     simp [q6, q7, q10, q11, q13, q18, q19]
     have r20 := zAm x12 v14 q15
     try simp [q6, q7, q10, q11, q13, q18, q19] at r20
     refine zDT r20 (by simp) rfl ?_
     simp [q6, q7, q10, q11, q13, q18, q19]
    refine zAB <| zAJ <| zAE ?_
    obtain rfl := oi h
    simp
   refine cutA 189 0 [(1, .mptr 0 0), (4, .int .i64 t1.Op), (17, .bool (eqI t1.Op 42))] [t1.d] <| spc h rfl (fun g22 h => ?_) fun g22 h => ?_
   ·obtain ⟨s24, q25, h⟩ := bs h
    obtain ⟨q26, q27⟩ := zAf q25
    try simp at q26
    try simp at q27
    obtain ⟨s28, q29, h⟩ := bs h
    obtain ⟨q30, q31⟩ := zAf q29
    try simp at q30
    try simp at q31
    obtain ⟨v32, q33, h⟩ := bs h
    obtain ⟨s34, q35, h⟩ := bs h
    obtain ⟨q36, q37⟩ := zAf q35
    try simp at q36
    try simp at q37
    obtain ⟨s38, q39, h⟩ := bs h
    obtain ⟨q40, q41⟩ := zAf q39
    try simp at q40
    try simp at q41
    obtain ⟨x42, q43, h⟩ := bs h
    obtain ⟨v44, q45, h⟩ := bs h
    obtain ⟨s46, q47, h⟩ := bs h
    obtain ⟨q48, q49⟩ := zAf q47
    try simp at q48
    try simp at q49
    refine cut 189 0 [(2, .str s46)] [t1.d] ?_ ?_
    ·refine zAW [] mixed (n := 189) rfl (by decide) ?_
     simp [q26, q27, q30, q31, q36, q37, q40, q41, q43, q48, q49]
     have r50 := zEA fuel t1.Names [32] v32 q33
     try simp [q26, q27, q30, q31, q36, q37, q40, q41, q43, q48, q49] at r50
     refine zDT r50 (by simp) rfl ?_
     simp [q26, q27, q30, q31, q36, q37, q40, q41, q43, q48, q49]
     have r51 := zAm x42 v44 q45
     try simp [q26, q27, q30, q31, q36, q37, q40, q41, q43, q48, q49] at r51
     refine zDT r51 (by simp) rfl ?_
     simp [q26, q27, q30, q31, q36, q37, q40, q41, q43, q48, q49]
    refine zAB <| zAJ <| zAE ?_
    obtain rfl := oi h
    simp
   refine cutA 189 0 [(1, .mptr 0 0), (4, .int .i64 t1.Op), (34, .bool (eqI t1.Op 43))] [t1.d] <| spc h rfl (fun g53 h => ?_) fun g53 h => ?_
   ·obtain ⟨v55, q56, h⟩ := bs h
    obtain ⟨s57, q58, h⟩ := bs h
    obtain ⟨q59, q60⟩ := zAf q58
    try simp at q59
    try simp at q60
    obtain ⟨s61, q62, h⟩ := bs h
    obtain ⟨q63, q64⟩ := zAf q62
    try simp at q63
    try simp at q64
    obtain ⟨s65, q66, h⟩ := bs h
    obtain ⟨q67, q68⟩ := zAf q66
    try simp at q67
    try simp at q68
    obtain ⟨x69, q70, h⟩ := bs h
    obtain ⟨v71, q72, h⟩ := bs h
    obtain ⟨s73, q74, h⟩ := bs h
    obtain ⟨q75, q76⟩ := zAf q74
    try simp at q75
    try simp at q76
    refine cut 189 0 [(2, .str s73)] [t1.d] ?_ ?_
    ·refine zAW [] mixed (n := 189) rfl (by decide) ?_
     simp [q59, q60, q63, q64, q67, q68, q70, q75, q76]
     have r77 := zEu fuel t1.Names v55 q56
     try simp [q59, q60, q63, q64, q67, q68, q70, q75, q76] at r77
     refine zDT r77 (by simp) rfl ?_
     simp [q59, q60, q63, q64, q67, q68, q70, q75, q76]
     have r78 := zAm x69 v71 q72
     try simp [q59, q60, q63, q64, q67, q68, q70, q75, q76] at r78
     refine zDT r78 (by simp) rfl ?_
     simp [q59, q60, q63, q64, q67, q68, q70, q75, q76]
    refine zAB <| zAJ <| zAE ?_
    obtain rfl := oi h
    simp
   refine cutA 189 0 [(1, .mptr 0 0), (4, .int .i64 t1.Op), (50, .bool (eqI t1.Op 44))] [t1.d] <| spc h rfl (fun g80 h => ?_) fun g80 h => ?_
   ·obtain ⟨v82, q83, h⟩ := bs h
    obtain ⟨s84, q85, h⟩ := bs h
    obtain ⟨q86, q87⟩ := zAf q85
    try simp at q86
    try simp at q87
    obtain ⟨s88, q89, h⟩ := bs h
    obtain ⟨q90, q91⟩ := zAf q89
    try simp at q90
    try simp at q91
    obtain ⟨s92, q93, h⟩ := bs h
    obtain ⟨q94, q95⟩ := zAf q93
    try simp at q94
    try simp at q95
    obtain ⟨v96, q97, h⟩ := bs h
    obtain ⟨s98, q99, h⟩ := bs h
    obtain ⟨q100, q101⟩ := zAf q99
    try simp at q100
    try simp at q101
    refine cut 189 0 [(2, .str s98)] [t1.d] ?_ ?_
    ·refine zAW [] mixed (n := 189) rfl (by decide) ?_
     simp [q86, q87, q90, q91, q94, q95, q100, q101]
     have r102 := zEu fuel t1.Names v82 q83
     try simp [q86, q87, q90, q91, q94, q95, q100, q101] at r102
     refine zDT r102 (by simp) rfl ?_
     simp [q86, q87, q90, q91, q94, q95, q100, q101]
     have r103 := zEM t1.L 0 [32, 124, 32] v96 q97
     try simp [q86, q87, q90, q91, q94, q95, q100, q101] at r103
     refine zDT r103 (by simp) rfl ?_
     simp [q86, q87, q90, q91, q94, q95, q100, q101]
    refine zAB <| zAJ <| zAE ?_
    obtain rfl := oi h
    simp
   refine cutA 189 0 [(1, .mptr 0 0), (4, .int .i64 t1.Op), (64, .bool (eqI t1.Op 45))] [t1.d] <| spc h rfl (fun g105 h => ?_) fun g105 h => ?_
   ·refine zAM <| cutA 189 0 [(1, .mptr 0 0), (69, .bool (eqI (t1.L.length : Int) 0))] [t1.d] <| spc h rfl (fun g107 h => ?_) fun g107 h => ?_
    ·have c108 := eqT g107
     refine cutA 189 0 [(2, .str t1.S)] [t1.d] <| zAB <| zAE <| zAJ <| zAE ?_
     obtain rfl := oi h
     simp
    have c109 := eqF g107
    refine zAF <| zAP ?_
    obtain ⟨s110, q111, h⟩ := bs h
    obtain ⟨q112, q113⟩ := zAf q111
    try simp at q112
    try simp at q113
    obtain ⟨x114, q115, h⟩ := bs h
    obtain ⟨v116, q117, h⟩ := bs h
    obtain ⟨s118, q119, h⟩ := bs h
    obtain ⟨q120, q121⟩ := zAf q119
    try simp at q120
    try simp at q121
    refine cut 189 0 [(2, .str s118)] [t1.d] ?_ ?_
    ·refine zAW [] mixed (n := 189) rfl (by decide) ?_
     simp [q112, q113, q115, q120, q121]
     have r122 := zAm x114 v116 q117
     try simp [q112, q113, q115, q120, q121] at r122
     refine zDT r122 (by simp) rfl ?_
     simp [q112, q113, q115, q120, q121]
    refine zAB <| zAJ <| zAE ?_
    obtain rfl := oi h
    simp
   refine cutA 189 0 [(1, .mptr 0 0), (4, .int .i64 t1.Op), (81, .bool (eqI t1.Op 46))] [t1.d] <| spc h rfl (fun g124 h => ?_) fun g124 h => ?_
   ·obtain ⟨s126, q127, h⟩ := bs h
    obtain ⟨q128, q129⟩ := zAf q127
    try simp at q128
    try simp at q129
    obtain ⟨s130, q131, h⟩ := bs h
    obtain ⟨q132, q133⟩ := zAf q131
    try simp at q132
    try simp at q133
    obtain ⟨x134, q135, h⟩ := bs h
    obtain ⟨v136, q137, h⟩ := bs h
    obtain ⟨s138, q139, h⟩ := bs h
    obtain ⟨q140, q141⟩ := zAf q139
    try simp at q140
    try simp at q141
    refine cut 189 0 [(2, .str s138)] [t1.d] ?_ ?_
    ·refine zAW [] mixed (n := 189) rfl (by decide) ?_
     simp [q128, q129, q132, q133, q135, q140, q141]
     have r142 := zAm x134 v136 q137
     try simp [q128, q129, q132, q133, q135, q140, q141] at r142
     refine zDT r142 (by simp) rfl ?_
     simp [q128, q129, q132, q133, q135, q140, q141]
    refine zAB <| zAJ <| zAE ?_
    obtain rfl := oi h
    simp
   refine zAM <| cutA 189 0 [(1, .mptr 0 0), (4, .int .i64 t1.Op), (93, .bool (eqI t1.Op 47))] [t1.d] <| spc h rfl (fun g144 h => ?_) fun g144 h => ?_
   ·refine zAF <| zAP <| zBE rfl (by simp [g144]) ?_
    obtain ⟨s146, q147, h⟩ := bs h
    obtain ⟨q148, q149⟩ := zAf q147
    try simp at q148
    try simp at q149
    obtain ⟨s150, q151, h⟩ := bs h
    obtain ⟨q152, q153⟩ := zAf q151
    try simp at q152
    try simp at q153
    obtain ⟨x154, q155, h⟩ := bs h
    obtain ⟨v156, q157, h⟩ := bs h
    obtain ⟨s158, q159, h⟩ := bs h
    obtain ⟨q160, q161⟩ := zAf q159
    try simp at q160
    try simp at q161
    refine cut 189 0 [(2, .str s158)] [t1.d] ?_ ?_
    ·refine zAW [] mixed (n := 189) rfl (by decide) ?_
     simp [q148, q149, q152, q153, q155, q160, q161]
     have r162 := zAm x154 v156 q157
     try simp [q148, q149, q152, q153, q155, q160, q161] at r162
     refine zDT r162 (by simp) rfl ?_
     simp [q148, q149, q152, q153, q155, q160, q161]
    refine zAB <| zAJ <| zAE ?_
    obtain rfl := oi h
    simp
   refine zEf 189 0 [(1, .mptr 0 0), (4, .int .i64 t1.Op), (93, .bool (eqI t1.Op 64))] [t1.d] <| spc h rfl (fun g164 h => ?_) fun g164 h => ?_
   ·have c165 := eqT g164
    obtain ⟨s166, q167, h⟩ := bs h
    obtain ⟨q168, q169⟩ := zAf q167
    try simp at q168
    try simp at q169
    obtain ⟨s170, q171, h⟩ := bs h
    obtain ⟨q172, q173⟩ := zAf q171
    try simp at q172
    try simp at q173
    obtain ⟨x174, q175, h⟩ := bs h
    obtain ⟨v176, q177, h⟩ := bs h
    obtain ⟨s178, q179, h⟩ := bs h
    obtain ⟨q180, q181⟩ := zAf q179
    try simp at q180
    try simp at q181
    refine cut 189 0 [(2, .str s178)] [t1.d] ?_ ?_
    ·refine zAW [] mixed (n := 189) rfl (by decide) ?_
     simp [q168, q169, q172, q173, q175, q180, q181]
     have r182 := zAm x174 v176 q177
     try simp [q168, q169, q172, q173, q175, q180, q181] at r182
     refine zDT r182 (by simp) rfl ?_
     simp [q168, q169, q172, q173, q175, q180, q181]
    refine zAB <| zAJ <| zAE ?_
    obtain rfl := oi h
    simp
   have c183 := eqF g164
   refine cutA 189 0 [(1, .mptr 0 0), (4, .int .i64 t1.Op), (106, .bool (eqI t1.Op 48))] [t1.d] <| spc h rfl (fun g184 h => ?_) fun g184 h => ?_
   ·obtain ⟨v186, q187, h⟩ := bs h
    obtain ⟨s188, q189, h⟩ := bs h
    obtain ⟨q190, q191⟩ := zAf q189
    try simp at q190
    try simp at q191
    refine cut 189 0 [(2, .str s188)] [t1.d] ?_ ?_
    ·refine st ?_
     simp [q190, q191]
     have r192 := zB6 fuel t1.Names v186 q187
     try simp [q190, q191] at r192
     refine zAA r192 (by simp) rfl ?_
     simp [q190, q191]
    refine zAB <| zAJ <| zAE ?_
    obtain rfl := oi h
    simp
   refine cutA 189 0 [(1, .mptr 0 0), (4, .int .i64 t1.Op), (112, .bool (eqI t1.Op 49))] [t1.d] <| spc h rfl (fun g194 h => ?_) fun g194 h => ?_
   ·obtain ⟨v196, q197, h⟩ := bs h
    obtain ⟨s198, q199, h⟩ := bs h
    obtain ⟨q200, q201⟩ := zAf q199
    try simp at q200
    try simp at q201
    refine cut 189 0 [(2, .str s198)] [t1.d] ?_ ?_
    ·refine st ?_
     simp [q200, q201]
     have r202 := zB6 fuel t1.Names v196 q197
     try simp [q200, q201] at r202
     refine zAA r202 (by simp) rfl ?_
     simp [q200, q201]
    refine zAB <| zAJ <| zAE ?_
    obtain rfl := oi h
    simp
   refine cutA 189 0 [(1, .mptr 0 0), (4, .int .i64 t1.Op), (118, .bool (eqI t1.Op 50))] [t1.d] <| spc h rfl (fun g204 h => ?_) fun g204 h => ?_
   ·obtain ⟨s206, q207, h⟩ := bs h
    obtain ⟨q208, q209⟩ := zAf q207
    try simp at q208
    try simp at q209
    obtain ⟨s210, q211, h⟩ := bs h
    obtain ⟨q212, q213⟩ := zAf q211
    try simp at q212
    try simp at q213
    obtain ⟨x214, q215, h⟩ := bs h
    obtain ⟨v216, q217, h⟩ := bs h
    obtain ⟨s218, q219, h⟩ := bs h
    obtain ⟨q220, q221⟩ := zAf q219
    try simp at q220
    try simp at q221
    obtain ⟨s222, q223, h⟩ := bs h
    obtain ⟨q224, q225⟩ := zAf q223
    try simp at q224
    try simp at q225
    obtain ⟨x226, q227, h⟩ := bs h
    obtain ⟨v228, q229, h⟩ := bs h
    obtain ⟨s230, q231, h⟩ := bs h
    obtain ⟨q232, q233⟩ := zAf q231
    try simp at q232
    try simp at q233
    refine cut 189 0 [(2, .str s230)] [t1.d] ?_ ?_
    ·refine zAW [] mixed (n := 189) rfl (by decide) ?_
     simp [q208, q209, q212, q213, q215, q220, q221, q224, q225, q227, q232, q233]
     have r234 := zA7 x214 9 v216 q217
     try simp [q208, q209, q212, q213, q215, q220, q221, q224, q225, q227, q232, q233] at r234
     refine zDT r234 (by simp) rfl ?_
     simp [q208, q209, q212, q213, q215, q220, q221, q224, q225, q227, q232, q233]
     have r235 := zA7 x226 2 v228 q229
     try simp [q208, q209, q212, q213, q215, q220, q221, q224, q225, q227, q232, q233] at r235
     refine zDT r235 (by simp) rfl ?_
     simp [q208, q209, q212, q213, q215, q220, q221, q224, q225, q227, q232, q233]
    refine zAB <| zAJ <| zAE ?_
    obtain rfl := oi h
    simp
   refine cutA 189 0 [(1, .mptr 0 0), (4, .int .i64 t1.Op), (137, .bool (eqI t1.Op 61))] [t1.d] <| spc h rfl (fun g237 h => ?_) fun g237 h => ?_
   ·obtain ⟨s239, q240, h⟩ := bs h
    obtain ⟨q241, q242⟩ := zAf q240
    try simp at q241
    try simp at q242
    obtain ⟨s243, q244, h⟩ := bs h
    obtain ⟨q245, q246⟩ := zAf q244
    try simp at q245
    try simp at q246
    obtain ⟨x247, q248, h⟩ := bs h
    obtain ⟨v249, q250, h⟩ := bs h
    obtain ⟨s251, q252, h⟩ := bs h
    obtain ⟨q253, q254⟩ := zAf q252
    try simp at q253
    try simp at q254
    refine cut 189 0 [(2, .str s251)] [t1.d] ?_ ?_
    ·refine zAW [] mixed (n := 189) rfl (by decide) ?_
     simp [q241, q242, q245, q246, q248, q253, q254]
     have r255 := zAm x247 v249 q250
     try simp [q241, q242, q245, q246, q248, q253, q254] at r255
     refine zDT r255 (by simp) rfl ?_
     simp [q241, q242, q245, q246, q248, q253, q254]
    refine zAB <| zAJ <| zAE ?_
    obtain rfl := oi h
    simp
   refine cutA 189 0 [(1, .mptr 0 0), (4, .int .i64 t1.Op), (149, .bool (eqI t1.Op 62))] [t1.d] <| spc h rfl (fun g257 h => ?_) fun g257 h => ?_
   ·obtain ⟨v259, q260, h⟩ := bs h
    obtain ⟨s261, q262, h⟩ := bs h
    obtain ⟨q263, q264⟩ := zAf q262
    try simp at q263
    try simp at q264
    obtain ⟨s265, q266, h⟩ := bs h
    obtain ⟨q267, q268⟩ := zAf q266
    try simp at q267
    try simp at q268
    refine cut 189 0 [(2, .str s265)] [t1.d] ?_ ?_
    ·refine zAW [] mixed (n := 189) rfl (by decide) ?_
     simp [q263, q264, q267, q268]
     have r269 := zEu fuel t1.Names v259 q260
     try simp [q263, q264, q267, q268] at r269
     refine zDT r269 (by simp) rfl ?_
     simp [q263, q264, q267, q268]
    refine zAB <| zAJ <| zAE ?_
    obtain rfl := oi h
    simp
   refine cutA 189 0 [(1, .mptr 0 0), (4, .int .i64 t1.Op), (158, .bool (eqI t1.Op 63))] [t1.d] <| spc h rfl (fun g271 h => ?_) fun g271 h => ?_
   ·obtain ⟨s273, q274, h⟩ := bs h
    obtain ⟨q275, q276⟩ := zAf q274
    try simp at q275
    try simp at q276
    obtain ⟨s277, q278, h⟩ := bs h
    obtain ⟨q279, q280⟩ := zAf q278
    try simp at q279
    try simp at q280
    obtain ⟨x281, q282, h⟩ := bs h
    obtain ⟨v283, q284, h⟩ := bs h
    obtain ⟨s285, q286, h⟩ := bs h
    obtain ⟨q287, q288⟩ := zAf q286
    try simp at q287
    try simp at q288
    refine cut 189 0 [(2, .str s285)] [t1.d] ?_ ?_
    ·refine zAW [] mixed (n := 189) rfl (by decide) ?_
     simp [q275, q276, q279, q280, q282, q287, q288]
     have r289 := zAm x281 v283 q284
     try simp [q275, q276, q279, q280, q282, q287, q288] at r289
     refine zDT r289 (by simp) rfl ?_
     simp [q275, q276, q279, q280, q282, q287, q288]
    refine zAB <| zAJ <| zAE ?_
    obtain rfl := oi h
    simp
   refine cutA 189 0 [(1, .mptr 0 0), (170, .bool (eqI t1.Op 65))] [t1.d] <| spc h rfl (fun g291 h => ?_) fun g291 h => ?_
   ·obtain ⟨x293, q294, h⟩ := bs h
    obtain ⟨v295, q296, h⟩ := bs h
    obtain ⟨s297, q298, h⟩ := bs h
    obtain ⟨q299, q300⟩ := zAf q298
    try simp at q299
    try simp at q300
    refine cut 189 0 [(2, .str s297)] [t1.d] ?_ ?_
    ·refine st ?_
     simp [q294, q299, q300]
     have r301 := zAm x293 v295 q296
     try simp [q294, q299, q300] at r301
     refine zAA r301 (by simp) rfl ?_
     simp [q294, q299, q300]
    refine zAB <| zAJ <| zAE ?_
    obtain rfl := oi h
    simp
   refine zAF <| zCx <| zAP ?_
   obtain ⟨v303, q304, h⟩ := bs h
   obtain ⟨s305, q306, h⟩ := bs h
   obtain ⟨q307, q308⟩ := zAf q306
   try simp at q307
   try simp at q308
   obtain ⟨s309, q310, h⟩ := bs h
   obtain ⟨q311, q312⟩ := zAf q310
   try simp at q311
   try simp at q312
   obtain ⟨x313, q314, h⟩ := bs h
   obtain ⟨v315, q316, h⟩ := bs h
   obtain ⟨s317, q318, h⟩ := bs h
   obtain ⟨q319, q320⟩ := zAf q318
   try simp at q319
   try simp at q320
   refine cut 189 0 [(2, .str s317)] [t1.d] ?_ ?_
   ·refine zAW [] mixed (n := 189) rfl (by decide) ?_
    simp [q307, q308, q311, q312, q314, q319, q320]
    have r321 := zB6 fuel t1.Names v303 q304
    try simp [q307, q308, q311, q312, q314, q319, q320] at r321
    refine zDT r321 (by simp) rfl ?_
    simp [q307, q308, q311, q312, q314, q319, q320]
    have r322 := zAm x313 v315 q316
    try simp [q307, q308, q311, q312, q314, q319, q320] at r322
    refine zDT r322 (by simp) rfl ?_
    simp [q307, q308, q311, q312, q314, q319, q320]
   refine zAB ?_
   obtain rfl := oi h
   simp
  ·intro t1 r h
   rw [zBC] at h
   refine zAO Tryz.func76 (by rfl) (by rfl) (by simp) (by simp) (by simp) <| cutA 54 0 [(1, .mptr 0 0)] [t1.d] ?_
   obtain ⟨v2, q3, h⟩ := bs h
   refine cut 54 0 [(1, .mptr 0 0), (3, .int .i64 v2)] [t1.d] ?_ ?_
   ·refine st ?_
    simp
    have r248 := zFn t1.N v2 q3
    try simp at r248
    refine zAA r248 (by simp) rfl ?_
    simp
   obtain ⟨n4, q5, h⟩ := bs h
   obtain ⟨q6, q7⟩ := zFi q5
   try simp at q6
   try simp at q7
   have c8 := q6; simp only [Rng, inR] at c8
   refine cut 54 0 [(1, .mptr 0 0), (3, .int .i64 v2), (4, .int .i64 v2), (5, .int .i64 n4)] [t1.d] (st (by simp [q6, q7])) <| zAM <| cutA 54 0 [(1, .mptr 0 0), (3, .int .i64 v2), (4, .int .i64 v2), (5, .int .i64 n4), (13, .int .i64 t1.N)] [t1.d] <| zAU <| cutA 54 0 [(1, .mptr 0 0), (3, .int .i64 v2), (4, .int .i64 v2), (5, .int .i64 n4), (13, .int .i64 t1.N), (14, .bool (eqI t1.N 12))] [t1.d] <| spc h rfl (fun g9 h => ?_) fun g9 h => ?_
   ·obtain ⟨x11, q12, h⟩ := bs h
    obtain ⟨v13, q14, h⟩ := bs h
    obtain ⟨s15, q16, h⟩ := bs h
    obtain ⟨q17, q18⟩ := zAf q16
    try simp at q17
    try simp at q18
    refine cut 54 0 [(2, .str s15)] [t1.d] ?_ ?_
    ·refine st ?_
     simp [q12, q17, q18]
     have r19 := zA7 x11 7 v13 q14
     try simp [q12, q17, q18] at r19
     refine zAA r19 (by simp) rfl ?_
     simp [q12, q17, q18]
    refine zAB <| zAJ <| zAE ?_
    obtain rfl := oi h
    simp
   refine zAM <| cutA 54 0 [(1, .mptr 0 0), (3, .int .i64 v2), (4, .int .i64 v2), (5, .int .i64 n4), (13, .int .i64 t1.N), (22, .bool (eqI t1.N 1))] [t1.d] <| spc h rfl (fun g21 h => ?_) fun g21 h => ?_
   ·refine zAF <| zAP <| zBE rfl (by simp [g21]) ?_
    have c23 := q6; simp only [Rng, inR] at c23
    refine last 54 0 [(1, .mptr 0 0), (4, .int .i64 n4), (5, .int .i64 v2)] [t1.d] (st (by simp [q6, q7])) fun zz hs => ?_
    refine zCx <| zBT ?_ hs
    obtain ⟨x24, q25, h⟩ := bs h
    obtain ⟨v26, q27, h⟩ := bs h
    obtain ⟨s28, q29, h⟩ := bs h
    obtain ⟨q30, q31⟩ := zAf q29
    try simp at q30
    try simp at q31
    obtain ⟨v32, q33, h⟩ := bs h
    obtain ⟨s34, q35, h⟩ := bs h
    obtain ⟨q36, q37⟩ := zAf q35
    try simp at q36
    try simp at q37
    obtain ⟨s38, q39, h⟩ := bs h
    obtain ⟨q40, q41⟩ := zAf q39
    try simp at q40
    try simp at q41
    obtain ⟨x42, q43, h⟩ := bs h
    obtain ⟨v44, q45, h⟩ := bs h
    obtain ⟨s46, q47, h⟩ := bs h
    obtain ⟨q48, q49⟩ := zAf q47
    try simp at q48
    try simp at q49
    refine cut 54 0 [(2, .str s46)] [t1.d] ?_ ?_
    ·refine zAW [] mixed (n := 54) rfl (by decide) ?_
     simp [q25, q30, q31, q36, q37, q40, q41, q43, q48, q49]
     have r50 := zA7 x24 n4 v26 q27
     try simp [q25, q30, q31, q36, q37, q40, q41, q43, q48, q49] at r50
     refine zDT r50 (by simp) rfl ?_
     simp [q25, q30, q31, q36, q37, q40, q41, q43, q48, q49]
     have r51 := zDm t1.N v32 q33
     try simp [q25, q30, q31, q36, q37, q40, q41, q43, q48, q49] at r51
     refine zDT r51 (by simp) rfl ?_
     simp [q25, q30, q31, q36, q37, q40, q41, q43, q48, q49]
     have r52 := zA7 x42 v2 v44 q45
     try simp [q25, q30, q31, q36, q37, q40, q41, q43, q48, q49] at r52
     refine zDT r52 (by simp) rfl ?_
     simp [q25, q30, q31, q36, q37, q40, q41, q43, q48, q49]
    refine zAB ?_
    obtain rfl := oi h
    simp
   refine cutA 54 0 [(1, .mptr 0 0), (3, .int .i64 v2), (4, .int .i64 v2), (5, .int .i64 n4), (13, .int .i64 t1.N), (22, .bool (eqI t1.N 2))] [t1.d] <| spc h rfl (fun g54 h => ?_) fun g54 h => ?_
   ·refine zAF <| zAP <| zBE rfl (by simp [g54]) ?_
    have c56 := q6; simp only [Rng, inR] at c56
    refine last 54 0 [(1, .mptr 0 0), (4, .int .i64 n4), (5, .int .i64 v2)] [t1.d] (st (by simp [q6, q7])) fun zz hs => ?_
    refine zCx <| zBT ?_ hs
    obtain ⟨x57, q58, h⟩ := bs h
    obtain ⟨v59, q60, h⟩ := bs h
    obtain ⟨s61, q62, h⟩ := bs h
    obtain ⟨q63, q64⟩ := zAf q62
    try simp at q63
    try simp at q64
    obtain ⟨v65, q66, h⟩ := bs h
    obtain ⟨s67, q68, h⟩ := bs h
    obtain ⟨q69, q70⟩ := zAf q68
    try simp at q69
    try simp at q70
    obtain ⟨s71, q72, h⟩ := bs h
    obtain ⟨q73, q74⟩ := zAf q72
    try simp at q73
    try simp at q74
    obtain ⟨x75, q76, h⟩ := bs h
    obtain ⟨v77, q78, h⟩ := bs h
    obtain ⟨s79, q80, h⟩ := bs h
    obtain ⟨q81, q82⟩ := zAf q80
    try simp at q81
    try simp at q82
    refine cut 54 0 [(2, .str s79)] [t1.d] ?_ ?_
    ·refine zAW [] mixed (n := 54) rfl (by decide) ?_
     simp [q58, q63, q64, q69, q70, q73, q74, q76, q81, q82]
     have r83 := zA7 x57 n4 v59 q60
     try simp [q58, q63, q64, q69, q70, q73, q74, q76, q81, q82] at r83
     refine zDT r83 (by simp) rfl ?_
     simp [q58, q63, q64, q69, q70, q73, q74, q76, q81, q82]
     have r84 := zDm t1.N v65 q66
     try simp [q58, q63, q64, q69, q70, q73, q74, q76, q81, q82] at r84
     refine zDT r84 (by simp) rfl ?_
     simp [q58, q63, q64, q69, q70, q73, q74, q76, q81, q82]
     have r85 := zA7 x75 v2 v77 q78
     try simp [q58, q63, q64, q69, q70, q73, q74, q76, q81, q82] at r85
     refine zDT r85 (by simp) rfl ?_
     simp [q58, q63, q64, q69, q70, q73, q74, q76, q81, q82]
    refine zAB ?_
    obtain rfl := oi h
    simp
   refine zEf 54 0 [(1, .mptr 0 0), (3, .int .i64 v2), (4, .int .i64 v2), (5, .int .i64 n4), (13, .int .i64 t1.N), (22, .bool (eqI t1.N 6))] [t1.d] <| spc h rfl (fun g87 h => ?_) fun g87 h => ?_
   ·have c88 := eqT g87
    have c89 := q6; simp only [Rng, inR] at c89
    refine last 54 0 [(1, .mptr 0 0), (4, .int .i64 n4), (5, .int .i64 v2)] [t1.d] (st (by simp [q6, q7])) fun zz hs => ?_
    refine zCx <| zBT ?_ hs
    obtain ⟨x90, q91, h⟩ := bs h
    obtain ⟨v92, q93, h⟩ := bs h
    obtain ⟨s94, q95, h⟩ := bs h
    obtain ⟨q96, q97⟩ := zAf q95
    try simp at q96
    try simp at q97
    obtain ⟨v98, q99, h⟩ := bs h
    obtain ⟨s100, q101, h⟩ := bs h
    obtain ⟨q102, q103⟩ := zAf q101
    try simp at q102
    try simp at q103
    obtain ⟨s104, q105, h⟩ := bs h
    obtain ⟨q106, q107⟩ := zAf q105
    try simp at q106
    try simp at q107
    obtain ⟨x108, q109, h⟩ := bs h
    obtain ⟨v110, q111, h⟩ := bs h
    obtain ⟨s112, q113, h⟩ := bs h
    obtain ⟨q114, q115⟩ := zAf q113
    try simp at q114
    try simp at q115
    refine cut 54 0 [(2, .str s112)] [t1.d] ?_ ?_
    ·refine zAW [] mixed (n := 54) rfl (by decide) ?_
     simp [q91, q96, q97, q102, q103, q106, q107, q109, q114, q115]
     have r116 := zA7 x90 n4 v92 q93
     try simp [q91, q96, q97, q102, q103, q106, q107, q109, q114, q115] at r116
     refine zDT r116 (by simp) rfl ?_
     simp [q91, q96, q97, q102, q103, q106, q107, q109, q114, q115]
     have r117 := zDm t1.N v98 q99
     try simp [q91, q96, q97, q102, q103, q106, q107, q109, q114, q115] at r117
     refine zDT r117 (by simp) rfl ?_
     simp [q91, q96, q97, q102, q103, q106, q107, q109, q114, q115]
     have r118 := zA7 x108 v2 v110 q111
     try simp [q91, q96, q97, q102, q103, q106, q107, q109, q114, q115] at r118
     refine zDT r118 (by simp) rfl ?_
     simp [q91, q96, q97, q102, q103, q106, q107, q109, q114, q115]
    refine zAB ?_
    obtain rfl := oi h
    simp
   have c119 := eqF g87
   refine zAM <| cutA 54 0 [(1, .mptr 0 0), (3, .int .i64 v2), (4, .int .i64 v2), (5, .int .i64 n4), (13, .int .i64 t1.N), (29, .bool (eqI t1.N 3))] [t1.d] <| spc h rfl (fun g120 h => ?_) fun g120 h => ?_
   ·refine zAF <| zAP <| zBE rfl (by simp [g120]) ?_
    have c122 := q6; simp only [Rng, inR] at c122
    refine last 54 0 [(1, .mptr 0 0), (4, .int .i64 n4), (5, .int .i64 n4)] [t1.d] (st (by simp [q6, q7])) fun zz hs => ?_
    refine zCx <| zBT ?_ hs
    obtain ⟨x123, q124, h⟩ := bs h
    obtain ⟨v125, q126, h⟩ := bs h
    obtain ⟨s127, q128, h⟩ := bs h
    obtain ⟨q129, q130⟩ := zAf q128
    try simp at q129
    try simp at q130
    obtain ⟨v131, q132, h⟩ := bs h
    obtain ⟨s133, q134, h⟩ := bs h
    obtain ⟨q135, q136⟩ := zAf q134
    try simp at q135
    try simp at q136
    obtain ⟨s137, q138, h⟩ := bs h
    obtain ⟨q139, q140⟩ := zAf q138
    try simp at q139
    try simp at q140
    obtain ⟨x141, q142, h⟩ := bs h
    obtain ⟨v143, q144, h⟩ := bs h
    obtain ⟨s145, q146, h⟩ := bs h
    obtain ⟨q147, q148⟩ := zAf q146
    try simp at q147
    try simp at q148
    refine cut 54 0 [(2, .str s145)] [t1.d] ?_ ?_
    ·refine zAW [] mixed (n := 54) rfl (by decide) ?_
     simp [q124, q129, q130, q135, q136, q139, q140, q142, q147, q148]
     have r149 := zA7 x123 n4 v125 q126
     try simp [q124, q129, q130, q135, q136, q139, q140, q142, q147, q148] at r149
     refine zDT r149 (by simp) rfl ?_
     simp [q124, q129, q130, q135, q136, q139, q140, q142, q147, q148]
     have r150 := zDm t1.N v131 q132
     try simp [q124, q129, q130, q135, q136, q139, q140, q142, q147, q148] at r150
     refine zDT r150 (by simp) rfl ?_
     simp [q124, q129, q130, q135, q136, q139, q140, q142, q147, q148]
     have r151 := zA7 x141 n4 v143 q144
     try simp [q124, q129, q130, q135, q136, q139, q140, q142, q147, q148] at r151
     refine zDT r151 (by simp) rfl ?_
     simp [q124, q129, q130, q135, q136, q139, q140, q142, q147, q148]
    refine zAB ?_
    obtain rfl := oi h
    simp
   refine cutA 54 0 [(1, .mptr 0 0), (3, .int .i64 v2), (4, .int .i64 v2), (5, .int .i64 n4), (13, .int .i64 t1.N), (29, .bool (eqI t1.N 4))] [t1.d] <| spc h rfl (fun g153 h => ?_) fun g153 h => ?_
   ·refine zAF <| zAP <| zBE rfl (by simp [g153]) ?_
    have c155 := q6; simp only [Rng, inR] at c155
    refine last 54 0 [(1, .mptr 0 0), (4, .int .i64 n4), (5, .int .i64 n4)] [t1.d] (st (by simp [q6, q7])) fun zz hs => ?_
    refine zCx <| zBT ?_ hs
    obtain ⟨x156, q157, h⟩ := bs h
    obtain ⟨v158, q159, h⟩ := bs h
    obtain ⟨s160, q161, h⟩ := bs h
    obtain ⟨q162, q163⟩ := zAf q161
    try simp at q162
    try simp at q163
    obtain ⟨v164, q165, h⟩ := bs h
    obtain ⟨s166, q167, h⟩ := bs h
    obtain ⟨q168, q169⟩ := zAf q167
    try simp at q168
    try simp at q169
    obtain ⟨s170, q171, h⟩ := bs h
    obtain ⟨q172, q173⟩ := zAf q171
    try simp at q172
    try simp at q173
    obtain ⟨x174, q175, h⟩ := bs h
    obtain ⟨v176, q177, h⟩ := bs h
    obtain ⟨s178, q179, h⟩ := bs h
    obtain ⟨q180, q181⟩ := zAf q179
    try simp at q180
    try simp at q181
    refine cut 54 0 [(2, .str s178)] [t1.d] ?_ ?_
    ·refine zAW [] mixed (n := 54) rfl (by decide) ?_
     simp [q157, q162, q163, q168, q169, q172, q173, q175, q180, q181]
     have r182 := zA7 x156 n4 v158 q159
     try simp [q157, q162, q163, q168, q169, q172, q173, q175, q180, q181] at r182
     refine zDT r182 (by simp) rfl ?_
     simp [q157, q162, q163, q168, q169, q172, q173, q175, q180, q181]
     have r183 := zDm t1.N v164 q165
     try simp [q157, q162, q163, q168, q169, q172, q173, q175, q180, q181] at r183
     refine zDT r183 (by simp) rfl ?_
     simp [q157, q162, q163, q168, q169, q172, q173, q175, q180, q181]
     have r184 := zA7 x174 n4 v176 q177
     try simp [q157, q162, q163, q168, q169, q172, q173, q175, q180, q181] at r184
     refine zDT r184 (by simp) rfl ?_
     simp [q157, q162, q163, q168, q169, q172, q173, q175, q180, q181]
    refine zAB ?_
    obtain rfl := oi h
    simp
   refine zEf 54 0 [(1, .mptr 0 0), (3, .int .i64 v2), (4, .int .i64 v2), (5, .int .i64 n4), (29, .bool (eqI t1.N 5))] [t1.d] <| spc h rfl (fun g186 h => ?_) fun g186 h => ?_
   ·have c187 := eqT g186
    have c188 := q6; simp only [Rng, inR] at c188
    refine last 54 0 [(1, .mptr 0 0), (4, .int .i64 n4), (5, .int .i64 n4)] [t1.d] (st (by simp [q6, q7])) fun zz hs => ?_
    refine zCx <| zBT ?_ hs
    obtain ⟨x189, q190, h⟩ := bs h
    obtain ⟨v191, q192, h⟩ := bs h
    obtain ⟨s193, q194, h⟩ := bs h
    obtain ⟨q195, q196⟩ := zAf q194
    try simp at q195
    try simp at q196
    obtain ⟨v197, q198, h⟩ := bs h
    obtain ⟨s199, q200, h⟩ := bs h
    obtain ⟨q201, q202⟩ := zAf q200
    try simp at q201
    try simp at q202
    obtain ⟨s203, q204, h⟩ := bs h
    obtain ⟨q205, q206⟩ := zAf q204
    try simp at q205
    try simp at q206
    obtain ⟨x207, q208, h⟩ := bs h
    obtain ⟨v209, q210, h⟩ := bs h
    obtain ⟨s211, q212, h⟩ := bs h
    obtain ⟨q213, q214⟩ := zAf q212
    try simp at q213
    try simp at q214
    refine cut 54 0 [(2, .str s211)] [t1.d] ?_ ?_
    ·refine zAW [] mixed (n := 54) rfl (by decide) ?_
     simp [q190, q195, q196, q201, q202, q205, q206, q208, q213, q214]
     have r215 := zA7 x189 n4 v191 q192
     try simp [q190, q195, q196, q201, q202, q205, q206, q208, q213, q214] at r215
     refine zDT r215 (by simp) rfl ?_
     simp [q190, q195, q196, q201, q202, q205, q206, q208, q213, q214]
     have r216 := zDm t1.N v197 q198
     try simp [q190, q195, q196, q201, q202, q205, q206, q208, q213, q214] at r216
     refine zDT r216 (by simp) rfl ?_
     simp [q190, q195, q196, q201, q202, q205, q206, q208, q213, q214]
     have r217 := zA7 x207 n4 v209 q210
     try simp [q190, q195, q196, q201, q202, q205, q206, q208, q213, q214] at r217
     refine zDT r217 (by simp) rfl ?_
     simp [q190, q195, q196, q201, q202, q205, q206, q208, q213, q214]
    refine zAB ?_
    obtain rfl := oi h
    simp
   have c218 := eqF g186
   refine zAF <| zCx <| zAP ?_
   obtain ⟨x219, q220, h⟩ := bs h
   obtain ⟨v221, q222, h⟩ := bs h
   obtain ⟨s223, q224, h⟩ := bs h
   obtain ⟨q225, q226⟩ := zAf q224
   try simp at q225
   try simp at q226
   obtain ⟨v227, q228, h⟩ := bs h
   obtain ⟨s229, q230, h⟩ := bs h
   obtain ⟨q231, q232⟩ := zAf q230
   try simp at q231
   try simp at q232
   obtain ⟨s233, q234, h⟩ := bs h
   obtain ⟨q235, q236⟩ := zAf q234
   try simp at q235
   try simp at q236
   obtain ⟨x237, q238, h⟩ := bs h
   obtain ⟨v239, q240, h⟩ := bs h
   obtain ⟨s241, q242, h⟩ := bs h
   obtain ⟨q243, q244⟩ := zAf q242
   try simp at q243
   try simp at q244
   refine cut 54 0 [(2, .str s241)] [t1.d] ?_ ?_
   ·refine zAW [] mixed (n := 54) rfl (by decide) ?_
    simp [q220, q225, q226, q231, q232, q235, q236, q238, q243, q244]
    have r245 := zA7 x219 v2 v221 q222
    try simp [q220, q225, q226, q231, q232, q235, q236, q238, q243, q244] at r245
    refine zDT r245 (by simp) rfl ?_
    simp [q220, q225, q226, q231, q232, q235, q236, q238, q243, q244]
    have r246 := zDm t1.N v227 q228
    try simp [q220, q225, q226, q231, q232, q235, q236, q238, q243, q244] at r246
    refine zDT r246 (by simp) rfl ?_
    simp [q220, q225, q226, q231, q232, q235, q236, q238, q243, q244]
    have r247 := zA7 x237 n4 v239 q240
    try simp [q220, q225, q226, q231, q232, q235, q236, q238, q243, q244] at r247
    refine zDT r247 (by simp) rfl ?_
    simp [q220, q225, q226, q231, q232, q235, q236, q238, q243, q244]
   refine zAB ?_
   obtain rfl := oi h
   simp
  ·intro t1 r h
   rw [zAX] at h
   refine zAO Tryz.func44 (by rfl) (by rfl) (by simp) (by simp) (by simp) <| cutA 173 0 [(1, .mptr 0 0)] [t1.d] <| zAM <| cutA 173 0 [(1, .mptr 0 0), (4, .int .i64 t1.Op)] [t1.d] <| zAU <| cutA 173 0 [(1, .mptr 0 0), (4, .int .i64 t1.Op), (5, .bool (eqI t1.Op 11))] [t1.d] <| spc h rfl (fun g2 h => ?_) fun g2 h => ?_
   ·refine cutA 173 0 [(2, .str [95])] [t1.d] <| zAB <| zAJ <| zAE ?_
    obtain rfl := oi h
    simp
   refine cutA 173 0 [(1, .mptr 0 0), (4, .int .i64 t1.Op), (7, .bool (eqI t1.Op 12))] [t1.d] <| spc h rfl (fun g5 h => ?_) fun g5 h => ?_
   ·refine cutA 173 0 [(2, .str t1.S)] [t1.d] <| zAB <| zAJ <| zAE ?_
    obtain rfl := oi h
    simp
   refine zAM <| cutA 173 0 [(1, .mptr 0 0), (4, .int .i64 t1.Op), (11, .bool (eqI t1.Op 13))] [t1.d] <| spc h rfl (fun g8 h => ?_) fun g8 h => ?_
   ·refine zAF <| zAP <| zBE rfl (by simp [g8]) ?_
    obtain ⟨v10, q11, h⟩ := bs h
    refine cut 173 0 [(2, .str v10)] [t1.d] ?_ ?_
    ·refine st ?_
     simp
     have r12 := zGN fuel t1.N v10 q11
     try simp at r12
     refine zAA r12 (by simp) rfl ?_
     simp
    refine zAB <| zAJ <| zAE ?_
    obtain rfl := oi h
    simp
   refine zEf 173 0 [(1, .mptr 0 0), (4, .int .i64 t1.Op), (11, .bool (eqI t1.Op 21))] [t1.d] <| spc h rfl (fun g14 h => ?_) fun g14 h => ?_
   ·have c15 := eqT g14
    obtain ⟨v16, q17, h⟩ := bs h
    refine cut 173 0 [(2, .str v16)] [t1.d] ?_ ?_
    ·refine st ?_
     simp
     have r18 := zGN fuel t1.N v16 q17
     try simp at r18
     refine zAA r18 (by simp) rfl ?_
     simp
    refine zAB <| zAJ <| zAE ?_
    obtain rfl := oi h
    simp
   have c19 := eqF g14
   refine cutA 173 0 [(1, .mptr 0 0), (4, .int .i64 t1.Op), (17, .bool (eqI t1.Op 14))] [t1.d] <| spc h rfl (fun g20 h => ?_) fun g20 h => ?_
   ·refine zAM <| cutA 173 0 [(1, .mptr 0 0), (22, .bool (eqI (t1.L.length : Int) 0))] [t1.d] <| spc h rfl (fun g22 h => ?_) fun g22 h => ?_
    ·have c23 := eqT g22
     obtain ⟨v24, q25, h⟩ := bs h
     refine cut 173 0 [(2, .str v24)] [t1.d] ?_ ?_
     ·refine st ?_
      simp
      have r26 := zB6 fuel t1.Names v24 q25
      try simp at r26
      refine zAA r26 (by simp) rfl ?_
      simp
     refine zAB <| zAE <| zAJ <| zAE ?_
     obtain rfl := oi h
     simp
    have c27 := eqF g22
    refine zAF <| zAP ?_
    obtain ⟨v28, q29, h⟩ := bs h
    obtain ⟨s30, q31, h⟩ := bs h
    obtain ⟨q32, q33⟩ := zAf q31
    try simp at q32
    try simp at q33
    obtain ⟨x34, q35, h⟩ := bs h
    obtain ⟨v36, q37, h⟩ := bs h
    obtain ⟨s38, q39, h⟩ := bs h
    obtain ⟨q40, q41⟩ := zAf q39
    try simp at q40
    try simp at q41
    refine cut 173 0 [(2, .str s38)] [t1.d] ?_ ?_
    ·refine zAW [] mixed (n := 173) rfl (by decide) ?_
     simp [q32, q33, q35, q40, q41]
     have r42 := zB6 fuel t1.Names v28 q29
     try simp [q32, q33, q35, q40, q41] at r42
     refine zDT r42 (by simp) rfl ?_
     simp [q32, q33, q35, q40, q41]
     have r43 := zA7 x34 1 v36 q37
     try simp [q32, q33, q35, q40, q41] at r43
     refine zDT r43 (by simp) rfl ?_
     simp [q32, q33, q35, q40, q41]
    refine zAB <| zAJ <| zAE ?_
    obtain rfl := oi h
    simp
   refine zAM <| cutA 173 0 [(1, .mptr 0 0), (4, .int .i64 t1.Op), (36, .bool (eqI t1.Op 15))] [t1.d] <| spc h rfl (fun g45 h => ?_) fun g45 h => ?_
   ·refine zAF <| zAP <| zBE rfl (by simp [g45]) ?_
    obtain ⟨v47, q48, h⟩ := bs h
    obtain ⟨s49, q50, h⟩ := bs h
    obtain ⟨q51, q52⟩ := zAf q50
    try simp at q51
    try simp at q52
    obtain ⟨s53, q54, h⟩ := bs h
    obtain ⟨q55, q56⟩ := zAf q54
    try simp at q55
    try simp at q56
    refine cut 173 0 [(2, .str s53)] [t1.d] ?_ ?_
    ·refine st ?_
     simp [q51, q52, q55, q56]
     have r57 := zEM t1.L 0 [44, 32] v47 q48
     try simp [q51, q52, q55, q56] at r57
     refine zAA r57 (by simp) rfl ?_
     simp [q51, q52, q55, q56]
    refine zAB <| zAJ <| zAE ?_
    obtain rfl := oi h
    simp
   refine zEf 173 0 [(1, .mptr 0 0), (4, .int .i64 t1.Op), (36, .bool (eqI t1.Op 27))] [t1.d] <| spc h rfl (fun g59 h => ?_) fun g59 h => ?_
   ·have c60 := eqT g59
    obtain ⟨v61, q62, h⟩ := bs h
    obtain ⟨s63, q64, h⟩ := bs h
    obtain ⟨q65, q66⟩ := zAf q64
    try simp at q65
    try simp at q66
    obtain ⟨s67, q68, h⟩ := bs h
    obtain ⟨q69, q70⟩ := zAf q68
    try simp at q69
    try simp at q70
    refine cut 173 0 [(2, .str s67)] [t1.d] ?_ ?_
    ·refine st ?_
     simp [q65, q66, q69, q70]
     have r71 := zEM t1.L 0 [44, 32] v61 q62
     try simp [q65, q66, q69, q70] at r71
     refine zAA r71 (by simp) rfl ?_
     simp [q65, q66, q69, q70]
    refine zAB <| zAJ <| zAE ?_
    obtain rfl := oi h
    simp
   have c72 := eqF g59
   refine cutA 173 0 [(1, .mptr 0 0), (4, .int .i64 t1.Op), (44, .bool (eqI t1.Op 22))] [t1.d] <| spc h rfl (fun g73 h => ?_) fun g73 h => ?_
   ·obtain ⟨v75, q76, h⟩ := bs h
    refine cut 173 0 [(2, .str v75)] [t1.d] ?_ ?_
    ·refine st ?_
     simp
     have r77 := zIr fuel t1.S v75 q76
     try simp at r77
     refine zAA r77 (by simp) rfl ?_
     simp
    refine zAB <| zAJ <| zAE ?_
    obtain rfl := oi h
    simp
   refine zAM <| cutA 173 0 [(1, .mptr 0 0), (4, .int .i64 t1.Op), (49, .bool (eqI t1.Op 23))] [t1.d] <| spc h rfl (fun g79 h => ?_) fun g79 h => ?_
   ·refine zAF <| zAP <| zBE rfl (by simp [g79]) ?_
    obtain ⟨v81, q82, h⟩ := bs h
    refine cut 173 0 [(2, .str v81)] [t1.d] ?_ ?_
    ·refine st ?_
     simp
     have r83 := zB6 fuel t1.Names v81 q82
     try simp at r83
     refine zAA r83 (by simp) rfl ?_
     simp
    refine zAB <| zAJ <| zAE ?_
    obtain rfl := oi h
    simp
   refine zEf 173 0 [(1, .mptr 0 0), (4, .int .i64 t1.Op), (49, .bool (eqI t1.Op 24))] [t1.d] <| spc h rfl (fun g85 h => ?_) fun g85 h => ?_
   ·have c86 := eqT g85
    obtain ⟨v87, q88, h⟩ := bs h
    refine cut 173 0 [(2, .str v87)] [t1.d] ?_ ?_
    ·refine st ?_
     simp
     have r89 := zB6 fuel t1.Names v87 q88
     try simp at r89
     refine zAA r89 (by simp) rfl ?_
     simp
    refine zAB <| zAJ <| zAE ?_
    obtain rfl := oi h
    simp
   have c90 := eqF g85
   refine cutA 173 0 [(1, .mptr 0 0), (4, .int .i64 t1.Op), (55, .bool (eqI t1.Op 25))] [t1.d] <| spc h rfl (fun g91 h => ?_) fun g91 h => ?_
   ·refine zAM <| cutA 173 0 [(1, .mptr 0 0), (59, .bool (eqS t1.S ([] : List UInt8)))] [t1.d] <| spc h rfl (fun g93 h => ?_) fun g93 h => ?_
    ·obtain ⟨x94, q95, h⟩ := bs h
     obtain ⟨v96, q97, h⟩ := bs h
     obtain ⟨s98, q99, h⟩ := bs h
     obtain ⟨q100, q101⟩ := zAf q99
     try simp at q100
     try simp at q101
     refine cut 173 0 [(2, .str s98)] [t1.d] ?_ ?_
     ·refine st ?_
      simp [q95, q100, q101]
      have r102 := zAm x94 v96 q97
      try simp [q95, q100, q101] at r102
      refine zAA r102 (by simp) rfl ?_
      simp [q95, q100, q101]
     refine zAB <| zAE <| zAJ <| zAE ?_
     obtain rfl := oi h
     simp
    refine zAF <| zAP ?_
    obtain ⟨s103, q104, h⟩ := bs h
    obtain ⟨q105, q106⟩ := zAf q104
    try simp at q105
    try simp at q106
    obtain ⟨s107, q108, h⟩ := bs h
    obtain ⟨q109, q110⟩ := zAf q108
    try simp at q109
    try simp at q110
    obtain ⟨x111, q112, h⟩ := bs h
    obtain ⟨v113, q114, h⟩ := bs h
    obtain ⟨s115, q116, h⟩ := bs h
    obtain ⟨q117, q118⟩ := zAf q116
    try simp at q117
    try simp at q118
    refine cut 173 0 [(2, .str s115)] [t1.d] ?_ ?_
    ·refine zAW [] mixed (n := 173) rfl (by decide) ?_
     simp [q105, q106, q109, q110, q112, q117, q118]
     have r119 := zAm x111 v113 q114
     try simp [q105, q106, q109, q110, q112, q117, q118] at r119
     refine zDT r119 (by simp) rfl ?_
     simp [q105, q106, q109, q110, q112, q117, q118]
    refine zAB <| zAJ <| zAE ?_
    obtain rfl := oi h
    simp
   refine cutA 173 0 [(1, .mptr 0 0), (4, .int .i64 t1.Op), (76, .bool (eqI t1.Op 26))] [t1.d] <| spc h rfl (fun g121 h => ?_) fun g121 h => ?_
   ·obtain ⟨x123, q124, h⟩ := bs h
    obtain ⟨v125, q126, h⟩ := bs h
    obtain ⟨s127, q128, h⟩ := bs h
    obtain ⟨q129, q130⟩ := zAf q128
    try simp at q129
    try simp at q130
    obtain ⟨x131, q132, h⟩ := bs h
    obtain ⟨v133, q134, h⟩ := bs h
    obtain ⟨s135, q136, h⟩ := bs h
    obtain ⟨q137, q138⟩ := zAf q136
    try simp at q137
    try simp at q138
    refine cut 173 0 [(2, .str s135)] [t1.d] ?_ ?_
    ·refine zAW [] mixed (n := 173) rfl (by decide) ?_
     simp [q124, q129, q130, q132, q137, q138]
     have r139 := zA7 x123 8 v125 q126
     try simp [q124, q129, q130, q132, q137, q138] at r139
     refine zDT r139 (by simp) rfl ?_
     simp [q124, q129, q130, q132, q137, q138]
     have r140 := zA7 x131 9 v133 q134
     try simp [q124, q129, q130, q132, q137, q138] at r140
     refine zDT r140 (by simp) rfl ?_
     simp [q124, q129, q130, q132, q137, q138]
    refine zAB <| zAJ <| zAE ?_
    obtain rfl := oi h
    simp
   refine cutA 173 0 [(1, .mptr 0 0), (4, .int .i64 t1.Op), (90, .bool (eqI t1.Op 28))] [t1.d] <| spc h rfl (fun g142 h => ?_) fun g142 h => ?_
   ·obtain ⟨x144, q145, h⟩ := bs h
    obtain ⟨v146, q147, h⟩ := bs h
    obtain ⟨s148, q149, h⟩ := bs h
    obtain ⟨q150, q151⟩ := zAf q149
    try simp at q150
    try simp at q151
    obtain ⟨s152, q153, h⟩ := bs h
    obtain ⟨q154, q155⟩ := zAf q153
    try simp at q154
    try simp at q155
    obtain ⟨x156, q157, h⟩ := bs h
    obtain ⟨v158, q159, h⟩ := bs h
    obtain ⟨s160, q161, h⟩ := bs h
    obtain ⟨q162, q163⟩ := zAf q161
    try simp at q162
    try simp at q163
    obtain ⟨s164, q165, h⟩ := bs h
    obtain ⟨q166, q167⟩ := zAf q165
    try simp at q166
    try simp at q167
    obtain ⟨x168, q169, h⟩ := bs h
    obtain ⟨v170, q171, h⟩ := bs h
    obtain ⟨s172, q173, h⟩ := bs h
    obtain ⟨q174, q175⟩ := zAf q173
    try simp at q174
    try simp at q175
    refine cut 173 0 [(2, .str s172)] [t1.d] ?_ ?_
    ·refine zAW [] mixed (n := 173) rfl (by decide) ?_
     simp [q145, q150, q151, q154, q155, q157, q162, q163, q166, q167, q169, q174, q175]
     have r176 := zAm x144 v146 q147
     try simp [q145, q150, q151, q154, q155, q157, q162, q163, q166, q167, q169, q174, q175] at r176
     refine zDT r176 (by simp) rfl ?_
     simp [q145, q150, q151, q154, q155, q157, q162, q163, q166, q167, q169, q174, q175]
     have r177 := zAm x156 v158 q159
     try simp [q145, q150, q151, q154, q155, q157, q162, q163, q166, q167, q169, q174, q175] at r177
     refine zDT r177 (by simp) rfl ?_
     simp [q145, q150, q151, q154, q155, q157, q162, q163, q166, q167, q169, q174, q175]
     have r178 := zAm x168 v170 q171
     try simp [q145, q150, q151, q154, q155, q157, q162, q163, q166, q167, q169, q174, q175] at r178
     refine zDT r178 (by simp) rfl ?_
     simp [q145, q150, q151, q154, q155, q157, q162, q163, q166, q167, q169, q174, q175]
    refine zAB <| zAJ <| zAE ?_
    obtain rfl := oi h
    simp
   refine cutA 173 0 [(1, .mptr 0 0), (4, .int .i64 t1.Op), (112, .bool (eqI t1.Op 29))] [t1.d] <| spc h rfl (fun g180 h => ?_) fun g180 h => ?_
   ·obtain ⟨x182, q183, h⟩ := bs h
    obtain ⟨v184, q185, h⟩ := bs h
    obtain ⟨s186, q187, h⟩ := bs h
    obtain ⟨q188, q189⟩ := zAf q187
    try simp at q188
    try simp at q189
    obtain ⟨s190, q191, h⟩ := bs h
    obtain ⟨q192, q193⟩ := zAf q191
    try simp at q192
    try simp at q193
    obtain ⟨l194, q195, h⟩ := bs h
    obtain ⟨q196, q197⟩ := zEW q195
    try simp at q196
    try simp at q197
    obtain ⟨v198, q199, h⟩ := bs h
    obtain ⟨s200, q201, h⟩ := bs h
    obtain ⟨q202, q203⟩ := zAf q201
    try simp at q202
    try simp at q203
    obtain ⟨s204, q205, h⟩ := bs h
    obtain ⟨q206, q207⟩ := zAf q205
    try simp at q206
    try simp at q207
    refine cut 173 0 [(2, .str s204)] [t1.d] ?_ ?_
    ·refine zAW [] mixed (n := 173) rfl (by decide) ?_
     simp [q183, q188, q189, q192, q193, q196, q197, q202, q203, q206, q207]
     have r208 := zAm x182 v184 q185
     try simp [q183, q188, q189, q192, q193, q196, q197, q202, q203, q206, q207] at r208
     refine zDT r208 (by simp) rfl ?_
     simp [q183, q188, q189, q192, q193, q196, q197, q202, q203, q206, q207]
     have r209 := zEM l194 0 [32, 124, 32] v198 q199
     try simp [q183, q188, q189, q192, q193, q196, q197, q202, q203, q206, q207] at r209
     refine zDT r209 (by simp) rfl ?_
     simp [q183, q188, q189, q192, q193, q196, q197, q202, q203, q206, q207]
    refine zAB <| zAJ <| zAE ?_
    obtain rfl := oi h
    simp
   refine cutA 173 0 [(1, .mptr 0 0), (4, .int .i64 t1.Op), (127, .bool (eqI t1.Op 30))] [t1.d] <| spc h rfl (fun g211 h => ?_) fun g211 h => ?_
   ·obtain ⟨x213, q214, h⟩ := bs h
    obtain ⟨v215, q216, h⟩ := bs h
    obtain ⟨s217, q218, h⟩ := bs h
    obtain ⟨q219, q220⟩ := zAf q218
    try simp at q219
    try simp at q220
    obtain ⟨x221, q222, h⟩ := bs h
    obtain ⟨v223, q224, h⟩ := bs h
    obtain ⟨s225, q226, h⟩ := bs h
    obtain ⟨q227, q228⟩ := zAf q226
    try simp at q227
    try simp at q228
    refine cut 173 0 [(2, .str s225)] [t1.d] ?_ ?_
    ·refine zAW [] mixed (n := 173) rfl (by decide) ?_
     simp [q214, q219, q220, q222, q227, q228]
     have r229 := zAm x213 v215 q216
     try simp [q214, q219, q220, q222, q227, q228] at r229
     refine zDT r229 (by simp) rfl ?_
     simp [q214, q219, q220, q222, q227, q228]
     have r230 := zAm x221 v223 q224
     try simp [q214, q219, q220, q222, q227, q228] at r230
     refine zDT r230 (by simp) rfl ?_
     simp [q214, q219, q220, q222, q227, q228]
    refine zAB <| zAJ <| zAE ?_
    obtain rfl := oi h
    simp
   refine cutA 173 0 [(1, .mptr 0 0), (4, .int .i64 t1.Op), (141, .bool (eqI t1.Op 32))] [t1.d] <| spc h rfl (fun g232 h => ?_) fun g232 h => ?_
   ·obtain ⟨v234, q235, h⟩ := bs h
    refine cut 173 0 [(2, .str v234)] [t1.d] ?_ ?_
    ·refine st ?_
     simp
     have r236 := zHH t1 v234 q235
     try simp at r236
     refine zAA r236 (by simp) rfl ?_
     simp
    refine zAB <| zAJ <| zAE ?_
    obtain rfl := oi h
    simp
   refine cutA 173 0 [(1, .mptr 0 0), (145, .bool (eqI t1.Op 33))] [t1.d] <| spc h rfl (fun g238 h => ?_) fun g238 h => ?_
   ·obtain ⟨x240, q241, h⟩ := bs h
    obtain ⟨v242, q243, h⟩ := bs h
    obtain ⟨s244, q245, h⟩ := bs h
    obtain ⟨q246, q247⟩ := zAf q245
    try simp at q246
    try simp at q247
    obtain ⟨s248, q249, h⟩ := bs h
    obtain ⟨q250, q251⟩ := zAf q249
    try simp at q250
    try simp at q251
    obtain ⟨x252, q253, h⟩ := bs h
    obtain ⟨v254, q255, h⟩ := bs h
    obtain ⟨s256, q257, h⟩ := bs h
    obtain ⟨q258, q259⟩ := zAf q257
    try simp at q258
    try simp at q259
    obtain ⟨s260, q261, h⟩ := bs h
    obtain ⟨q262, q263⟩ := zAf q261
    try simp at q262
    try simp at q263
    refine cut 173 0 [(2, .str s260)] [t1.d] ?_ ?_
    ·refine zAW [] mixed (n := 173) rfl (by decide) ?_
     simp [q241, q246, q247, q250, q251, q253, q258, q259, q262, q263]
     have r264 := zAm x240 v242 q243
     try simp [q241, q246, q247, q250, q251, q253, q258, q259, q262, q263] at r264
     refine zDT r264 (by simp) rfl ?_
     simp [q241, q246, q247, q250, q251, q253, q258, q259, q262, q263]
     have r265 := zAm x252 v254 q255
     try simp [q241, q246, q247, q250, q251, q253, q258, q259, q262, q263] at r265
     refine zDT r265 (by simp) rfl ?_
     simp [q241, q246, q247, q250, q251, q253, q258, q259, q262, q263]
    refine zAB <| zAJ <| zAE ?_
    obtain rfl := oi h
    simp
   refine zAF <| zCx <| zAP ?_
   obtain ⟨v267, q268, h⟩ := bs h
   obtain ⟨s269, q270, h⟩ := bs h
   obtain ⟨q271, q272⟩ := zAf q270
   try simp at q271
   try simp at q272
   obtain ⟨s273, q274, h⟩ := bs h
   obtain ⟨q275, q276⟩ := zAf q274
   try simp at q275
   try simp at q276
   obtain ⟨x277, q278, h⟩ := bs h
   obtain ⟨v279, q280, h⟩ := bs h
   obtain ⟨s281, q282, h⟩ := bs h
   obtain ⟨q283, q284⟩ := zAf q282
   try simp at q283
   try simp at q284
   obtain ⟨s285, q286, h⟩ := bs h
   obtain ⟨q287, q288⟩ := zAf q286
   try simp at q287
   try simp at q288
   refine cut 173 0 [(2, .str s285)] [t1.d] ?_ ?_
   ·refine zAW [] mixed (n := 173) rfl (by decide) ?_
    simp [q271, q272, q275, q276, q278, q283, q284, q287, q288]
    have r289 := zB6 fuel t1.Names v267 q268
    try simp [q271, q272, q275, q276, q278, q283, q284, q287, q288] at r289
    refine zDT r289 (by simp) rfl ?_
    simp [q271, q272, q275, q276, q278, q283, q284, q287, q288]
    have r290 := zAm x277 v279 q280
    try simp [q271, q272, q275, q276, q278, q283, q284, q287, q288] at r290
    refine zDT r290 (by simp) rfl ?_
    simp [q271, q272, q275, q276, q278, q283, q284, q287, q288]
   refine zAB ?_
   obtain rfl := oi h
   simp
  ·intro l1 level2 between3 r h
   rw [zCw] at h
   refine zAO Tryz.func72 (by rfl) (by rfl) (by simp) (by simp) (by simp) <| cutA 27 0 [(0, .sl (l1.map zJC.c)), (1, .int .i64 level2), (2, .str between3)] [] <| cutA 27 0 [(0, .sl (l1.map zJC.c)), (1, .int .i64 level2), (2, .str between3), (7, .osl ⟨1, 9⟩ (([] : List (List UInt8)).map cS))] [] <| zAM <| cutA 27 0 [(0, .sl (l1.map zJC.c)), (1, .int .i64 level2), (2, .str between3), (7, .osl ⟨1, 9⟩ (([] : List (List UInt8)).map cS)), (8, .int .i64 0)] [] <| zAU ?_
   obtain ⟨o6, l7, h⟩ := bs h
   refine zB2 (fun p : Nat × (List (List UInt8)) × Nat => mkS 27 0 [(0, .sl (l1.map zJC.c)), (1, .int .i64 level2), (2, .str between3), (7, .osl ⟨1, 9⟩ (p.2.1.map cS)), (8, .int .i64 p.2.2)] []) (fun p => zC6 (zA2 fuel) l1 level2 p.1 p.2.1 p.2.2 = some o6) (fun p => p.1) (fuel, ([] : List (List UInt8)), 0) l7 (zBS (by simp)) ?_
   rintro ⟨k8, out4, i5⟩ l7
   dsimp only at l7 ⊢
   cases k8 with
   | zero =>
    rw [zC6] at l7; cases l7
   | succ k9 =>
    rw [zC6] at l7
    refine zAM <| cutA 27 0 [(0, .sl (l1.map zJC.c)), (1, .int .i64 level2), (2, .str between3), (7, .osl ⟨1, 9⟩ (out4.map cS)), (8, .int .i64 i5), (12, .bool (ltI ((i5 : Nat) : Int) (l1.length : Int)))] [] <| spc l7 rfl (fun g10 l7 => ?_) fun g10 l7 => ?_
    ·have c11 := ltT g10
     refine zD3 0 rfl fun f12 => ?_
     rw [List.length_map] at f12
     refine zAF <| zAP <| zAM <| zAU ?_
     obtain ⟨x13, q14, l7⟩ := bs l7
     obtain ⟨v15, q16, l7⟩ := bs l7
     obtain ⟨l17, q18, l7⟩ := bs l7
     obtain ⟨q19, q20⟩ := app_ok q18
     try simp at q19
     refine last 27 0 [(0, .sl (l1.map zJC.c)), (1, .int .i64 level2), (2, .str between3), (7, .osl ⟨1, 9⟩ (l17.map cS)), (8, .int .i64 i5)] [] ?_ fun zz hs => ?_
     ·refine st ?_
      simp [q14, q19, q20]
      have r22 := zA7 x13 level2 v15 q16
      try simp [q14, q19, q20] at r22
      refine zAA r22 (by simp) rfl ?_
      simp [q14, q19, q20]
     refine zCx <| zBT ?_ hs
     have q21 : Rng .i64 (((i5 : Nat) : Int) + 1) := by simp only [Rng, inR]; omega
     try simp at q21
     refine last 27 0 [(0, .sl (l1.map zJC.c)), (1, .int .i64 level2), (2, .str between3), (7, .osl ⟨1, 9⟩ (l17.map cS)), (8, .int .i64 ((i5 + 1 : Nat) : Int))] [] (st (by simp [q21])) fun zz hs => ?_
     exact ⟨(k9, l17, i5 + 1), hs, l7, by simp⟩
    have c23 := ltF g10
    refine zD3 0 rfl fun f24 => ?_
    rw [List.length_map] at f24
    refine zBR <| zAc ?_
    have q25 := Option.some.inj l7
    have q25 := q25.symm
    refine zAc <| zBQ <| zBT (t := mkS 27 0 [(2, .str between3), (7, .osl ⟨1, 9⟩ (o6.map cS))] []) ?_ (zBS (by simp [q25]))
    obtain ⟨v26, q27, h⟩ := bs h
    refine cut 27 0 [(6, .str v26)] [] ?_ ?_
    ·refine st ?_
     simp
     have r28 := zEA fuel o6 between3 v26 q27
     try simp at r28
     refine zAA r28 (by simp) rfl ?_
     simp
    refine zAB ?_
    obtain rfl := oi h
    simp
  ·intro t1 level2 r h
   rw [zA2] at h
   refine zAO Tryz.func71 (by rfl) (by rfl) (by simp) (by simp) (by simp) <| cutA 15 0 [(1, .int .i64 level2), (2, .mptr 0 0)] [t1.d] <| zAM ?_
   obtain ⟨v3, q4, h⟩ := bs h
   refine cut 15 0 [(2, .mptr 0 0), (8, .bool (ltI v3 level2))] [t1.d] ?_ ?_
   ·refine st ?_
    simp
    have r22 := zIp t1 v3 q4
    try simp at r22
    refine zAA r22 (by simp) rfl ?_
    simp
   refine spc h rfl (fun g5 h => ?_) fun g5 h => ?_
   ·have c6 := ltT g5
    obtain ⟨v7, q8, h⟩ := bs h
    obtain ⟨s9, q10, h⟩ := bs h
    obtain ⟨q11, q12⟩ := zAf q10
    try simp at q11
    try simp at q12
    obtain ⟨s13, q14, h⟩ := bs h
    obtain ⟨q15, q16⟩ := zAf q14
    try simp at q15
    try simp at q16
    refine cut 15 0 [(4, .str s13)] [t1.d] ?_ ?_
    ·refine st ?_
     simp [q11, q12, q15, q16]
     have r17 := zAm t1 v7 q8
     try simp [q11, q12, q15, q16] at r17
     refine zAA r17 (by simp) rfl ?_
     simp [q11, q12, q15, q16]
    refine zAB <| zAE ?_
    obtain rfl := oi h
    simp
   have c18 := ltF g5
   refine zAF <| zAP ?_
   obtain ⟨v19, q20, h⟩ := bs h
   refine cut 15 0 [(4, .str v19)] [t1.d] ?_ ?_
   ·refine st ?_
    simp
    have r21 := zAm t1 v19 q20
    try simp at r21
    refine zAA r21 (by simp) rfl ?_
    simp
   refine zAB ?_
   obtain rfl := oi h
   simp
  ·intro t1 r h
   rw [zCp] at h
   refine zAO Tryz.func43 (by rfl) (by rfl) (by simp) (by simp) (by simp) <| cutA 64 0 [(1, .mptr 0 0)] [t1.d] <| zAM <| cutA 64 0 [(1, .mptr 0 0), (4, .int .i64 t1.Op)] [t1.d] <| zAU <| cutA 64 0 [(1, .mptr 0 0), (4, .int .i64 t1.Op), (5, .bool (eqI t1.Op 1))] [t1.d] <| spc h rfl (fun g2 h => ?_) fun g2 h => ?_
   ·refine cutA 64 0 [(2, .str t1.S)] [t1.d] <| zAB <| zAJ <| zAE ?_
    obtain rfl := oi h
    simp
   refine cutA 64 0 [(1, .mptr 0 0), (4, .int .i64 t1.Op), (9, .bool (eqI t1.Op 3))] [t1.d] <| spc h rfl (fun g5 h => ?_) fun g5 h => ?_
   ·obtain ⟨x7, q8, h⟩ := bs h
    obtain ⟨v9, q10, h⟩ := bs h
    obtain ⟨s11, q12, h⟩ := bs h
    obtain ⟨q13, q14⟩ := zAf q12
    try simp at q13
    try simp at q14
    obtain ⟨x15, q16, h⟩ := bs h
    obtain ⟨v17, q18, h⟩ := bs h
    obtain ⟨s19, q20, h⟩ := bs h
    obtain ⟨q21, q22⟩ := zAf q20
    try simp at q21
    try simp at q22
    refine cut 64 0 [(2, .str s19)] [t1.d] ?_ ?_
    ·refine zAW [] mixed (n := 64) rfl (by decide) ?_
     simp [q8, q13, q14, q16, q21, q22]
     have r23 := zA7 x7 1 v9 q10
     try simp [q8, q13, q14, q16, q21, q22] at r23
     refine zDT r23 (by simp) rfl ?_
     simp [q8, q13, q14, q16, q21, q22]
     have r24 := zA7 x15 0 v17 q18
     try simp [q8, q13, q14, q16, q21, q22] at r24
     refine zDT r24 (by simp) rfl ?_
     simp [q8, q13, q14, q16, q21, q22]
    refine zAB <| zAJ <| zAE ?_
    obtain rfl := oi h
    simp
   refine cutA 64 0 [(1, .mptr 0 0), (4, .int .i64 t1.Op), (23, .bool (eqI t1.Op 4))] [t1.d] <| spc h rfl (fun g26 h => ?_) fun g26 h => ?_
   ·obtain ⟨v28, q29, h⟩ := bs h
    refine cut 64 0 [(2, .str v28)] [t1.d] ?_ ?_
    ·refine st ?_
     simp
     have r30 := zEM t1.L 2 [32, 42, 32] v28 q29
     try simp at r30
     refine zAA r30 (by simp) rfl ?_
     simp
    refine zAB <| zAJ <| zAE ?_
    obtain rfl := oi h
    simp
   refine cutA 64 0 [(1, .mptr 0 0), (28, .bool (eqI t1.Op 5))] [t1.d] <| spc h rfl (fun g32 h => ?_) fun g32 h => ?_
   ·obtain ⟨v34, q35, h⟩ := bs h
    obtain ⟨s36, q37, h⟩ := bs h
    obtain ⟨q38, q39⟩ := zAf q37
    try simp at q38
    try simp at q39
    obtain ⟨s40, q41, h⟩ := bs h
    obtain ⟨q42, q43⟩ := zAf q41
    try simp at q42
    try simp at q43
    refine cut 64 0 [(2, .str s40)] [t1.d] ?_ ?_
    ·refine st ?_
     simp [q38, q39, q42, q43]
     have r44 := zB6 fuel t1.Names v34 q35
     try simp [q38, q39, q42, q43] at r44
     refine zAA r44 (by simp) rfl ?_
     simp [q38, q39, q42, q43]
    refine zAB <| zAJ <| zAE ?_
    obtain rfl := oi h
    simp
   refine zAF <| zCx <| zAP <| zAM <| cutA 64 0 [(1, .mptr 0 0), (37, .int .i64 t1.L.length)] [t1.d] <| zAU <| cutA 64 0 [(1, .mptr 0 0), (37, .int .i64 t1.L.length), (38, .bool (eqI (t1.L.length : Int) 0))] [t1.d] ?_
   refine spc h rfl (fun g46 h => ?_) fun g46 h => ?_
   ·have c47 := eqT g46
    obtain ⟨v48, q49, h⟩ := bs h
    refine cut 64 0 [(2, .str v48)] [t1.d] ?_ ?_
    ·refine st ?_
     simp
     have r50 := zB6 fuel t1.Names v48 q49
     try simp at r50
     refine zAA r50 (by simp) rfl ?_
     simp
    refine zAB <| zAJ <| zAE ?_
    obtain rfl := oi h
    simp
   have c51 := eqF g46
   refine cutA 64 0 [(1, .mptr 0 0), (43, .bool (eqI (t1.L.length : Int) 1))] [t1.d] <| spc h rfl (fun g52 h => ?_) fun g52 h => ?_
   ·have c53 := eqT g52
    obtain ⟨x54, q55, h⟩ := bs h
    obtain ⟨v56, q57, h⟩ := bs h
    obtain ⟨s58, q59, h⟩ := bs h
    obtain ⟨q60, q61⟩ := zAf q59
    try simp at q60
    try simp at q61
    obtain ⟨v62, q63, h⟩ := bs h
    obtain ⟨s64, q65, h⟩ := bs h
    obtain ⟨q66, q67⟩ := zAf q65
    try simp at q66
    try simp at q67
    refine cut 64 0 [(2, .str s64)] [t1.d] ?_ ?_
    ·refine zAW [] mixed (n := 64) rfl (by decide) ?_
     simp [q55, q60, q61, q66, q67]
     have r68 := zA7 x54 2 v56 q57
     try simp [q55, q60, q61, q66, q67] at r68
     refine zDT r68 (by simp) rfl ?_
     simp [q55, q60, q61, q66, q67]
     have r69 := zB6 fuel t1.Names v62 q63
     try simp [q55, q60, q61, q66, q67] at r69
     refine zDT r69 (by simp) rfl ?_
     simp [q55, q60, q61, q66, q67]
    refine zAB <| zAJ <| zAE ?_
    obtain rfl := oi h
    simp
   have c70 := eqF g52
   refine zAF <| zCx <| zAP ?_
   obtain ⟨v71, q72, h⟩ := bs h
   obtain ⟨s73, q74, h⟩ := bs h
   obtain ⟨q75, q76⟩ := zAf q74
   try simp at q75
   try simp at q76
   obtain ⟨s77, q78, h⟩ := bs h
   obtain ⟨q79, q80⟩ := zAf q78
   try simp at q79
   try simp at q80
   obtain ⟨v81, q82, h⟩ := bs h
   obtain ⟨s83, q84, h⟩ := bs h
   obtain ⟨q85, q86⟩ := zAf q84
   try simp at q85
   try simp at q86
   refine cut 64 0 [(2, .str s83)] [t1.d] ?_ ?_
   ·refine zAW [] mixed (n := 64) rfl (by decide) ?_
    simp [q75, q76, q79, q80, q85, q86]
    have r87 := zEM t1.L 0 [44, 32] v71 q72
    try simp [q75, q76, q79, q80, q85, q86] at r87
    refine zDT r87 (by simp) rfl ?_
    simp [q75, q76, q79, q80, q85, q86]
    have r88 := zB6 fuel t1.Names v81 q82
    try simp [q75, q76, q79, q80, q85, q86] at r88
    refine zDT r88 (by simp) rfl ?_
    simp [q75, q76, q79, q80, q85, q86]
   refine zAB ?_
   obtain rfl := oi h
   simp
  ·intro l1 r h
   rw [zC3] at h
   refine zAO Tryz.func42 (by rfl) (by rfl) (by simp) (by simp) (by simp) <| cutA 20 0 [(0, .sl (l1.map zJC.c))] [] <| cutA 20 0 [(0, .sl (l1.map zJC.c)), (3, .str ([] : List UInt8))] [] <| zAM <| cutA 20 0 [(0, .sl (l1.map zJC.c)), (3, .str ([] : List UInt8)), (4, .int .i64 0)] [] <| zAU ?_
   obtain ⟨o4, l5, h⟩ := bs h
   refine zB2 (fun p : Nat × (List UInt8) × Nat => mkS 20 0 [(0, .sl (l1.map zJC.c)), (3, .str p.2.1), (4, .int .i64 p.2.2)] []) (fun p => zCa (zAN fuel) l1 p.1 p.2.1 p.2.2 = some o4) (fun p => p.1) (fuel, ([] : List UInt8), 0) l5 (zBS (by simp)) ?_
   rintro ⟨k6, s2, i3⟩ l5
   dsimp only at l5 ⊢
   cases k6 with
   | zero =>
    rw [zCa] at l5; cases l5
   | succ k7 =>
    rw [zCa] at l5
    refine zAM <| cutA 20 0 [(0, .sl (l1.map zJC.c)), (3, .str s2), (4, .int .i64 i3), (8, .bool (ltI ((i3 : Nat) : Int) (l1.length : Int)))] [] <| spc l5 rfl (fun g8 l5 => ?_) fun g8 l5 => ?_
    ·have c9 := ltT g8
     refine zD3 0 rfl fun f10 => ?_
     rw [List.length_map] at f10
     refine zAF <| zAP <| zAM <| zAU ?_
     obtain ⟨x11, q12, l5⟩ := bs l5
     obtain ⟨v13, q14, l5⟩ := bs l5
     obtain ⟨s15, q16, l5⟩ := bs l5
     obtain ⟨q17, q18⟩ := zAf q16
     try simp at q17
     try simp at q18
     obtain ⟨s19, q20, l5⟩ := bs l5
     obtain ⟨q21, q22⟩ := zAf q20
     try simp at q21
     try simp at q22
     refine last 20 0 [(0, .sl (l1.map zJC.c)), (3, .str s19), (4, .int .i64 i3)] [] ?_ fun zz hs => ?_
     ·refine st ?_
      simp [q12, q17, q18, q21, q22]
      have r24 := zAm x11 v13 q14
      try simp [q12, q17, q18, q21, q22] at r24
      refine zAA r24 (by simp) rfl ?_
      simp [q12, q17, q18, q21, q22]
     refine zCx <| zBT ?_ hs
     have q23 : Rng .i64 (((i3 : Nat) : Int) + 1) := by simp only [Rng, inR]; omega
     try simp at q23
     refine last 20 0 [(0, .sl (l1.map zJC.c)), (3, .str s19), (4, .int .i64 ((i3 + 1 : Nat) : Int))] [] (st (by simp [q23])) fun zz hs => ?_
     exact ⟨(k7, s19, i3 + 1), hs, l5, by simp⟩
    have c25 := ltF g8
    refine zD3 0 rfl fun f26 => ?_
    rw [List.length_map] at f26
    refine zBR <| zAc ?_
    have q27 := Option.some.inj l5
    have q27 := q27.symm
    refine zAc <| zBQ <| zBT (t := mkS 20 0 [(3, .str o4)] []) ?_ (zBS (by simp [q27]))
    refine cutA 20 0 [(2, .str o4)] [] <| zAB ?_
    obtain rfl := oi h
    simp
  ·intro t1 r h
   rw [zAN] at h
   refine zAO Tryz.func25 (by rfl) (by rfl) (by simp) (by simp) (by simp) <| cutA 52 0 [(1, .mptr 0 0)] [t1.d] <| zAM <| zAU <| cut 52 0 [(1, .mptr 0 0), (4, .bool ((eqI t1.Op 31) || (eqI t1.Op 87)))] [t1.d] ?_ ?_
   ·rcases tf (eqI t1.Op 31) with g2 | g2
    ·have c3 := eqT g2
     refine st ?_
     simp [g2]
    have c4 := eqF g2
    refine st ?_
    simp [g2]
   rcases sp h with ⟨g5, h⟩ | ⟨g5, h⟩
   ·refine zBE rfl g5 ?_
    obtain ⟨n6, q7, h⟩ := bs h
    obtain ⟨q8, q9⟩ := zFi q7
    try simp at q8
    try simp at q9
    have c10 := q8; simp only [Rng, inR] at c10
    refine cut 52 0 [(1, .mptr 0 0), (3, .int .i64 n6)] [t1.d] (st (by simp [q8, q9])) ?_
    obtain ⟨l11, q12, h⟩ := bs h
    obtain ⟨q13, q14⟩ := zEW q12
    try simp at q13
    try simp at q14
    obtain ⟨v15, q16, h⟩ := bs h
    obtain ⟨s17, q18, h⟩ := bs h
    obtain ⟨q19, q20⟩ := zAf q18
    try simp at q19
    try simp at q20
    obtain ⟨s21, q22, h⟩ := bs h
    obtain ⟨q23, q24⟩ := zAf q22
    try simp at q23
    try simp at q24
    obtain ⟨x25, q26, h⟩ := bs h
    obtain ⟨q27, q28⟩ := idx_ok q26
    obtain ⟨v29, q30, h⟩ := bs h
    obtain ⟨s31, q32, h⟩ := bs h
    obtain ⟨q33, q34⟩ := zAf q32
    try simp at q33
    try simp at q34
    obtain ⟨s35, q36, h⟩ := bs h
    obtain ⟨q37, q38⟩ := zAf q36
    try simp at q37
    try simp at q38
    refine cut 52 0 [(2, .str s35)] [t1.d] ?_ ?_
    ·refine zAW [] mixed (n := 52) rfl (by decide) ?_
     simp [q13, q14, q19, q20, q23, q24, q27, q28, q33, q34, q37, q38]
     have r39 := zFS l11 v15 q16
     try simp [q13, q14, q19, q20, q23, q24, q27, q28, q33, q34, q37, q38] at r39
     refine zDT r39 (by simp) rfl ?_
     simp [q13, q14, q19, q20, q23, q24, q27, q28, q33, q34, q37, q38]
     have r40 := zAm x25 v29 q30
     try simp [q13, q14, q19, q20, q23, q24, q27, q28, q33, q34, q37, q38] at r40
     refine zDT r40 (by simp) rfl ?_
     simp [q13, q14, q19, q20, q23, q24, q27, q28, q33, q34, q37, q38]
    refine zAB <| zAJ <| zAE ?_
    obtain rfl := oi h
    simp
   obtain ⟨g41, g42⟩ := orF g5
   have c43 := eqF g41
   have c44 := eqF g42
   refine zGH rfl g5 <| cutA 52 0 [(1, .mptr 0 0), (32, .bool (leI t1.Op 5))] [t1.d] <| spc h rfl (fun g45 h => ?_) fun g45 h => ?_
   ·have c46 := leT g45
    obtain ⟨v47, q48, h⟩ := bs h
    refine cut 52 0 [(2, .str v47)] [t1.d] ?_ ?_
    ·refine st ?_
     simp
     have r49 := zIy t1 v47 q48
     try simp at r49
     refine zAA r49 (by simp) rfl ?_
     simp
    refine zAB <| zAJ <| zAE ?_
    obtain rfl := oi h
    simp
   have c50 := leF g45
   refine cutA 52 0 [(1, .mptr 0 0), (38, .bool (leI t1.Op 34))] [t1.d] <| spc h rfl (fun g51 h => ?_) fun g51 h => ?_
   ·have c52 := leT g51
    obtain ⟨v53, q54, h⟩ := bs h
    refine cut 52 0 [(2, .str v53)] [t1.d] ?_ ?_
    ·refine st ?_
     simp
     have r55 := zGv t1 v53 q54
     try simp at r55
     refine zAA r55 (by simp) rfl ?_
     simp
    refine zAB <| zAJ <| zAE ?_
    obtain rfl := oi h
    simp
   have c56 := leF g51
   refine cutA 52 0 [(1, .mptr 0 0), (44, .bool (leI t1.Op 66))] [t1.d] <| spc h rfl (fun g57 h => ?_) fun g57 h => ?_
   ·have c58 := leT g57
    obtain ⟨v59, q60, h⟩ := bs h
    refine cut 52 0 [(2, .str v59)] [t1.d] ?_ ?_
    ·refine st ?_
     simp
     have r61 := zGW t1 v59 q60
     try simp at r61
     refine zAA r61 (by simp) rfl ?_
     simp
    refine zAB <| zAJ <| zAE ?_
    obtain rfl := oi h
    simp
   have c62 := leF g57
   refine zAF <| zCx <| zAP ?_
   obtain ⟨v63, q64, h⟩ := bs h
   refine cut 52 0 [(2, .str v63)] [t1.d] ?_ ?_
   ·refine st ?_
    simp
    have r65 := zIL t1 v63 q64
    try simp at r65
    refine zAA r65 (by simp) rfl ?_
    simp
   refine zAB ?_
   obtain rfl := oi h
   simp
theorem ref06_text_ok (fuel : Nat) : (∀ (t1 : zJC) (r : (List UInt8)) (_ : zAN fuel t1 = some r), Pure Tryz.prog 25 [.agg t1.d] (.str r)) := (zE7 fuel).2.2.2.2.2.2.2.2.2
theorem zGl (fuel : Nat) (l1 : (List zJC)) (r : (List UInt8) × Int) (h : zEO fuel l1 = some r) : Pure Tryz.prog 12 [.sl (l1.map zJC.c)] (.tup [.str r.1, .int .i64 r.2]) := by
 rw [zEO] at h
 refine zAO Tryz.func12 (by rfl) (by rfl) (by simp) (by simp) (by simp) <| cutA 45 0 [(0, .sl (l1.map zJC.c))] [] <| zAM <| cutA 45 0 [(0, .sl (l1.map zJC.c)), (9, .bool (ltI 1000 (l1.length : Int)))] [] <| spc h rfl (fun g2 h => ?_) fun g2 h => ?_
 ·have c3 := ltT g2
  refine zD3 0 rfl fun f4 => ?_
  rw [List.length_map] at f4
  refine cutA 45 0 [(2, .str ([] : List UInt8)), (3, .int .i64 1)] [] <| zAB <| zAE ?_
  obtain rfl := oi h
  simp
 have c5 := ltF g2
 refine zD3 0 rfl fun f6 => ?_
 rw [List.length_map] at f6
 refine zAF <| zAP <| zAM <| cutA 45 0 [(0, .sl (l1.map zJC.c)), (4, .int .i64 0)] [] <| zAU ?_
 obtain ⟨o9, l10, h⟩ := bs h
 refine zB2 (fun p : Nat × Nat => mkS 45 0 [(0, .sl (l1.map zJC.c)), (4, .int .i64 p.2)] []) (fun p => zCU fuel l1 p.1 p.2 = some o9) (fun p => p.1) (fuel, 0) l10 (zBS (by simp)) ?_
 rintro ⟨k11, i7⟩ l10
 dsimp only at l10 ⊢
 cases k11 with
 | zero =>
  rw [zCU] at l10; cases l10
 | succ k12 =>
  rw [zCU] at l10
  refine zAM <| cutA 45 0 [(0, .sl (l1.map zJC.c)), (4, .int .i64 i7), (13, .bool (ltI ((i7 : Nat) : Int) (l1.length : Int)))] [] <| spc l10 rfl (fun g13 l10 => ?_) fun g13 l10 => ?_
  ·have c14 := ltT g13
   refine zAF <| zAP <| zAM <| zAU ?_
   obtain ⟨x15, q16, l10⟩ := bs l10
   obtain ⟨v17, q18, l10⟩ := bs l10
   refine cut 45 0 [(0, .sl (l1.map zJC.c)), (4, .int .i64 i7), (21, .bool (!v17))] [] ?_ ?_
   ·refine st ?_
    simp [q16]
    have r23 := zGm fuel 4 x15 v17 q18
    try simp [q16] at r23
    refine zAA r23 (by simp) rfl ?_
    simp [q16]
   refine spc l10 rfl (fun g19 l10 => ?_) fun g19 l10 => ?_
   ·have g20 := notT g19
    refine cutA 45 0 [(2, .str ([] : List UInt8)), (3, .int .i64 1)] [] <| zAB <| zAJ <| zAE ?_
    replace h := retL l10 h
    refine zAE <| zAJ <| zAE ?_
    obtain rfl := oi h
    simp
   have g21 := notF g19
   refine zAF <| zCx <| zAP ?_
   have q22 : Rng .i64 (((i7 : Nat) : Int) + 1) := by simp only [Rng, inR]; omega
   try simp at q22
   refine last 45 0 [(0, .sl (l1.map zJC.c)), (4, .int .i64 ((i7 + 1 : Nat) : Int))] [] (st (by simp [q22])) fun zz hs => ?_
   exact ⟨(k12, i7 + 1), hs, l10, by simp⟩
  have c24 := ltF g13
  refine zBR <| zAc ?_
  rcases o9 with o9 | o8
  ·cases l10
  have q25 := Sum.inr.inj (Option.some.inj l10)
  replace h := zFp h
  refine zAc <| zBQ <| zBT (t := mkS 45 0 [(0, .sl (l1.map zJC.c))] []) ?_ (zBS (by simp))
  refine cutA 45 0 [(0, .sl (l1.map zJC.c)), (5, .str ([] : List UInt8))] [] <| zAM <| cutA 45 0 [(0, .sl (l1.map zJC.c)), (5, .str ([] : List UInt8)), (6, .int .i64 0)] [] <| zAU ?_
  obtain ⟨o28, l29, h⟩ := bs h
  refine zB2 (fun p : Nat × (List UInt8) × Nat => mkS 45 0 [(0, .sl (l1.map zJC.c)), (5, .str p.2.1), (6, .int .i64 p.2.2)] []) (fun p => zCq fuel l1 p.1 p.2.1 p.2.2 = some o28) (fun p => p.1) (fuel, ([] : List UInt8), 0) l29 (zBS (by simp)) ?_
  rintro ⟨k30, s26, i27⟩ l29
  dsimp only at l29 ⊢
  cases k30 with
  | zero =>
   rw [zCq] at l29; cases l29
  | succ k31 =>
   rw [zCq] at l29
   refine zAM <| cut 45 0 [(0, .sl (l1.map zJC.c)), (5, .str s26), (6, .int .i64 i27), (30, .bool ((ltI ((i27 : Nat) : Int) (l1.length : Int)) && (leI (s26.length : Int) 16384)))] [] ?_ ?_
   ·rcases tf (ltI ((i27 : Nat) : Int) (l1.length : Int)) with g32 | g32
    ·have c33 := ltT g32
     refine st ?_
     simp [g32]
    have c34 := ltF g32
    refine st ?_
    simp [g32]
   rcases sp l29 with ⟨g35, l29⟩ | ⟨g35, l29⟩
   ·obtain ⟨g36, g37⟩ := andT g35
    have c38 := ltT g36
    have c39 := leT g37
    refine zBE rfl g35 <| zGX 5 rfl fun f40 => ?_
    refine zAF <| zAP <| zAM <| zAU ?_
    obtain ⟨x41, q42, l29⟩ := bs l29
    obtain ⟨v43, q44, l29⟩ := bs l29
    obtain ⟨s45, q46, l29⟩ := bs l29
    obtain ⟨q47, q48⟩ := zAf q46
    try simp at q47
    try simp at q48
    obtain ⟨s49, q50, l29⟩ := bs l29
    obtain ⟨q51, q52⟩ := zAf q50
    try simp at q51
    try simp at q52
    refine last 45 0 [(0, .sl (l1.map zJC.c)), (5, .str s49), (6, .int .i64 i27)] [] ?_ fun zz hs => ?_
    ·refine st ?_
     simp [q42, q47, q48, q51, q52]
     have r54 := ref06_text_ok fuel x41 v43 q44
     try simp [q42, q47, q48, q51, q52] at r54
     refine zAA r54 (by simp) rfl ?_
     simp [q42, q47, q48, q51, q52]
    refine zCx <| zBT ?_ hs
    have q53 : Rng .i64 (((i27 : Nat) : Int) + 1) := by simp only [Rng, inR]; omega
    try simp at q53
    refine last 45 0 [(0, .sl (l1.map zJC.c)), (5, .str s49), (6, .int .i64 ((i27 + 1 : Nat) : Int))] [] (st (by simp [q53])) fun zz hs => ?_
    exact ⟨(k31, s49, i27 + 1), hs, l29, by simp⟩
   refine zGH rfl g35 <| zBR <| zAc ?_
   have q55 := Option.some.inj l29
   have q55 := q55.symm
   refine zAc <| zBQ <| zBT (t := mkS 45 0 [(5, .str o28)] []) ?_ (zBS (by simp [q55]))
   refine zAM <| cutA 45 0 [(5, .str o28), (43, .bool (ltI 16384 (o28.length : Int)))] [] <| spc h rfl (fun g56 h => ?_) fun g56 h => ?_
   ·have c57 := ltT g56
    refine zGX 5 rfl fun f58 => ?_
    refine cutA 45 0 [(2, .str ([] : List UInt8)), (3, .int .i64 5)] [] <| zAB <| zAE ?_
    obtain rfl := oi h
    simp
   have c59 := ltF g56
   refine zGX 5 rfl fun f60 => ?_
   refine zAF <| zAP <| cutA 45 0 [(2, .str o28), (3, .int .i64 0)] [] <| zAB ?_
   obtain rfl := oi h
   simp
theorem zIK (fuel : Nat) (u1 : zJB) (r : (List UInt8) × Int) (h : zEj fuel u1 = some r) : Pure Tryz.prog 13 [.agg [.str u1.Name, .sl (u1.Imports.map cS), .sl (u1.Decls.map zJC.c)]] (.tup [.str r.1, .int .i64 r.2]) := by
 rw [zEj] at h
 refine zAO Tryz.func13 (by rfl) (by rfl) (by simp) (by simp) (by simp) <| cutA 61 0 [(1, .mptr 0 0)] [(zJB.c u1)] <| zAM ?_
 obtain ⟨b14, q15, h⟩ := bs h
 refine cut 61 0 [(1, .mptr 0 0), (22, .bool b14)] [(zJB.c u1)] ?_ ?_
 ·obtain ⟨v2, q3, q15⟩ := bs q15
  rcases sp q15 with ⟨g4, q15⟩ | ⟨g4, q15⟩
  ·have g5 := notT g4
   obtain rfl := oi q15
   refine st ?_
   simp [g4]
   have r78 := zA4 fuel u1.Name v2 q3
   try simp [g4] at r78
   refine zAA r78 (by simp) rfl ?_
   simp [g4]
  have g6 := notF g4
  rcases sp q15 with ⟨g7, q15⟩ | ⟨g7, q15⟩
  ·have c8 := ltT g7
   refine zCJ 0 1 rfl rfl rfl fun f9 => ?_
   rw [List.length_map] at f9
   obtain rfl := oi q15
   refine st ?_
   simp [g4, g7]
   have r79 := zA4 fuel u1.Name v2 q3
   try simp [g4, g7] at r79
   refine zAA r79 (by simp) rfl ?_
   simp [g4, g7]
  have c10 := ltF g7
  refine zCJ 0 1 rfl rfl rfl fun f11 => ?_
  rw [List.length_map] at f11
  obtain ⟨v12, q13, q15⟩ := bs q15
  obtain rfl := oi q15
  refine st ?_
  simp [g4, g7]
  have r80 := zA4 fuel u1.Name v2 q3
  try simp [g4, g7] at r80
  refine zAA r80 (by simp) rfl ?_
  simp [g4, g7]
  have r81 := zF1 fuel u1.Decls v12 q13
  try simp [g4, g7] at r81
  refine zAA r81 (by simp) rfl ?_
  simp [g4, g7]
 refine spc h rfl (fun g16 h => ?_) fun g16 h => ?_
 ·refine cutA 61 0 [(2, .str ([] : List UInt8)), (3, .int .i64 1)] [(zJB.c u1)] <| zAB <| zAE ?_
  obtain rfl := oi h
  simp
 refine zAF <| zAP <| zAM <| cutA 61 0 [(1, .mptr 0 0), (24, .sl (u1.Imports.map cS)), (25, .int .i64 u1.Imports.length), (26, .int .i64 0)] [(zJB.c u1)] <| zAU ?_
 obtain ⟨o19, l20, h⟩ := bs h
 refine zB2 (fun p : Nat × Nat => mkS 61 0 [(1, .mptr 0 0), (24, .sl (u1.Imports.map cS)), (25, .int .i64 u1.Imports.length), (26, .int .i64 p.2)] [(zJB.c u1)]) (fun p => zCO fuel u1 p.1 p.2 = some o19) (fun p => p.1) (fuel, 0) l20 (zBS (by simp)) ?_
 rintro ⟨k21, i17⟩ l20
 dsimp only at l20 ⊢
 cases k21 with
 | zero =>
  rw [zCO] at l20; cases l20
 | succ k22 =>
  rw [zCO] at l20
  refine cutA 61 0 [(1, .mptr 0 0), (24, .sl (u1.Imports.map cS)), (25, .int .i64 u1.Imports.length), (26, .int .i64 i17), (27, .bool (ltI ((i17 : Nat) : Int) (u1.Imports.length : Int)))] [(zJB.c u1)] <| zAM <| spc l20 rfl (fun g23 l20 => ?_) fun g23 l20 => ?_
  ·have c24 := ltT g23
   refine zD3 24 rfl fun f25 => ?_
   rw [List.length_map] at f25
   refine zAF <| zAP <| zAM <| zAU ?_
   obtain ⟨x26, q27, l20⟩ := bs l20
   refine cut 61 0 [(1, .mptr 0 0), (4, .int .i64 i17), (5, .str x26), (24, .sl (u1.Imports.map cS)), (25, .int .i64 u1.Imports.length), (26, .int .i64 i17)] [(zJB.c u1)] (st (by simp [q27])) ?_
   obtain ⟨b39, q40, l20⟩ := bs l20
   refine cut 61 0 [(1, .mptr 0 0), (24, .sl (u1.Imports.map cS)), (25, .int .i64 u1.Imports.length), (26, .int .i64 i17), (41, .bool b39)] [(zJB.c u1)] ?_ ?_
   ·obtain ⟨v28, q29, q40⟩ := bs q40
    rcases sp q40 with ⟨g30, q40⟩ | ⟨g30, q40⟩
    ·have g31 := notT g30
     obtain rfl := oi q40
     refine st ?_
     simp [g30]
     have r43 := zA4 fuel x26 v28 q29
     try simp [g30] at r43
     refine zAA r43 (by simp) rfl ?_
     simp [g30]
    have g32 := notF g30
    obtain ⟨l33, q34, q40⟩ := bs q40
    obtain ⟨q35, q36⟩ := zEW q34
    try simp at q35
    try simp at q36
    obtain ⟨v37, q38, q40⟩ := bs q40
    obtain rfl := oi q40
    refine st ?_
    simp [g30, q35, q36]
    have r44 := zA4 fuel x26 v28 q29
    try simp [g30, q35, q36] at r44
    refine zAA r44 (by simp) rfl ?_
    simp [g30, q35, q36]
    have r45 := zDW fuel l33 x26 v37 q38
    try simp [g30, q35, q36] at r45
    refine zAA r45 (by simp) rfl ?_
    simp [g30, q35, q36]
   refine spc l20 rfl (fun g41 l20 => ?_) fun g41 l20 => ?_
   ·refine cutA 61 0 [(2, .str ([] : List UInt8)), (3, .int .i64 1)] [(zJB.c u1)] <| zAB <| zAJ <| zAE ?_
    replace h := retL l20 h
    refine zAE <| zAJ <| zAE ?_
    obtain rfl := oi h
    simp
   refine zAF <| zCx <| zAP ?_
   have q42 : Rng .i64 (((i17 : Nat) : Int) + 1) := by simp only [Rng, inR]; omega
   try simp at q42
   refine last 61 0 [(1, .mptr 0 0), (24, .sl (u1.Imports.map cS)), (25, .int .i64 u1.Imports.length), (26, .int .i64 ((i17 + 1 : Nat) : Int))] [(zJB.c u1)] (st (by simp [q42])) fun zz hs => ?_
   exact ⟨(k22, i17 + 1), hs, l20, by simp⟩
  have c46 := ltF g23
  refine zD3 24 rfl fun f47 => ?_
  rw [List.length_map] at f47
  refine zBR <| zAc ?_
  rcases o19 with o19 | o18
  ·cases l20
  have q48 := Sum.inr.inj (Option.some.inj l20)
  replace h := zFp h
  refine zAc <| zBQ <| zBT (t := mkS 61 0 [(1, .mptr 0 0)] [(zJB.c u1)]) ?_ (zBS (by simp))
  obtain ⟨v49, q50, h⟩ := bs h
  refine cut 61 0 [(1, .mptr 0 0), (6, .str v49)] [(zJB.c u1)] ?_ ?_
  ·refine st ?_
   simp
   have r77 := zFL fuel u1.Decls v49 q50
   try simp at r77
   refine zAA r77 (by simp) rfl ?_
   simp
  refine zAM <| cutA 61 0 [(1, .mptr 0 0), (6, .str v49), (49, .bool (ltI 0 (u1.Imports.length : Int)))] [(zJB.c u1)] <| spc h rfl (fun g51 h => ?_) fun g51 h => ?_
  ·have c52 := ltT g51
   refine zCJ 0 1 rfl rfl rfl fun f53 => ?_
   rw [List.length_map] at f53
   obtain ⟨v54, q55, h⟩ := bs h
   obtain ⟨s56, q57, h⟩ := bs h
   obtain ⟨q58, q59⟩ := zAf q57
   try simp at q58
   try simp at q59
   obtain ⟨s60, q61, h⟩ := bs h
   obtain ⟨q62, q63⟩ := zAf q61
   try simp at q62
   try simp at q63
   obtain ⟨s64, q65, h⟩ := bs h
   obtain ⟨q66, q67⟩ := zAf q65
   try simp at q66
   try simp at q67
   refine last 61 0 [(6, .str s64)] [(zJB.c u1)] ?_ fun zz hs => ?_
   ·refine st ?_
    simp [q58, q59, q62, q63, q66, q67]
    have r71 := zGL u1.Imports [44, 32] v54 q55
    try simp [q58, q59, q62, q63, q66, q67] at r71
    refine zAA r71 (by simp) rfl ?_
    simp [q58, q59, q62, q63, q66, q67]
   refine zBT ?_ hs
   obtain ⟨v68, q69, h⟩ := bs h
   refine cut 61 0 [(2, .str v68.1), (3, .int .i64 v68.2)] [(zJB.c u1)] ?_ ?_
   ·refine st ?_
    simp
    have r70 := zDv s64 v68 q69
    try simp at r70
    refine zAA r70 (by simp) rfl ?_
    simp
   refine zAB ?_
   obtain rfl := oi h
   simp
  have c72 := ltF g51
  refine zCJ 0 1 rfl rfl rfl fun f73 => ?_
  rw [List.length_map] at f73
  refine zAF <| zAP ?_
  obtain ⟨v74, q75, h⟩ := bs h
  refine cut 61 0 [(2, .str v74.1), (3, .int .i64 v74.2)] [(zJB.c u1)] ?_ ?_
  ·refine st ?_
   simp
   have r76 := zDv v49 v74 q75
   try simp at r76
   refine zAA r76 (by simp) rfl ?_
   simp
  refine zAB ?_
  obtain rfl := oi h
  simp
theorem zHC (fuel : Nat) (u1 : zJB) (r : Bool) (h : zDe fuel u1 = some r) : Pure Tryz.prog 33 [.agg [.str u1.Name, .sl (u1.Imports.map cS), .sl (u1.Decls.map zJC.c)]] (.bool r) := by
 rw [zDe] at h
 refine zAO Tryz.func33 (by rfl) (by rfl) (by simp) (by simp) (by simp) <| cutA 66 0 [(1, .mptr 0 0)] [(zJB.c u1)] <| zAM ?_
 obtain ⟨b12, q13, h⟩ := bs h
 refine cut 66 0 [(1, .mptr 0 0), (21, .bool b12)] [(zJB.c u1)] ?_ ?_
 ·obtain ⟨v2, q3, q13⟩ := bs q13
  rcases sp q13 with ⟨g4, q13⟩ | ⟨g4, q13⟩
  ·have g5 := notT g4
   obtain rfl := oi q13
   refine st ?_
   simp [g4]
   have r71 := zA1 fuel u1.Name v2 q3
   try simp [g4] at r71
   refine zAA r71 (by simp) rfl ?_
   simp [g4]
  have g6 := notF g4
  rcases sp q13 with ⟨g7, q13⟩ | ⟨g7, q13⟩
  ·have c8 := ltT g7
   refine zCJ 0 1 rfl rfl rfl fun f9 => ?_
   rw [List.length_map] at f9
   obtain rfl := oi q13
   refine st ?_
   simp [g4, g7]
   have r72 := zA1 fuel u1.Name v2 q3
   try simp [g4, g7] at r72
   refine zAA r72 (by simp) rfl ?_
   simp [g4, g7]
  have c10 := ltF g7
  refine zCJ 0 1 rfl rfl rfl fun f11 => ?_
  rw [List.length_map] at f11
  obtain rfl := oi q13
  refine st ?_
  simp [g4, g7]
  have r73 := zA1 fuel u1.Name v2 q3
  try simp [g4, g7] at r73
  refine zAA r73 (by simp) rfl ?_
  simp [g4, g7]
 refine spc h rfl (fun g14 h => ?_) fun g14 h => ?_
 ·refine cutA 66 0 [(2, .bool false)] [(zJB.c u1)] <| zAB <| zAE ?_
  obtain rfl := oi h
  simp
 refine zAF <| zAP <| zAM <| cutA 66 0 [(1, .mptr 0 0), (3, .int .i64 0)] [(zJB.c u1)] <| zAU ?_
 obtain ⟨o17, l18, h⟩ := bs h
 refine zB2 (fun p : Nat × Nat => mkS 66 0 [(1, .mptr 0 0), (3, .int .i64 p.2)] [(zJB.c u1)]) (fun p => zBs fuel u1 p.1 p.2 = some o17) (fun p => p.1) (fuel, 0) l18 (zBS (by simp)) ?_
 rintro ⟨k19, i15⟩ l18
 dsimp only at l18 ⊢
 cases k19 with
 | zero =>
  rw [zBs] at l18; cases l18
 | succ k20 =>
  rw [zBs] at l18
  refine zAM <| cutA 66 0 [(1, .mptr 0 0), (3, .int .i64 i15), (26, .bool (ltI ((i15 : Nat) : Int) (u1.Imports.length : Int)))] [(zJB.c u1)] <| spc l18 rfl (fun g21 l18 => ?_) fun g21 l18 => ?_
  ·have c22 := ltT g21
   refine zCJ 0 1 rfl rfl rfl fun f23 => ?_
   rw [List.length_map] at f23
   refine zAF <| zAP <| zAM <| zAU <| zAM ?_
   obtain ⟨x24, q25, l18⟩ := bs l18
   obtain ⟨v26, q27, l18⟩ := bs l18
   refine cut 66 0 [(1, .mptr 0 0), (3, .int .i64 i15), (35, .bool (!v26))] [(zJB.c u1)] ?_ ?_
   ·refine st ?_
    simp [q25]
    have r46 := zA1 fuel x24 v26 q27
    try simp [q25] at r46
    refine zAA r46 (by simp) rfl ?_
    simp [q25]
   refine spc l18 rfl (fun g28 l18 => ?_) fun g28 l18 => ?_
   ·have g29 := notT g28
    refine cutA 66 0 [(2, .bool false)] [(zJB.c u1)] <| zAB <| zAE <| zAJ <| zAE ?_
    replace h := retL l18 h
    refine zAE <| zAJ <| zAE ?_
    obtain rfl := oi h
    simp
   have g30 := notF g28
   refine zAF <| zAP <| cutA 66 0 [(1, .mptr 0 0), (3, .int .i64 i15), (4, .int .i64 0)] [(zJB.c u1)] <| zAU ?_
   obtain ⟨o33, l34, l18⟩ := bs l18
   refine zB2 (fun p : Nat × Nat => mkS 66 0 [(1, .mptr 0 0), (3, .int .i64 i15), (4, .int .i64 p.2)] [(zJB.c u1)]) (fun p => zB7 u1 i15 x24 p.1 p.2 = some o33) (fun p => p.1) (fuel, 0) l34 (zBS (by simp)) ?_
   rintro ⟨k35, k31⟩ l34
   dsimp only at l34 ⊢
   cases k35 with
   | zero =>
    rw [zB7] at l34; cases l34
   | succ k36 =>
    rw [zB7] at l34
    refine zAM <| cutA 66 0 [(1, .mptr 0 0), (3, .int .i64 i15), (4, .int .i64 k31), (38, .bool (ltI ((k31 : Nat) : Int) ((i15 : Nat) : Int)))] [(zJB.c u1)] <| spc l34 rfl (fun g37 l34 => ?_) fun g37 l34 => ?_
    ·have c38 := ltT g37
     refine zAF <| zAP <| zAM <| zAU ?_
     obtain ⟨x39, q40, l34⟩ := bs l34
     refine cut 66 0 [(1, .mptr 0 0), (3, .int .i64 i15), (4, .int .i64 k31), (51, .bool (eqS x39 x24))] [(zJB.c u1)] ?_ ?_
     ·refine zAW [] mixed (n := 66) rfl (by decide) ?_
      simp [q40, q25]
     refine spc l34 rfl (fun g41 l34 => ?_) fun g41 l34 => ?_
     ·refine cutA 66 0 [(2, .bool false)] [(zJB.c u1)] <| zAB <| zAJ <| zAE ?_
      replace l18 := retL l34 l18
      refine zAE <| zAJ <| zAJ <| zAE ?_
      replace h := retL l18 h
      refine zAE <| zAJ <| zAE ?_
      obtain rfl := oi h
      simp
     refine zAF <| zCx <| zAP ?_
     have q42 : Rng .i64 (((k31 : Nat) : Int) + 1) := by simp only [Rng, inR]; omega
     try simp at q42
     refine last 66 0 [(1, .mptr 0 0), (3, .int .i64 i15), (4, .int .i64 ((k31 + 1 : Nat) : Int))] [(zJB.c u1)] (st (by simp [q42])) fun zz hs => ?_
     exact ⟨(k36, k31 + 1), hs, l34, by simp⟩
    have c43 := ltF g37
    refine zBR <| zAc ?_
    rcases o33 with o33 | o32
    ·cases l34
    have q44 := Sum.inr.inj (Option.some.inj l34)
    replace l18 := zFp l18
    refine zAc <| zBQ <| zCx <| zBT (t := mkS 66 0 [(1, .mptr 0 0), (3, .int .i64 i15)] [(zJB.c u1)]) ?_ (zBS (by simp))
    have q45 : Rng .i64 (((i15 : Nat) : Int) + 1) := by simp only [Rng, inR]; omega
    try simp at q45
    refine last 66 0 [(1, .mptr 0 0), (3, .int .i64 ((i15 + 1 : Nat) : Int))] [(zJB.c u1)] (st (by simp [q45])) fun zz hs => ?_
    exact ⟨(k20, i15 + 1), hs, l18, by simp⟩
  have c47 := ltF g21
  refine zCJ 0 1 rfl rfl rfl fun f48 => ?_
  rw [List.length_map] at f48
  refine zBR <| zAc ?_
  rcases o17 with o17 | o16
  ·cases l18
  have q49 := Sum.inr.inj (Option.some.inj l18)
  replace h := zFp h
  refine zAc <| zBQ <| zBT (t := mkS 66 0 [(1, .mptr 0 0)] [(zJB.c u1)]) ?_ (zBS (by simp))
  refine zAM <| cutA 66 0 [(1, .mptr 0 0), (5, .int .i64 0)] [(zJB.c u1)] <| zAU ?_
  obtain ⟨o52, l53, h⟩ := bs h
  refine zB2 (fun p : Nat × Nat => mkS 66 0 [(1, .mptr 0 0), (5, .int .i64 p.2)] [(zJB.c u1)]) (fun p => zBr fuel u1 p.1 p.2 = some o52) (fun p => p.1) (fuel, 0) l53 (zBS (by simp)) ?_
  rintro ⟨k54, i50⟩ l53
  dsimp only at l53 ⊢
  cases k54 with
  | zero =>
   rw [zBr] at l53; cases l53
  | succ k55 =>
   rw [zBr] at l53
   refine zAM <| cutA 66 0 [(1, .mptr 0 0), (5, .int .i64 i50), (56, .bool (ltI ((i50 : Nat) : Int) (u1.Decls.length : Int)))] [(zJB.c u1)] <| spc l53 rfl (fun g56 l53 => ?_) fun g56 l53 => ?_
   ·have c57 := ltT g56
    refine zCJ 0 2 rfl rfl rfl fun f58 => ?_
    rw [List.length_map] at f58
    refine zAF <| zAP <| zAM <| zAU ?_
    obtain ⟨x59, q60, l53⟩ := bs l53
    obtain ⟨v61, q62, l53⟩ := bs l53
    refine cut 66 0 [(1, .mptr 0 0), (5, .int .i64 i50), (65, .bool (!v61))] [(zJB.c u1)] ?_ ?_
    ·refine st ?_
     simp [q60]
     have r67 := zGm fuel 4 x59 v61 q62
     try simp [q60] at r67
     refine zAA r67 (by simp) rfl ?_
     simp [q60]
    refine spc l53 rfl (fun g63 l53 => ?_) fun g63 l53 => ?_
    ·have g64 := notT g63
     refine cutA 66 0 [(2, .bool false)] [(zJB.c u1)] <| zAB <| zAJ <| zAE ?_
     replace h := retL l53 h
     refine zAE <| zAJ <| zAE ?_
     obtain rfl := oi h
     simp
    have g65 := notF g63
    refine zAF <| zCx <| zAP ?_
    have q66 : Rng .i64 (((i50 : Nat) : Int) + 1) := by simp only [Rng, inR]; omega
    try simp at q66
    refine last 66 0 [(1, .mptr 0 0), (5, .int .i64 ((i50 + 1 : Nat) : Int))] [(zJB.c u1)] (st (by simp [q66])) fun zz hs => ?_
    exact ⟨(k55, i50 + 1), hs, l53, by simp⟩
   have c68 := ltF g56
   refine zCJ 0 2 rfl rfl rfl fun f69 => ?_
   rw [List.length_map] at f69
   refine zBR <| zAc ?_
   rcases o52 with o52 | o51
   ·cases l53
   have q70 := Sum.inr.inj (Option.some.inj l53)
   replace h := zFp h
   refine zAc <| zBQ <| zBT (t := mkS 66 0 [] [(zJB.c u1)]) ?_ (zBS (by simp))
   refine cutA 66 0 [(2, .bool true)] [(zJB.c u1)] <| zAB ?_
   obtain rfl := oi h
   simp
theorem ref06_Unit_ok (fuel : Nat) (u1 : zJB) (r : (List UInt8) × Int) (h : zFE fuel u1 = some r) : Pure Tryz.prog 14 [.agg [.str u1.Name, .sl (u1.Imports.map cS), .sl (u1.Decls.map zJC.c)]] (.tup [.str r.1, .int .i64 r.2]) := by
 rw [zFE] at h
 refine zAO Tryz.func14 (by rfl) (by rfl) (by simp) (by simp) (by simp) <| cutA 33 0 [(1, .mptr 0 0)] [(zJB.c u1)] <| zAM ?_
 obtain ⟨v2, q3, h⟩ := bs h
 refine cut 33 0 [(1, .mptr 0 0), (8, .bool (!v2))] [(zJB.c u1)] ?_ ?_
 ·refine st ?_
  simp
  have r45 := zHC fuel u1 v2 q3
  try simp at r45
  refine zAA r45 (by simp) rfl ?_
  simp
 refine spc h rfl (fun g4 h => ?_) fun g4 h => ?_
 ·have g5 := notT g4
  refine cutA 33 0 [(2, .str ([] : List UInt8)), (3, .int .i64 1)] [(zJB.c u1)] <| zAB <| zAE ?_
  obtain rfl := oi h
  simp
 have g6 := notF g4
 refine zAF <| zAP ?_
 obtain ⟨v7, q8, h⟩ := bs h
 refine cut 33 0 [(1, .mptr 0 0), (4, .str v7.1), (5, .int .i64 v7.2)] [(zJB.c u1)] ?_ ?_
 ·refine st ?_
  simp
  have r44 := zGl fuel u1.Decls v7 q8
  try simp at r44
  refine zAA r44 (by simp) rfl ?_
  simp
 refine zAM <| cutA 33 0 [(1, .mptr 0 0), (4, .str v7.1), (5, .int .i64 v7.2), (16, .bool (!(eqI v7.2 0)))] [(zJB.c u1)] ?_
 rcases sp h with ⟨g9, h⟩ | ⟨g9, h⟩
 ·have g10 := notT g9
  have c11 := eqF g10
  refine zBE rfl g9 <| cutA 33 0 [(2, .str ([] : List UInt8)), (3, .int .i64 v7.2)] [(zJB.c u1)] <| zAB <| zAE ?_
  obtain rfl := oi h
  simp
 have g12 := notF g9
 have c13 := eqT g12
 refine zGH rfl g9 <| zAF <| zAP <| zAM <| cutA 33 0 [(1, .mptr 0 0), (4, .str v7.1), (21, .bool (ltI 0 (u1.Imports.length : Int)))] [(zJB.c u1)] <| spc h rfl (fun g14 h => ?_) fun g14 h => ?_
 ·have c15 := ltT g14
  refine zCJ 0 1 rfl rfl rfl fun f16 => ?_
  rw [List.length_map] at f16
  obtain ⟨v17, q18, h⟩ := bs h
  obtain ⟨s19, q20, h⟩ := bs h
  obtain ⟨q21, q22⟩ := zAf q20
  try simp at q21
  try simp at q22
  obtain ⟨s23, q24, h⟩ := bs h
  obtain ⟨q25, q26⟩ := zAf q24
  try simp at q25
  try simp at q26
  obtain ⟨s27, q28, h⟩ := bs h
  obtain ⟨q29, q30⟩ := zAf q28
  try simp at q29
  try simp at q30
  refine last 33 0 [(4, .str s27)] [(zJB.c u1)] ?_ fun zz hs => ?_
  ·refine st ?_
   simp [q21, q22, q25, q26, q29, q30]
   have r36 := zEA fuel u1.Imports [44, 32] v17 q18
   try simp [q21, q22, q25, q26, q29, q30] at r36
   refine zAA r36 (by simp) rfl ?_
   simp [q21, q22, q25, q26, q29, q30]
  refine zBT ?_ hs
  refine zAM <| cutA 33 0 [(4, .str s27), (31, .bool (ltI 16384 (s27.length : Int)))] [(zJB.c u1)] <| spc h rfl (fun g31 h => ?_) fun g31 h => ?_
  ·have c32 := ltT g31
   refine zGX 4 rfl fun f33 => ?_
   refine cutA 33 0 [(2, .str ([] : List UInt8)), (3, .int .i64 5)] [(zJB.c u1)] <| zAB <| zAE ?_
   obtain rfl := oi h
   simp
  have c34 := ltF g31
  refine zGX 4 rfl fun f35 => ?_
  refine zAF <| zAP <| cutA 33 0 [(2, .str s27), (3, .int .i64 0)] [(zJB.c u1)] <| zAB ?_
  obtain rfl := oi h
  simp
 have c37 := ltF g14
 refine zCJ 0 1 rfl rfl rfl fun f38 => ?_
 rw [List.length_map] at f38
 refine zAF <| zAP <| zAM <| cutA 33 0 [(4, .str v7.1), (31, .bool (ltI 16384 (v7.1.length : Int)))] [(zJB.c u1)] <| spc h rfl (fun g39 h => ?_) fun g39 h => ?_
 ·have c40 := ltT g39
  refine zGX 4 rfl fun f41 => ?_
  refine cutA 33 0 [(2, .str ([] : List UInt8)), (3, .int .i64 5)] [(zJB.c u1)] <| zAB <| zAE ?_
  obtain rfl := oi h
  simp
 have c42 := ltF g39
 refine zGX 4 rfl fun f43 => ?_
 refine zAF <| zAP <| cutA 33 0 [(2, .str v7.1), (3, .int .i64 0)] [(zJB.c u1)] <| zAB ?_
 obtain rfl := oi h
 simp
theorem zGG (fuel : Nat) (u1 : zJB) (r : Bool) (h : zDb fuel u1 = some r) : Pure Tryz.prog 4 [.agg [.str u1.Name, .sl (u1.Imports.map cS), .sl (u1.Decls.map zJC.c)]] (.bool r) := by
 rw [zDb] at h
 refine zAO Tryz.func4 (by rfl) (by rfl) (by simp) (by simp) (by simp) <| cutA 68 0 [(1, .mptr 0 0)] [(zJB.c u1)] <| zAM ?_
 obtain ⟨v2, q3, h⟩ := bs h
 refine cut 68 0 [(1, .mptr 0 0), (12, .bool (!v2))] [(zJB.c u1)] ?_ ?_
 ·refine st ?_
  simp
  have r38 := zIx fuel v2 q3
  try simp at r38
  refine zAA r38 (by simp) rfl ?_
  simp
 refine spc h rfl (fun g4 h => ?_) fun g4 h => ?_
 ·have g5 := notT g4
  refine cutA 68 0 [(2, .bool false)] [(zJB.c u1)] <| zAB <| zAE ?_
  obtain rfl := oi h
  simp
 have g6 := notF g4
 refine zAF <| zAP <| zAM ?_
 obtain ⟨b15, q16, h⟩ := bs h
 refine cut 68 0 [(1, .mptr 0 0), (27, .bool b15)] [(zJB.c u1)] ?_ ?_
 ·obtain ⟨v7, q8, q16⟩ := bs q16
  rcases sp q16 with ⟨g9, q16⟩ | ⟨g9, q16⟩
  ·obtain rfl := oi q16
   refine st ?_
   simp [g9]
   have r35 := zFf fuel u1.Decls v7 q8
   try simp [g9] at r35
   refine zAA r35 (by simp) rfl ?_
   simp [g9]
  rcases sp q16 with ⟨g10, q16⟩ | ⟨g10, q16⟩
  ·have c11 := ltT g10
   refine zCJ 0 1 rfl rfl rfl fun f12 => ?_
   rw [List.length_map] at f12
   obtain rfl := oi q16
   refine st ?_
   simp [g9, g10]
   have r36 := zFf fuel u1.Decls v7 q8
   try simp [g9, g10] at r36
   refine zAA r36 (by simp) rfl ?_
   simp [g9, g10]
  have c13 := ltF g10
  refine zCJ 0 1 rfl rfl rfl fun f14 => ?_
  rw [List.length_map] at f14
  obtain rfl := oi q16
  refine st ?_
  simp [g9, g10]
  have r37 := zFf fuel u1.Decls v7 q8
  try simp [g9, g10] at r37
  refine zAA r37 (by simp) rfl ?_
  simp [g9, g10]
 refine spc h rfl (fun g17 h => ?_) fun g17 h => ?_
 ·refine cutA 68 0 [(2, .bool true)] [(zJB.c u1)] <| zAB <| zAE ?_
  obtain rfl := oi h
  simp
 refine zAF <| zAP ?_
 obtain ⟨v18, q19, h⟩ := bs h
 refine cut 68 0 [(1, .mptr 0 0), (3, .str v18.1), (4, .int .i64 v18.2)] [(zJB.c u1)] ?_ ?_
 ·refine st ?_
  simp
  have r34 := zH3 fuel u1.Decls v18 q19
  try simp at r34
  refine zAA r34 (by simp) rfl ?_
  simp
 obtain ⟨v20, q21, h⟩ := bs h
 refine cut 68 0 [(1, .mptr 0 0), (3, .str v18.1), (4, .int .i64 v18.2), (5, .str v20.1), (6, .int .i64 v20.2)] [(zJB.c u1)] ?_ ?_
 ·refine st ?_
  simp
  have r33 := zGl fuel u1.Decls v20 q21
  try simp at r33
  refine zAA r33 (by simp) rfl ?_
  simp
 obtain ⟨v22, q23, h⟩ := bs h
 refine cut 68 0 [(1, .mptr 0 0), (3, .str v18.1), (4, .int .i64 v18.2), (5, .str v20.1), (6, .int .i64 v20.2), (7, .str v22.1), (8, .int .i64 v22.2)] [(zJB.c u1)] ?_ ?_
 ·refine st ?_
  simp
  have r32 := zIK fuel u1 v22 q23
  try simp at r32
  refine zAA r32 (by simp) rfl ?_
  simp
 obtain ⟨v24, q25, h⟩ := bs h
 refine cut 68 0 [(3, .str v18.1), (4, .int .i64 v18.2), (5, .str v20.1), (6, .int .i64 v20.2), (7, .str v22.1), (8, .int .i64 v22.2), (9, .str v24.1), (10, .int .i64 v24.2)] [(zJB.c u1)] ?_ ?_
 ·refine st ?_
  simp
  have r31 := ref06_Unit_ok fuel u1 v24 q25
  try simp at r31
  refine zAA r31 (by simp) rfl ?_
  simp
 refine cut 68 0 [(2, .bool ((eqS v18.1 v20.1) && ((eqI v18.2 v20.2) && ((eqS v22.1 v24.1) && (eqI v22.2 v24.2)))))] [(zJB.c u1)] ?_ ?_
 ·rcases tf (eqS v18.1 v20.1) with g26 | g26
  ·rcases tf (eqI v18.2 v20.2) with g27 | g27
   ·have c28 := eqT g27
    rcases tf (eqS v22.1 v24.1) with g29 | g29
    ·refine st ?_
     simp [g26, g27, g29]
    refine st ?_
    simp [g26, g27, g29]
   have c30 := eqF g27
   refine st ?_
   simp [g26, g27]
  refine st ?_
  simp [g26]
 refine zAB ?_
 obtain rfl := oi h
 simp
theorem zAg {α β : Type} (a : α) (f : α → Option β) : (some a).bind f = f a := Eq.trans (Option.bind_some a f) rfl
theorem chk64 {n : Int} (h1 : -9223372036854775808 ≤ n) (h2 : n ≤ 9223372036854775807) : chk .i64 n = some n := by rw [chk, if_pos]; exact ⟨h1, h2⟩
theorem app_some {α : Type} {b : Nat} {x y : List α} (h : 0 < b) (h2 : (x.length + y.length) * b ≤ 140737488355328) : app b x y = some (x ++ y) := by rw [app, if_pos ⟨h, h2⟩]
theorem app1 {x y : List UInt8} (h : x.length + y.length ≤ 140737488355328) : app 1 x y = some (x ++ y) := app_some (by decide) (by omega)
theorem cat1 {x y : List UInt8} (h : x.length + y.length ≤ 1152921504606846976) : cat x y = some (x ++ y) := by rw [cat, if_pos h]
theorem idxN {α : Type} (l : List α) (i : Nat) : idx l (i : Int) = l[i]? := by rw [idx, if_pos (by omega)]; simp
theorem subD {α : Type} (s : List α) (i : Nat) (h : i ≤ s.length) : subC s (i : Int) (s.length : Int) = some (s.drop i) := by
 rw [subC, if_pos ⟨by omega, by omega, by omega⟩]
 unfold sub
 rw [List.take_of_length_le (by simp)]
 simp
theorem subT {α : Type} (s : List α) (n : Nat) (h : n ≤ s.length) : subC s 0 (n : Int) = some (s.take n) := by
 rw [subC, if_pos ⟨by omega, by omega, by omega⟩]
 simp [sub]
theorem ltN {i n : Nat} (h : ¬ i < n) : ¬ ltI (i : Int) (n : Int) = true := fun h' => by have := ltT h'; omega
theorem ltP {i n : Nat} (h : i < n) : ltI (i : Int) (n : Int) = true := decide_eq_true (by omega)
theorem zGz (P : UInt8 → Bool) (h : (List.range 256).all (fun n => P (UInt8.ofNat n)) = true) (c : UInt8) : P c = true := by
 have := List.all_eq_true.1 h c.toNat (List.mem_range.2 c.toNat_lt)
 simpa using this
def smB (c : UInt8) : Bool := decide (97 ≤ c.toNat) && decide (c.toNat ≤ 122)
def caB (c : UInt8) : Bool := decide (65 ≤ c.toNat) && decide (c.toNat ≤ 90)
def inU (c : UInt8) : Bool := smB c || caB c || (decide (48 ≤ c.toNat) && decide (c.toNat ≤ 57)) || decide (c.toNat = 95)
def nm (p : UInt8 → Bool) : List UInt8 → Bool
 | [] => false
 | c :: s => decide ((c :: s).length ≤ 24) && (p c && (c :: s).all inU)
theorem nm_cons (p : UInt8 → Bool) (c : UInt8) (s : List UInt8) : nm p (c :: s) = (decide ((c :: s).length ≤ 24) && (p c && (c :: s).all inU)) := rfl
theorem of_M (c : UInt8) : ∃ k, zE5 c = some k ∧ ((eqI k 0 || eqI k 5) = !inU c) ∧ (eqI k 2 = caB c) ∧ (eqI k 1 = smB c) := by
 have h := zGz (fun c => match zE5 c with | some k => ((eqI k 0 || eqI k 5) == !inU c) && ((eqI k 2 == caB c) && (eqI k 1 == smB c)) | none => false) (by kernel_rfl) c
 cases hk : zE5 c with
 | none => rw [hk] at h; cases h
 | some k =>
  rw [hk] at h
  simp only [Bool.and_eq_true, beq_iff_eq] at h
  exact ⟨k, rfl, h.1, h.2.1, h.2.2⟩
theorem Inner_M (c : UInt8) : zEQ c = some (inU c) := by
 have h := zGz (fun c => match zEQ c with | some b => b == inU c | none => false) (by kernel_rfl) c
 cases hk : zEQ c with
 | none => rw [hk] at h; cases h
 | some k => rw [hk] at h; rw [beq_iff_eq] at h; rw [h]
theorem Capital_M (c : UInt8) : zDR c = some (caB c) := by
 have h := zGz (fun c => match zDR c with | some b => b == caB c | none => false) (by kernel_rfl) c
 cases hk : zDR c with
 | none => rw [hk] at h; cases h
 | some k => rw [hk] at h; rw [beq_iff_eq] at h; rw [h]
theorem Small_M (c : UInt8) : zDZ c = some (smB c) := by
 have h := zGz (fun c => match zDZ c with | some b => b == smB c | none => false) (by kernel_rfl) c
 cases hk : zDZ c with
 | none => rw [hk] at h; cases h
 | some k => rw [hk] at h; rw [beq_iff_eq] at h; rw [h]
theorem name_loop (l : List UInt8) : ∀ (n i k : Nat), i + n = l.length → n + 1 ≤ k → zDG l k i = some (if (l.drop i).all inU = true then .inr () else .inl false) := by
 intro n
 induction n with
 | zero =>
  intro i k hi hk
  obtain ⟨g, rfl⟩ : ∃ g, k = g + 1 := ⟨k - 1, by omega⟩
  rw [zDG, if_neg (ltN (by omega)), List.drop_eq_nil_of_le (by omega)]
  rfl
 | succ n ih =>
  intro i k hi hk
  obtain ⟨g, rfl⟩ : ∃ g, k = g + 1 := ⟨k - 1, by omega⟩
  have hx : l[i]? = some l[i] := List.getElem?_eq_getElem (by omega)
  rw [zDG, if_pos (ltP (by omega)), hx, List.drop_eq_getElem_cons (by omega), List.all_cons]
  generalize l[i] = c
  obtain ⟨z, z1, z2, _⟩ := of_M c
  simp only [zAg, z1, z2]
  cases inU c
  ·rfl
  ·simp only [Bool.not_true, Bool.false_eq_true, if_false, Bool.true_and]
   exact ih (i + 1) g (by omega) (by omega)
theorem name_M (s : List UInt8) (f : Int) (p : UInt8 → Bool) (hp : ∀ c k, zE5 c = some k → eqI k f = p c) {fuel : Nat} (hf : 30 ≤ fuel) : zDS fuel s f = some (nm p s) := by
 rw [zDS]
 match s with
 | [] => rfl
 | c :: s =>
  rw [show eqS (c :: s) [] = false from decide_eq_false (by simp)]
  simp only [Bool.false_eq_true, if_false]
  by_cases hl : (c :: s).length ≤ 24
  ·rw [show ltI 24 ((c :: s).length : Int) = false from decide_eq_false (by omega)]
   obtain ⟨z, z1, _⟩ := of_M c
   simp only [Bool.false_eq_true, if_false, List.getElem?_cons_zero, zAg, z1, hp c z z1]
   have hu : nm p (c :: s) = (p c && (c :: s).all inU) := by rw [nm_cons, decide_eq_true hl, Bool.true_and]
   rw [hu]
   cases p c
   ·rfl
   ·simp only [Bool.not_true, Bool.false_eq_true, if_false, Bool.true_and]
    rw [bytesC, if_pos (by omega)]
    simp only [zAg]
    rw [name_loop (c :: s) (c :: s).length 0 fuel (by omega) (by omega), List.drop_zero]
    cases (c :: s).all inU <;> rfl
  ·rw [show ltI 24 ((c :: s).length : Int) = true from decide_eq_true (by omega)]
   have hu : nm p (c :: s) = false := by rw [nm_cons, decide_eq_false hl, Bool.false_and]
   rw [hu]; rfl
theorem name1 (s : List UInt8) {fuel : Nat} (hf : 30 ≤ fuel) : zDS fuel s 1 = some (nm smB s) := name_M s 1 smB (fun c k h => by
 obtain ⟨z, z1, _, _, z4⟩ := of_M c
 rw [z1] at h; cases h; exact z4) hf
theorem name2 (s : List UInt8) {fuel : Nat} (hf : 30 ≤ fuel) : zDS fuel s 2 = some (nm caB s) := name_M s 2 caB (fun c k h => by
 obtain ⟨z, z1, _, z3, _⟩ := of_M c
 rw [z1] at h; cases h; exact z3) hf
theorem inner_loop (l : List UInt8) : ∀ (n i k : Nat), i + n = l.length → n + 1 ≤ k → zCu l k i = some (if (l.drop i).all inU = true then .inr () else .inl false) := by
 intro n
 induction n with
 | zero =>
  intro i k hi hk
  obtain ⟨g, rfl⟩ : ∃ g, k = g + 1 := ⟨k - 1, by omega⟩
  rw [zCu, if_neg (ltN (by omega)), List.drop_eq_nil_of_le (by omega)]
  rfl
 | succ n ih =>
  intro i k hi hk
  obtain ⟨g, rfl⟩ : ∃ g, k = g + 1 := ⟨k - 1, by omega⟩
  have hx : l[i]? = some l[i] := List.getElem?_eq_getElem (by omega)
  rw [zCu, if_pos (ltP (by omega)), hx, List.drop_eq_getElem_cons (by omega), List.all_cons]
  generalize l[i] = c
  simp only [zAg, Inner_M]
  cases inU c
  ·rfl
  ·simp only [Bool.not_true, Bool.false_eq_true, if_false, Bool.true_and]
   exact ih (i + 1) g (by omega) (by omega)
theorem inner_M (l : List UInt8) {fuel : Nat} (hf : l.length + 1 ≤ fuel) : zDr fuel l = some (l.all inU) := by
 rw [zDr, inner_loop l l.length 0 fuel (by omega) hf, List.drop_zero]
 cases l.all inU <;> rfl
theorem Word_M (s : List UInt8) {fuel : Nat} (hf : 30 ≤ fuel) : zEs fuel s = some (decide (1 ≤ s.length) && (decide (s.length ≤ 24) && s.all inU)) := by
 rw [zEs]
 by_cases h1 : 1 ≤ s.length
 ·rw [show leI 1 (s.length : Int) = true from decide_eq_true (by omega), decide_eq_true h1]
  by_cases h2 : s.length ≤ 24
  ·rw [show leI (s.length : Int) 24 = true from decide_eq_true (by omega), decide_eq_true h2, inner_M s (by omega)]; rfl
  ·rw [show leI (s.length : Int) 24 = false from decide_eq_false (by omega), decide_eq_false h2]; rfl
 ·rw [show leI 1 (s.length : Int) = false from decide_eq_false (by omega), decide_eq_false h1]; rfl
theorem nm_word (p : UInt8 → Bool) (c : UInt8) (s : List UInt8) : nm p (c :: s) = ((decide (1 ≤ (c :: s).length) && (decide ((c :: s).length ≤ 24) && (c :: s).all inU)) && p c) := by
 rw [nm_cons, decide_eq_true (show 1 ≤ (c :: s).length by simp)]
 cases decide ((c :: s).length ≤ 24) <;> cases p c <;> cases (c :: s).all inU <;> rfl
theorem zG1 (s : List UInt8) {fuel : Nat} (hf : 30 ≤ fuel) : zBP fuel s = some (nm caB s) := by rw [zBP, name2 s hf]; rfl
theorem Upper_M (s : List UInt8) {fuel : Nat} (hf : 30 ≤ fuel) : zBp fuel s = some (nm caB s) := by
 rw [zBp, zEw, Word_M s hf]
 match s with
 | [] => rfl
 | c :: s =>
  rw [nm_word]
  simp only [zAg]
  cases (decide (1 ≤ (c :: s).length) && (decide ((c :: s).length ≤ 24) && (c :: s).all inU))
  ·rfl
  ·simp only [if_true, List.getElem?_cons_zero, zAg, Capital_M, Bool.true_and]
def KEYS : List (List UInt8) := (zFF).getD []
theorem KEYS_M : zFF = some KEYS := by kernel_rfl
theorem KEYS_len : KEYS.length = 31 := by kernel_rfl
def kw (s : List UInt8) : Bool := KEYS.any (fun w => decide (w = s))
theorem index_loop (l : List (List UInt8)) (v : List UInt8) : ∀ (n i k : Nat), i + n = l.length → n + 1 ≤ k → ∃ o, zBZ l v k i = some o ∧ (((l.drop i).any (fun w => decide (w = v)) = true ∧ ∃ j : Nat, o = .inl (j : Int)) ∨ ((l.drop i).any (fun w => decide (w = v)) = false ∧ o = .inr ())) := by
 intro n
 induction n with
 | zero =>
  intro i k hi hk
  obtain ⟨g, rfl⟩ : ∃ g, k = g + 1 := ⟨k - 1, by omega⟩
  rw [zBZ, if_neg (ltN (by omega)), List.drop_eq_nil_of_le (by omega)]
  exact ⟨_, rfl, .inr ⟨rfl, rfl⟩⟩
 | succ n ih =>
  intro i k hi hk
  obtain ⟨g, rfl⟩ : ∃ g, k = g + 1 := ⟨k - 1, by omega⟩
  have hx : l[i]? = some l[i] := List.getElem?_eq_getElem (by omega)
  rw [zBZ, if_pos (ltP (by omega)), hx, List.drop_eq_getElem_cons (by omega), List.any_cons]
  generalize l[i] = c
  simp only [zAg]
  by_cases h : c = v
  ·rw [if_pos (show eqS v c = true from decide_eq_true h.symm), decide_eq_true h]
   exact ⟨_, rfl, .inl ⟨rfl, i, rfl⟩⟩
  ·rw [if_neg (show ¬ eqS v c = true from fun e => h (of_decide_eq_true e).symm), decide_eq_false h, Bool.false_or]
   exact ih (i + 1) g (by omega) (by omega)
theorem zIC (l : List (List UInt8)) (v : List UInt8) {fuel : Nat} (hf : l.length + 1 ≤ fuel) : zBa fuel l v = some (l.any (fun w => decide (w = v))) := by
 obtain ⟨o, o1, o2⟩ := index_loop l v l.length 0 fuel (by omega) hf
 rw [zBa, zDU, o1]
 rw [List.drop_zero] at o2
 rcases o2 with ⟨h, j, rfl⟩ | ⟨h, rfl⟩
 ·rw [h]
  simp only [zAg, Sum.elim_inl]
  rw [show leI 0 (j : Int) = true from decide_eq_true (by omega)]
 ·rw [h]; rfl
theorem word_M (s : List UInt8) {fuel : Nat} (hf : 40 ≤ fuel) : zFG fuel s = some (kw s) := by
 have hF : ∀ t, zDo t = some KEYS → ((zDo t).bind fun v2 => (zBa fuel v2 s).bind fun v4 => some v4) = some (kw s) := fun t ht => by
  rw [ht]
  simp only [zAg]
  rw [zIC KEYS s (by rw [KEYS_len]; omega)]; rfl
 rw [zFG]
 exact hF _ (by kernel_rfl)
def loS (s : List UInt8) : Bool := nm smB s && !kw s
theorem zI6 (s : List UInt8) {fuel : Nat} (hf : 40 ≤ fuel) : zBd fuel s = some (loS s) := by
 rw [zBd, name1 s (by omega)]
 unfold loS
 simp only [zAg]
 cases nm smB s
 ·rfl
 ·rw [if_pos rfl, word_M s hf]; rfl
theorem find_loop (l : List (List UInt8)) (v : List UInt8) : ∀ (n i k : Nat), i + n = l.length → n + 1 ≤ k → ∃ o, zDD l v k i = some o ∧ (((l.drop i).any (fun w => decide (w = v)) = true ∧ ∃ j : Nat, o = .inl (j : Int)) ∨ ((l.drop i).any (fun w => decide (w = v)) = false ∧ o = .inr ())) := by
 intro n
 induction n with
 | zero =>
  intro i k hi hk
  obtain ⟨g, rfl⟩ : ∃ g, k = g + 1 := ⟨k - 1, by omega⟩
  rw [zDD, if_neg (ltN (by omega)), List.drop_eq_nil_of_le (by omega)]
  exact ⟨_, rfl, .inr ⟨rfl, rfl⟩⟩
 | succ n ih =>
  intro i k hi hk
  obtain ⟨g, rfl⟩ : ∃ g, k = g + 1 := ⟨k - 1, by omega⟩
  have hx : l[i]? = some l[i] := List.getElem?_eq_getElem (by omega)
  rw [zDD, if_pos (ltP (by omega)), hx, List.drop_eq_getElem_cons (by omega), List.any_cons]
  generalize l[i] = c
  simp only [zAg]
  by_cases h : c = v
  ·rw [if_pos (show eqS c v = true from decide_eq_true h), decide_eq_true h]
   exact ⟨_, rfl, .inl ⟨rfl, i, rfl⟩⟩
  ·rw [if_neg (show ¬ eqS c v = true from fun e => h (of_decide_eq_true e)), decide_eq_false h, Bool.false_or]
   exact ih (i + 1) g (by omega) (by omega)
theorem Lower_M (s : List UInt8) {fuel : Nat} (hf : 40 ≤ fuel) : zB9 fuel s = some (loS s) := by
 rw [zB9, zEx, Word_M s (by omega)]
 unfold loS
 match s with
 | [] => rfl
 | c :: s =>
  rw [nm_word]
  simp only [zAg]
  cases (decide (1 ≤ (c :: s).length) && (decide ((c :: s).length ≤ 24) && (c :: s).all inU))
  ·rfl
  ·simp only [if_true, List.getElem?_cons_zero, zAg, Small_M, Bool.true_and]
   cases smB c
   ·rfl
   ·rw [if_pos rfl, KEYS_M]
    simp only [zAg, Bool.true_and]
    obtain ⟨o, o1, o2⟩ := find_loop KEYS (c :: s) KEYS.length 0 fuel (by omega) (by rw [KEYS_len]; omega)
    rw [zFl, o1]
    rw [List.drop_zero] at o2
    rcases o2 with ⟨h, j, rfl⟩ | ⟨h, rfl⟩
    ·have : kw (c :: s) = true := h
     rw [this]
     simp only [zAg, Sum.elim_inl]
     rw [show ltI (j : Int) 0 = false from decide_eq_false (by omega)]; rfl
    ·have : kw (c :: s) = false := h
     rw [this]; rfl
def vaS : List UInt8 → Bool
 | [] => false
 | c :: r => decide (c.toNat = 39) && (decide ((c :: r).length ≤ 24) && nm smB r)
theorem zIi (c : UInt8) (r : List UInt8) : vaS (c :: r) = (decide (c.toNat = 39) && (decide ((c :: r).length ≤ 24) && nm smB r)) := rfl
theorem HasPrefix_M (s t : List UInt8) : zCe s t = some (decide (s.take t.length = t)) := by
 rw [zCe]
 by_cases h : t.length ≤ s.length
 ·rw [if_pos (show leI (t.length : Int) (s.length : Int) = true from decide_eq_true (by omega)), subT s t.length h]; rfl
 ·rw [if_neg (show ¬ leI (t.length : Int) (s.length : Int) = true from fun h' => by have := leT h'; omega)]
  have : ¬ s.take t.length = t := fun e => by have := congrArg List.length e; simp at this; omega
  rw [decide_eq_false this]; rfl
theorem IsVar_M (s : List UInt8) {fuel : Nat} (hf : 40 ≤ fuel) : zDs fuel s = some (vaS s) := by
 rw [zDs, zDj, zDJ, HasPrefix_M]
 match s with
 | [] => rfl
 | c :: r =>
  rw [zIi]
  have e1 : ((c :: r).take ([39] : List UInt8).length = [39]) ↔ c.toNat = 39 := by
   show [c] = [39] ↔ _
   constructor
   ·intro h; cases h; rfl
   ·intro h; rw [UInt8.toNat_inj.1 (show c.toNat = (39 : UInt8).toNat from h)]
  by_cases hc : c.toNat = 39
  ·rw [decide_eq_true (e1.2 hc), decide_eq_true hc]
   simp only [zAg, Bool.not_true, Bool.false_eq_true, if_false, Bool.true_and]
   have := subD (c :: r) 1 (by simp)
   rw [show ((([39] : List UInt8).length : Nat) : Int) = ((1 : Nat) : Int) from rfl, this]
   simp only [zAg, if_true]
   by_cases hl : (c :: r).length ≤ 24
   ·rw [show leI ((c :: r).length : Int) 24 = true from decide_eq_true (by omega), if_pos rfl, decide_eq_true hl]
    show ((zDS fuel r 1).bind _).bind _ = _
    rw [name1 r (by omega)]; rfl
   ·rw [show leI ((c :: r).length : Int) 24 = false from decide_eq_false (by omega), decide_eq_false hl]; rfl
  ·rw [decide_eq_false (fun e => hc (e1.1 e)), decide_eq_false hc]; rfl
theorem Variable_M (s : List UInt8) {fuel : Nat} (hf : 40 ≤ fuel) : zDI fuel s = some (vaS s) := by
 rw [zDI, zFQ]
 match s with
 | [] => rfl
 | [c] =>
  rw [zIi, show leI 2 (([c] : List UInt8).length : Int) = false from rfl]
  have : nm smB [] = false := rfl
  rw [this, Bool.and_false, Bool.and_false]; rfl
 | c :: d :: r =>
  rw [zIi, show leI 2 ((c :: d :: r : List UInt8).length : Int) = true from decide_eq_true (by simp; omega)]
  simp only [if_true]
  by_cases hl : (c :: d :: r).length ≤ 24
  ·rw [show leI ((c :: d :: r).length : Int) 24 = true from decide_eq_true (by omega), decide_eq_true hl]
   simp only [if_true, List.getElem?_cons_zero, List.getElem?_cons_succ, zAg, Bool.true_and]
   by_cases hc : c.toNat = 39
   ·rw [show eqI (c.toNat : Int) 39 = true from decide_eq_true (by omega), decide_eq_true hc, if_pos rfl, Small_M]
    have hd : decide ((d :: r).length ≤ 24) = true := decide_eq_true (by simp at hl ⊢; omega)
    rw [nm_cons, hd]
    simp only [zAg, Bool.true_and]
    cases smB d
    ·rfl
    ·have := subD (c :: d :: r) 1 (by simp)
     rw [if_pos rfl, show ((1 : Nat) : Int) = (1 : Int) from rfl] at *
     rw [this]
     simp only [zAg]
     show (((zDr fuel (d :: r)).bind _).bind _).bind _ = _
     rw [inner_M (d :: r) (by simp at hl ⊢; omega)]; rfl
   ·rw [show eqI (c.toNat : Int) 39 = false from decide_eq_false (by omega), decide_eq_false hc]; rfl
  ·rw [show leI ((c :: d :: r).length : Int) 24 = false from decide_eq_false (by omega), decide_eq_false hl, Bool.false_and, Bool.and_false]; rfl
def catg (op : Int) : Int := (zAQ op).getD 0
theorem Category_R (op : Int) : zAQ op = some (catg op) := by
 unfold catg
 rw [zAQ]
 repeat' split
 all_goals rfl
theorem cats_ok : (List.range 89).all (fun n => decide (zDM (n : Int) = some (catg (n : Int)))) = true := by kernel_rfl
theorem Category_M (op : Int) : zDM op = some (catg op) := by
 by_cases h : 0 ≤ op ∧ op ≤ 88
 ·obtain ⟨n, rfl⟩ : ∃ n : Nat, op = n := ⟨op.toNat, by omega⟩
  exact of_decide_eq_true (List.all_eq_true.1 cats_ok n (List.mem_range.2 (by omega)))
 ·have hc : catg op = 0 := by
   have := Category_R op
   rw [zAQ] at this
   have f : ∀ a b : Int, (0 ≤ a ∧ b ≤ 88) → (leI a op && leI op b) = false := fun a b hab => by
    cases h1 : leI a op
    ·rfl
    ·cases h2 : leI op b
     ·rfl
     ·have := leT h1; have := leT h2; omega
   have f3 : ∀ (a b : Int) (c : Bool), (0 ≤ a ∧ b ≤ 88) → (leI a op && (leI op b && c)) = false := fun a b c hab => by
    cases h1 : leI a op
    ·rfl
    ·cases h2 : leI op b
     ·rfl
     ·have := leT h1; have := leT h2; omega
   rw [f 1 5 (by decide), f 11 15 (by decide), f3 21 34 _ (by decide), f3 41 50 _ (by decide), f 61 66 (by decide), f 71 74 (by decide), f 81 88 (by decide)] at this
   simp only [Bool.false_eq_true, if_false, Option.some.injEq] at this
   exact this.symm
  rw [hc, zDM]
  repeat rw [if_neg (show ¬ eqI op _ = true from fun h' => by have := eqT h'; omega)]
theorem catg_le (op : Int) : 0 ≤ catg op ∧ catg op ≤ 7 := by
 unfold catg
 rw [zAQ]
 repeat' split
 all_goals decide
def bl (cat op : Int) : Bool := decide (catg op = cat) || (decide (cat = 5) && (decide (op = 43) || decide (op = 44)))
theorem zFA (cat : Int) (t : zJC) (h0 : cat ≠ 0) : zBU cat t = some (bl cat t.Op) := by
 rw [zBU, Category_M]
 unfold bl
 have e : (eqI cat 5 && (eqI t.Op 43 || eqI t.Op 44)) = (decide (cat = 5) && (decide (t.Op = 43) || decide (t.Op = 44))) := rfl
 rw [e]
 cases (decide (cat = 5) && (decide (t.Op = 43) || decide (t.Op = 44)))
 ·rw [show eqI cat 0 = false from decide_eq_false h0]
  simp only [Bool.false_eq_true, if_false, Bool.not_false, if_true, zAg, Bool.or_false]
  rfl
 ·rw [Bool.or_true]; rfl
theorem zHh (op cat : Int) : zDA op cat = some (bl cat op) := by
 rw [zDA, Category_R]
 unfold bl
 simp only [zAg]
 by_cases h1 : catg op = cat
 ·rw [if_pos (show eqI (catg op) cat = true from decide_eq_true h1), decide_eq_true h1]; rfl
 ·rw [if_neg (show ¬ eqI (catg op) cat = true from fun e => h1 (eqT e)), decide_eq_false h1]
  by_cases h2 : cat = 5
  ·rw [if_pos (show eqI cat 5 = true from decide_eq_true h2), decide_eq_true h2]
   by_cases h3 : op = 43
   ·rw [if_pos (show eqI op 43 = true from decide_eq_true h3), decide_eq_true h3]; rfl
   ·rw [if_neg (show ¬ eqI op 43 = true from fun e => h3 (eqT e)), decide_eq_false h3]; rfl
  ·rw [if_neg (show ¬ eqI cat 5 = true from fun e => h2 (eqT e)), decide_eq_false h2]; rfl
theorem path1 (x : List UInt8) {fuel : Nat} (hf : 40 ≤ fuel) : zEB fuel x = some (!nm caB x) := by rw [zEB, zG1 x (by omega)]; rfl
theorem own1 (x : List UInt8) {fuel : Nat} (hf : 40 ≤ fuel) : zEh fuel x = some (!loS x) := by rw [zEh, zI6 x hf]; rfl
theorem many1 (x : zJC) (c : Int) (h0 : c ≠ 0) : zED x c = some (!bl c x.Op) := by rw [zED, zFA c x h0]; rfl
theorem differ1 (y w : zJC) : zEH y w = some (eqS w.S y.S) := rfl
theorem indexI_loop (l : List Int) (v : Int) : ∀ (n i k : Nat), i + n = l.length → n + 1 ≤ k → ∃ o, zBu l v k i = some o ∧ (((l.drop i).any (fun w => decide (w = v)) = true ∧ ∃ j : Nat, o = .inl (j : Int)) ∨ ((l.drop i).any (fun w => decide (w = v)) = false ∧ o = .inr ())) := by
 intro n
 induction n with
 | zero =>
  intro i k hi hk
  obtain ⟨g, rfl⟩ : ∃ g, k = g + 1 := ⟨k - 1, by omega⟩
  rw [zBu, if_neg (ltN (by omega)), List.drop_eq_nil_of_le (by omega)]
  exact ⟨_, rfl, .inr ⟨rfl, rfl⟩⟩
 | succ n ih =>
  intro i k hi hk
  obtain ⟨g, rfl⟩ : ∃ g, k = g + 1 := ⟨k - 1, by omega⟩
  have hx : l[i]? = some l[i] := List.getElem?_eq_getElem (by omega)
  rw [zBu, if_pos (ltP (by omega)), hx, List.drop_eq_getElem_cons (by omega), List.any_cons]
  generalize l[i] = c
  simp only [zAg]
  by_cases h : c = v
  ·rw [if_pos (show eqI v c = true from decide_eq_true h.symm), decide_eq_true h]
   exact ⟨_, rfl, .inl ⟨rfl, i, rfl⟩⟩
  ·rw [if_neg (show ¬ eqI v c = true from fun e => h (eqT e).symm), decide_eq_false h, Bool.false_or]
   exact ih (i + 1) g (by omega) (by omega)
theorem containsI_M (l : List Int) (v : Int) {fuel : Nat} (hf : l.length + 1 ≤ fuel) : zCz fuel l v = some (l.any (fun w => decide (w = v))) := by
 obtain ⟨o, o1, o2⟩ := indexI_loop l v l.length 0 fuel (by omega) hf
 rw [zCz, zD1, o1]
 rw [List.drop_zero] at o2
 rcases o2 with ⟨h, j, rfl⟩ | ⟨h, rfl⟩
 ·rw [h]
  simp only [zAg, Sum.elim_inl]
  rw [show leI 0 (j : Int) = true from decide_eq_true (by omega)]
 ·rw [h]; rfl
theorem only1 (x : zJC) (ops : List Int) {fuel : Nat} (hf : ops.length + 1 ≤ fuel) : zEC fuel x ops = some (!ops.any (fun w => decide (w = x.Op))) := by rw [zEC, containsI_M ops x.Op hf]; rfl
theorem path1_loop (l : List (List UInt8)) {fuel : Nat} (hf : 40 ≤ fuel) : ∀ (n i k : Nat), i + n = l.length → n + 1 ≤ k → ∃ o, zAw fuel l k i = some o ∧ (((l.drop i).any (fun x => !nm caB x) = true ∧ ∃ j : Nat, o = .inl (j : Int)) ∨ ((l.drop i).any (fun x => !nm caB x) = false ∧ o = .inr ())) := by
 intro n
 induction n with
 | zero =>
  intro i k hi hk
  obtain ⟨g, rfl⟩ : ∃ g, k = g + 1 := ⟨k - 1, by omega⟩
  rw [zAw, if_neg (ltN (by omega)), List.drop_eq_nil_of_le (by omega)]
  exact ⟨_, rfl, .inr ⟨rfl, rfl⟩⟩
 | succ n ih =>
  intro i k hi hk
  obtain ⟨g, rfl⟩ : ∃ g, k = g + 1 := ⟨k - 1, by omega⟩
  have hx : l[i]? = some l[i] := List.getElem?_eq_getElem (by omega)
  rw [zAw, if_pos (ltP (by omega)), hx, List.drop_eq_getElem_cons (by omega), List.any_cons]
  generalize l[i] = c
  simp only [zAg, path1 _ hf]
  cases (nm caB c)
  ·simp only [Bool.not_true, Bool.not_false, if_true, Bool.false_eq_true, if_false, Bool.true_or, Bool.false_or]
   exact ⟨_, rfl, .inl ⟨by trivial, i, rfl⟩⟩
  ·simp only [Bool.not_true, Bool.not_false, if_true, Bool.false_eq_true, if_false, Bool.true_or, Bool.false_or]
   exact ih (i + 1) g (by omega) (by omega)
theorem path1_M (l : List (List UInt8)) {fuel : Nat} (hf : 40 ≤ fuel) (hl : l.length + 1 ≤ fuel) : zBY fuel l = some (l.any (fun x => !nm caB x)) := by
 obtain ⟨o, o1, o2⟩ := path1_loop l (fuel := fuel) hf l.length 0 fuel (by omega) (by omega)
 rw [zBY, zCC, o1]
 rw [List.drop_zero] at o2
 rcases o2 with ⟨h, j, rfl⟩ | ⟨h, rfl⟩
 ·rw [h]
  simp only [zAg, Sum.elim_inl]
  rw [show leI 0 (j : Int) = true from decide_eq_true (by omega)]
 ·rw [h]; rfl
theorem own1_loop (l : List (List UInt8)) {fuel : Nat} (hf : 40 ≤ fuel) : ∀ (n i k : Nat), i + n = l.length → n + 1 ≤ k → ∃ o, zAy fuel l k i = some o ∧ (((l.drop i).any (fun x => !loS x) = true ∧ ∃ j : Nat, o = .inl (j : Int)) ∨ ((l.drop i).any (fun x => !loS x) = false ∧ o = .inr ())) := by
 intro n
 induction n with
 | zero =>
  intro i k hi hk
  obtain ⟨g, rfl⟩ : ∃ g, k = g + 1 := ⟨k - 1, by omega⟩
  rw [zAy, if_neg (ltN (by omega)), List.drop_eq_nil_of_le (by omega)]
  exact ⟨_, rfl, .inr ⟨rfl, rfl⟩⟩
 | succ n ih =>
  intro i k hi hk
  obtain ⟨g, rfl⟩ : ∃ g, k = g + 1 := ⟨k - 1, by omega⟩
  have hx : l[i]? = some l[i] := List.getElem?_eq_getElem (by omega)
  rw [zAy, if_pos (ltP (by omega)), hx, List.drop_eq_getElem_cons (by omega), List.any_cons]
  generalize l[i] = c
  simp only [zAg, own1 _ hf]
  cases (loS c)
  ·simp only [Bool.not_true, Bool.not_false, if_true, Bool.false_eq_true, if_false, Bool.true_or, Bool.false_or]
   exact ⟨_, rfl, .inl ⟨by trivial, i, rfl⟩⟩
  ·simp only [Bool.not_true, Bool.not_false, if_true, Bool.false_eq_true, if_false, Bool.true_or, Bool.false_or]
   exact ih (i + 1) g (by omega) (by omega)
theorem own1_M (l : List (List UInt8)) {fuel : Nat} (hf : 40 ≤ fuel) (hl : l.length + 1 ≤ fuel) : zBI fuel l = some (l.any (fun x => !loS x)) := by
 obtain ⟨o, o1, o2⟩ := own1_loop l (fuel := fuel) hf l.length 0 fuel (by omega) (by omega)
 rw [zBI, zCH, o1]
 rw [List.drop_zero] at o2
 rcases o2 with ⟨h, j, rfl⟩ | ⟨h, rfl⟩
 ·rw [h]
  simp only [zAg, Sum.elim_inl]
  rw [show leI 0 (j : Int) = true from decide_eq_true (by omega)]
 ·rw [h]; rfl
theorem many1_loop (l : List zJC) (cc : Int) (h0 : cc ≠ 0) : ∀ (n i k : Nat), i + n = l.length → n + 1 ≤ k → ∃ o, zAr l cc k i = some o ∧ (((l.drop i).any (fun x => !bl cc x.Op) = true ∧ ∃ j : Nat, o = .inl (j : Int)) ∨ ((l.drop i).any (fun x => !bl cc x.Op) = false ∧ o = .inr ())) := by
 intro n
 induction n with
 | zero =>
  intro i k hi hk
  obtain ⟨g, rfl⟩ : ∃ g, k = g + 1 := ⟨k - 1, by omega⟩
  rw [zAr, if_neg (ltN (by omega)), List.drop_eq_nil_of_le (by omega)]
  exact ⟨_, rfl, .inr ⟨rfl, rfl⟩⟩
 | succ n ih =>
  intro i k hi hk
  obtain ⟨g, rfl⟩ : ∃ g, k = g + 1 := ⟨k - 1, by omega⟩
  have hx : l[i]? = some l[i] := List.getElem?_eq_getElem (by omega)
  rw [zAr, if_pos (ltP (by omega)), hx, List.drop_eq_getElem_cons (by omega), List.any_cons]
  generalize l[i] = c
  simp only [zAg, many1 _ cc h0]
  cases (bl cc c.Op)
  ·simp only [Bool.not_true, Bool.not_false, if_true, Bool.false_eq_true, if_false, Bool.true_or, Bool.false_or]
   exact ⟨_, rfl, .inl ⟨by trivial, i, rfl⟩⟩
  ·simp only [Bool.not_true, Bool.not_false, if_true, Bool.false_eq_true, if_false, Bool.true_or, Bool.false_or]
   exact ih (i + 1) g (by omega) (by omega)
theorem many1_M (l : List zJC) (cc : Int) (h0 : cc ≠ 0) {fuel : Nat} (hl : l.length + 1 ≤ fuel) : zBW fuel l cc = some (l.any (fun x => !bl cc x.Op)) := by
 obtain ⟨o, o1, o2⟩ := many1_loop l cc h0 l.length 0 fuel (by omega) (by omega)
 rw [zBW, zB5, o1]
 rw [List.drop_zero] at o2
 rcases o2 with ⟨h, j, rfl⟩ | ⟨h, rfl⟩
 ·rw [h]
  simp only [zAg, Sum.elim_inl]
  rw [show leI 0 (j : Int) = true from decide_eq_true (by omega)]
 ·rw [h]; rfl
theorem only1_loop (l : List zJC) (ops : List Int) {fuel : Nat} (hf : ops.length + 1 ≤ fuel) : ∀ (n i k : Nat), i + n = l.length → n + 1 ≤ k → ∃ o, zAq fuel l ops k i = some o ∧ (((l.drop i).any (fun x => !ops.any (fun w => decide (w = x.Op))) = true ∧ ∃ j : Nat, o = .inl (j : Int)) ∨ ((l.drop i).any (fun x => !ops.any (fun w => decide (w = x.Op))) = false ∧ o = .inr ())) := by
 intro n
 induction n with
 | zero =>
  intro i k hi hk
  obtain ⟨g, rfl⟩ : ∃ g, k = g + 1 := ⟨k - 1, by omega⟩
  rw [zAq, if_neg (ltN (by omega)), List.drop_eq_nil_of_le (by omega)]
  exact ⟨_, rfl, .inr ⟨rfl, rfl⟩⟩
 | succ n ih =>
  intro i k hi hk
  obtain ⟨g, rfl⟩ : ∃ g, k = g + 1 := ⟨k - 1, by omega⟩
  have hx : l[i]? = some l[i] := List.getElem?_eq_getElem (by omega)
  rw [zAq, if_pos (ltP (by omega)), hx, List.drop_eq_getElem_cons (by omega), List.any_cons]
  generalize l[i] = c
  simp only [zAg, only1 _ ops hf]
  cases (ops.any (fun w => decide (w = c.Op)))
  ·simp only [Bool.not_true, Bool.not_false, if_true, Bool.false_eq_true, if_false, Bool.true_or, Bool.false_or]
   exact ⟨_, rfl, .inl ⟨by trivial, i, rfl⟩⟩
  ·simp only [Bool.not_true, Bool.not_false, if_true, Bool.false_eq_true, if_false, Bool.true_or, Bool.false_or]
   exact ih (i + 1) g (by omega) (by omega)
theorem only1_M (l : List zJC) (ops : List Int) {fuel : Nat} (hf : ops.length + 1 ≤ fuel) (hl : l.length + 1 ≤ fuel) : zBV fuel l ops = some (l.any (fun x => !ops.any (fun w => decide (w = x.Op)))) := by
 obtain ⟨o, o1, o2⟩ := only1_loop l ops (fuel := fuel) hf l.length 0 fuel (by omega) (by omega)
 rw [zBV, zB4, o1]
 rw [List.drop_zero] at o2
 rcases o2 with ⟨h, j, rfl⟩ | ⟨h, rfl⟩
 ·rw [h]
  simp only [zAg, Sum.elim_inl]
  rw [show leI 0 (j : Int) = true from decide_eq_true (by omega)]
 ·rw [h]; rfl
theorem differ1_loop (l : List zJC) (w : zJC) : ∀ (n i k : Nat), i + n = l.length → n + 1 ≤ k → ∃ o, zAk l w k i = some o ∧ (((l.drop i).any (fun y => eqS w.S y.S) = true ∧ ∃ j : Nat, o = .inl (j : Int)) ∨ ((l.drop i).any (fun y => eqS w.S y.S) = false ∧ o = .inr ())) := by
 intro n
 induction n with
 | zero =>
  intro i k hi hk
  obtain ⟨g, rfl⟩ : ∃ g, k = g + 1 := ⟨k - 1, by omega⟩
  rw [zAk, if_neg (ltN (by omega)), List.drop_eq_nil_of_le (by omega)]
  exact ⟨_, rfl, .inr ⟨rfl, rfl⟩⟩
 | succ n ih =>
  intro i k hi hk
  obtain ⟨g, rfl⟩ : ∃ g, k = g + 1 := ⟨k - 1, by omega⟩
  have hx : l[i]? = some l[i] := List.getElem?_eq_getElem (by omega)
  rw [zAk, if_pos (ltP (by omega)), hx, List.drop_eq_getElem_cons (by omega), List.any_cons]
  generalize l[i] = c
  simp only [zAg, differ1]
  cases (eqS w.S c.S)
  ·simp only [Bool.not_true, Bool.not_false, if_true, Bool.false_eq_true, if_false, Bool.true_or, Bool.false_or]
   exact ih (i + 1) g (by omega) (by omega)
  ·simp only [Bool.not_true, Bool.not_false, if_true, Bool.false_eq_true, if_false, Bool.true_or, Bool.false_or]
   exact ⟨_, rfl, .inl ⟨by trivial, i, rfl⟩⟩
theorem differ1_M (l : List zJC) (w : zJC) {fuel : Nat} (hl : l.length + 1 ≤ fuel) : zBL fuel l w = some (l.any (fun y => eqS w.S y.S)) := by
 obtain ⟨o, o1, o2⟩ := differ1_loop l w l.length 0 fuel (by omega) (by omega)
 rw [zBL, zBt, o1]
 rw [List.drop_zero] at o2
 rcases o2 with ⟨h, j, rfl⟩ | ⟨h, rfl⟩
 ·rw [h]
  simp only [zAg, Sum.elim_inl]
  rw [show leI 0 (j : Int) = true from decide_eq_true (by omega)]
 ·rw [h]; rfl
theorem zFC {α : Type} (p : α → Bool) (l : List α) : (!l.any (fun x => !p x)) = l.all p := by
 induction l with
 | nil => rfl
 | cons c l ih => rw [List.any_cons, List.all_cons, ← ih]; cases p c <;> simp
def chkP (low : Bool) : List (List UInt8) → Bool
 | [] => true
 | [x] => if low then loS x else nm caB x
 | x :: y :: r => nm caB x && chkP low (y :: r)
theorem chkP_snoc (low : Bool) (x : List UInt8) : ∀ l : List (List UInt8), chkP low (l ++ [x]) = (l.all (nm caB) && (if low then loS x else nm caB x))
 | [] => by simp [chkP]
 | [y] => by simp [chkP]
 | y :: z :: r => by
  show (nm caB y && chkP low ((z :: r) ++ [x])) = _
  rw [chkP_snoc low x (z :: r), List.all_cons (a := y), Bool.and_assoc]
def pth (l : List (List UInt8)) (low : Bool) : Bool := (decide (1 ≤ l.length) && decide (l.length ≤ 8)) && chkP low l
theorem path_M (l : List (List UInt8)) (low : Bool) {fuel : Nat} (hf : 50 ≤ fuel) : zBo fuel l low = some (pth l low) := by
 rw [zBo]
 unfold pth
 by_cases h1 : 1 ≤ l.length
 ·by_cases h2 : l.length ≤ 8
  ·rw [show ltI (l.length : Int) 1 = false from decide_eq_false (by omega), show ltI 8 (l.length : Int) = false from decide_eq_false (by omega), decide_eq_true h1, decide_eq_true h2]
   simp only [Bool.or_self, Bool.false_eq_true, if_false, Bool.and_self, Bool.true_and]
   have e : (l.length : Int) - 1 = ((l.length - 1 : Nat) : Int) := by omega
   have hx : l[l.length - 1]? = some l[l.length - 1] := List.getElem?_eq_getElem (by omega)
   have hsp : l = l.take (l.length - 1) ++ [l[l.length - 1]] := by
    have h3 := List.take_append_drop (l.length - 1) l
    rw [List.drop_eq_getElem_cons (by omega), List.drop_eq_nil_of_le (by omega)] at h3
    exact h3.symm
   rw [e, subT l (l.length - 1) (by omega), idxN, hx]
   generalize l[l.length - 1] = x at hsp
   simp only [zAg]
   rw [path1_M (l.take (l.length - 1)) (by omega) (by rw [List.length_take]; omega)]
   have hc : chkP low l = ((l.take (l.length - 1)).all (nm caB) && (if low then loS x else nm caB x)) := by
    have := chkP_snoc low x (l.take (l.length - 1))
    rw [← hsp] at this
    exact this
   rw [hc, ← zFC]
   simp only [zAg]
   cases (l.take (l.length - 1)).any (fun x => !nm caB x)
   ·simp only [Bool.false_eq_true, if_false, Bool.not_false, Bool.true_and]
    cases low
    ·rw [if_neg (by simp), if_neg (by simp), zG1 x (by omega)]; rfl
    ·rw [if_pos rfl, if_pos rfl, zI6 x (by omega)]; rfl
   ·rfl
  ·rw [show ltI 8 (l.length : Int) = true from decide_eq_true (by omega), Bool.or_true, decide_eq_false h2, Bool.and_false, Bool.false_and]; rfl
 ·rw [show ltI (l.length : Int) 1 = true from decide_eq_true (by omega), Bool.true_or, decide_eq_false h1, Bool.false_and, Bool.false_and]; rfl
theorem rpath_loop (l : List (List UInt8)) (low : Bool) {fuel : Nat} (hf : 40 ≤ fuel) : ∀ (n i k : Nat), i + n = l.length → n + 1 ≤ k → zCl fuel l low k i = some (if chkP low (l.drop i) = true then .inr () else .inl false) := by
 intro n
 induction n with
 | zero =>
  intro i k hi hk
  obtain ⟨g, rfl⟩ : ∃ g, k = g + 1 := ⟨k - 1, by omega⟩
  rw [zCl, if_neg (ltN (by omega)), List.drop_eq_nil_of_le (by omega)]
  rfl
 | succ n ih =>
  intro i k hi hk
  obtain ⟨g, rfl⟩ : ∃ g, k = g + 1 := ⟨k - 1, by omega⟩
  have hx : l[i]? = some l[i] := List.getElem?_eq_getElem (by omega)
  have h2 := ih (i + 1) g (by omega) (by omega)
  rw [zCl, if_pos (ltP (by omega)), hx, List.drop_eq_getElem_cons (by omega)]
  generalize l[i] = x
  rw [h2]
  by_cases hl : i + 1 = l.length
  ·rw [show eqI (i : Int) ((l.length : Int) - 1) = true from decide_eq_true (by omega), List.drop_eq_nil_of_le (show l.length ≤ i + 1 by omega)]
   simp only [Bool.and_true, zAg]
   have e1 : chkP low [x] = if low = true then loS x else nm caB x := rfl
   have e2 : chkP low [] = true := rfl
   rw [e1, e2]
   cases low
   ·simp only [Bool.false_eq_true, if_false]
    rw [Upper_M x (by omega)]
    simp only [zAg]
    cases nm caB x <;> rfl
   ·simp only [if_true]
    rw [Lower_M x hf]
    simp only [zAg]
    cases loS x <;> rfl
  ·rw [show eqI (i : Int) ((l.length : Int) - 1) = false from decide_eq_false (by omega)]
   simp only [Bool.and_false, Bool.false_eq_true, if_false, zAg]
   have hd : l.drop (i + 1) = l[i + 1] :: l.drop (i + 1 + 1) := List.drop_eq_getElem_cons (by omega)
   rw [hd]
   generalize l[i + 1] = y
   have e1 : chkP low (x :: y :: l.drop (i + 1 + 1)) = (nm caB x && chkP low (y :: l.drop (i + 1 + 1))) := rfl
   rw [e1, Upper_M x (by omega)]
   simp only [zAg]
   cases nm caB x <;> simp
theorem rpath_M (l : List (List UInt8)) (low : Bool) {fuel : Nat} (hf : 50 ≤ fuel) : zCF fuel l low = some (pth l low) := by
 rw [zCF]
 unfold pth
 by_cases h1 : 1 ≤ l.length
 ·by_cases h2 : l.length ≤ 8
  ·rw [show ltI (l.length : Int) 1 = false from decide_eq_false (by omega), show ltI 8 (l.length : Int) = false from decide_eq_false (by omega), decide_eq_true h1, decide_eq_true h2, rpath_loop l low (by omega) l.length 0 fuel (by omega) (by omega), List.drop_zero]
   cases chkP low l <;> rfl
  ·rw [show ltI 8 (l.length : Int) = true from decide_eq_true (by omega), Bool.or_true, decide_eq_false h2, Bool.and_false, Bool.false_and]; rfl
 ·rw [show ltI (l.length : Int) 1 = true from decide_eq_true (by omega), Bool.true_or, decide_eq_false h1, Bool.false_and, Bool.false_and]; rfl
def prmF : List (List UInt8) → List (List UInt8) → Bool
 | _, [] => true
 | seen, x :: r => (vaS x && !seen.any (fun w => decide (w = x))) && prmF (seen ++ [x]) r
def prm (l : List (List UInt8)) : Bool := prmF [] l && leI (l.length : Int) 4
theorem params_loop (l : List (List UInt8)) {fuel : Nat} (hf : l.length + 50 ≤ fuel) : ∀ (n i k : Nat), i + n = l.length → n + 1 ≤ k → zCP fuel l k i = some (if prmF (l.take i) (l.drop i) = true then .inr () else .inl false) := by
 intro n
 induction n with
 | zero =>
  intro i k hi hk
  obtain ⟨g, rfl⟩ : ∃ g, k = g + 1 := ⟨k - 1, by omega⟩
  rw [zCP, if_neg (ltN (by omega)), List.drop_eq_nil_of_le (by omega)]
  rfl
 | succ n ih =>
  intro i k hi hk
  obtain ⟨g, rfl⟩ : ∃ g, k = g + 1 := ⟨k - 1, by omega⟩
  have hx : l[i]? = some l[i] := List.getElem?_eq_getElem (by omega)
  have h2 := ih (i + 1) g (by omega) (by omega)
  have ht : l.take (i + 1) = l.take i ++ [l[i]] := by rw [List.take_add_one, hx]; rfl
  rw [ht] at h2
  rw [zCP, if_pos (ltP (by omega)), hx, List.drop_eq_getElem_cons (by omega)]
  generalize l[i] = x at h2
  rw [h2, prmF]
  simp only [zAg, IsVar_M x (show 40 ≤ fuel by omega)]
  rw [subT l i (by omega)]
  simp only [zAg, zIC (l.take i) x (show (l.take i).length + 1 ≤ fuel by rw [List.length_take]; omega)]
  cases vaS x
  ·rfl
  ·cases (l.take i).any (fun w => decide (w = x))
   ·simp only [Bool.not_true, Bool.false_eq_true, if_false, zAg, Bool.not_false, Bool.true_and]
   ·rfl
theorem params_M (l : List (List UInt8)) {fuel : Nat} (hf : l.length + 50 ≤ fuel) : zCg fuel l = some (prm l) := by
 rw [zCg, params_loop l hf l.length 0 fuel (by omega) (by omega), List.drop_zero, List.take_zero]
 unfold prm
 cases prmF [] l <;> rfl
def allP {α : Type} (p : List α → α → Bool) : List α → List α → Bool
 | _, [] => true
 | s, x :: r => p s x && allP p (s ++ [x]) r
theorem allP_all {α : Type} (q : α → Bool) (l : List α) : ∀ s, allP (fun _ x => q x) s l = l.all q := by
 induction l with
 | nil => exact fun _ => rfl
 | cons x r ih => intro s; rw [allP, ih, List.all_cons]
theorem loopA {α β : Type} (l : List α) (p : List α → α → Bool) (f : Nat → Nat → Option (β ⊕ Unit)) (bad : β)
  (h1 : ∀ k i x, l[i]? = some x → i < l.length → f (k + 1) i = if p (l.take i) x = true then f k (i + 1) else some (.inl bad))
  (h2 : ∀ k i, l.length ≤ i → f (k + 1) i = some (.inr ())) :
  ∀ (n i k : Nat), i + n = l.length → n + 1 ≤ k → f k i = some (if allP p (l.take i) (l.drop i) = true then .inr () else .inl bad) := by
 intro n
 induction n with
 | zero =>
  intro i k hi hk
  obtain ⟨g, rfl⟩ : ∃ g, k = g + 1 := ⟨k - 1, by omega⟩
  rw [h2 g i (by omega), List.drop_eq_nil_of_le (by omega)]; rfl
 | succ n ih =>
  intro i k hi hk
  obtain ⟨g, rfl⟩ : ∃ g, k = g + 1 := ⟨k - 1, by omega⟩
  have hx : l[i]? = some l[i] := List.getElem?_eq_getElem (by omega)
  have ht : l.take (i + 1) = l.take i ++ [l[i]] := by rw [List.take_add_one, hx]; rfl
  have h3 := ih (i + 1) g (by omega) (by omega)
  rw [ht] at h3
  rw [h1 g i _ hx (by omega), h3, List.drop_eq_getElem_cons (show i < l.length by omega), allP]
  cases p (l.take i) l[i] <;> rfl
theorem loopQ {α β : Type} (l : List α) (q : α → Bool) (f : Nat → Nat → Option (β ⊕ Unit)) (bad : β)
  (h1 : ∀ k i x, l[i]? = some x → i < l.length → f (k + 1) i = if q x = true then f k (i + 1) else some (.inl bad))
  (h2 : ∀ k i, l.length ≤ i → f (k + 1) i = some (.inr ())) (i k : Nat) (hi : i ≤ l.length) (hk : l.length + 1 ≤ k) :
  f k i = some (if (l.drop i).all q = true then .inr () else .inl bad) := by
 rw [loopA l (fun _ x => q x) f bad h1 h2 (l.length - i) i k (by omega) (by omega), allP_all]
theorem contD (b : Bool) (x : Option Bool) : ((some (if b = true then Sum.inr () else Sum.inl false) : Option (Bool ⊕ Unit)).bind fun o => Sum.elim some (fun _ => x) o) = if b = true then x else some false := by cases b <;> rfl
theorem ifS (c x : Bool) : (if c = true then some x else some false) = some (c && x) := by cases c <;> rfl
def plB (c : UInt8) : Bool := eqI (c.toNat : Int) 10 || (!ltI (c.toNat : Int) 32 && !ltI 126 (c.toNat : Int))
def plS (s : List UInt8) : Bool := s.all plB && leI (s.length : Int) 16384
theorem textB (a b c : Bool) (X : Option (Bool ⊕ Unit)) : ((if (!a) = true then if b = true then some true else some c else some false : Option Bool).bind fun b21 => if b21 = true then some (.inl false) else X) = if (a || (!b && !c)) = true then X else some (.inl false) := by
 cases a <;> cases b <;> cases c <;> rfl
theorem plain_M (s : List UInt8) {fuel : Nat} (hf : s.length + 1 ≤ fuel) : zDx fuel s = some (plS s) := by
 rw [zDx, loopQ s plB (zCX s) false (fun k i x hx hi => by
  rw [zCX, if_pos (ltP hi), hx]
  exact textB _ _ _ _) (fun k i hi => by
  rw [zCX, if_neg (ltN (by omega))]) 0 fuel (by omega) hf, List.drop_zero, contD, ifS]
 rfl
theorem text_M (s : List UInt8) {fuel : Nat} (hf : s.length + 1 ≤ fuel) : zEr fuel s = some (plS s) := by
 rw [zEr, loopQ s plB (zC7 s) false (fun k i x hx hi => by
  rw [zC7, if_pos (ltP hi), hx]
  exact textB _ _ _ _) (fun k i hi => by
  rw [zC7, if_neg (ltN (by omega))]) 0 fuel (by omega) hf, List.drop_zero, contD, ifS]
 rfl
theorem prmF_allP (l : List (List UInt8)) : ∀ s, prmF s l = allP (fun s x => vaS x && !s.any (fun w => decide (w = x))) s l := by
 induction l with
 | nil => exact fun _ => rfl
 | cons x r ih => intro s; rw [prmF, allP, ih]
theorem any_not (l : List (List UInt8)) (x : List UInt8) : (!l.any (fun w => decide (w = x))) = l.all (fun y => !eqS x y) := by
 induction l with
 | nil => rfl
 | cons y r ih =>
  rw [List.any_cons, List.all_cons, ← ih, Bool.not_or]
  congr 2
  exact decide_eq_decide.2 ⟨fun h => h.symm, fun h => h.symm⟩
theorem rparams_M (l : List (List UInt8)) {fuel : Nat} (hf : l.length + 50 ≤ fuel) : zC4 fuel l = some (prm l) := by
 rw [zC4, loopA l (fun s x => vaS x && !s.any (fun w => decide (w = x))) (zCc fuel l) false (fun k i x hx hi => by
  rw [zCc, if_pos (ltP hi), hx]
  simp only [zAg, Variable_M x (show 40 ≤ fuel by omega)]
  rw [loopQ (l.take i) (fun y => !eqS x y) (zCb l i x) false (fun k j y hy hj => by
   rw [List.length_take] at hj
   rw [zCb, if_pos (ltP (show j < i by omega)), show l[j]? = some y by rw [← hy, List.getElem?_take, if_pos (by omega)]]
   simp only [zAg]
   cases eqS x y <;> rfl) (fun k j hj => by
   rw [List.length_take] at hj
   rw [zCb, if_neg (ltN (by omega))]) 0 fuel (by omega) (by rw [List.length_take]; omega), List.drop_zero, any_not]
  cases vaS x
  ·rfl
  ·cases (l.take i).all (fun y => !eqS x y) <;> rfl) (fun k i hi => by
  rw [zCc, if_neg (ltN (by omega))]) l.length 0 fuel (by omega) (by omega), List.drop_zero, List.take_zero, ← prmF_allP, contD, ifS]
 rfl
def bx (c op : Int) : Bool := if c = 0 then eqI op 72 else bl c op
def kids : List Int → List zJC → Bool
 | [], [] => true
 | c :: cs, x :: xs => bx c x.Op && kids cs xs
 | _, _ => false
theorem kids_len : ∀ (cs : List Int) (l : List zJC), cs.length ≠ l.length → kids cs l = false
 | [], [], h => absurd rfl h
 | [], _ :: _, _ => rfl
 | _ :: _, [], _ => rfl
 | c :: cs, x :: l, h => by rw [kids, kids_len cs l (by simpa using h), Bool.and_false]
theorem loopK (l : List zJC) (cs : List Int) (f : Nat → Nat → Option (Bool ⊕ Unit)) (hlen : cs.length = l.length)
  (h1 : ∀ k i c x, cs[i]? = some c → l[i]? = some x → i < cs.length → f (k + 1) i = if bx c x.Op = true then f k (i + 1) else some (.inl false))
  (h2 : ∀ k i, cs.length ≤ i → f (k + 1) i = some (.inr ())) :
  ∀ (n i k : Nat), i + n = cs.length → n + 1 ≤ k → f k i = some (if kids (cs.drop i) (l.drop i) = true then .inr () else .inl false) := by
 intro n
 induction n with
 | zero =>
  intro i k hi hk
  obtain ⟨g, rfl⟩ : ∃ g, k = g + 1 := ⟨k - 1, by omega⟩
  rw [h2 g i (by omega), List.drop_eq_nil_of_le (by omega), List.drop_eq_nil_of_le (by omega)]; rfl
 | succ n ih =>
  intro i k hi hk
  obtain ⟨g, rfl⟩ : ∃ g, k = g + 1 := ⟨k - 1, by omega⟩
  have hx : cs[i]? = some cs[i] := List.getElem?_eq_getElem (by omega)
  have hy : l[i]? = some l[i] := List.getElem?_eq_getElem (by omega)
  rw [h1 g i _ _ hx hy (by omega), ih (i + 1) g (by omega) (by omega), List.drop_eq_getElem_cons (show i < cs.length by omega), List.drop_eq_getElem_cons (show i < l.length by omega), kids]
  cases bx cs[i] l[i].Op <;> rfl
theorem parts_M (t : zJC) (cs : List Int) (h0 : ∀ c ∈ cs, c ≠ 0) {fuel : Nat} (hf : cs.length + 1 ≤ fuel) : zAu fuel t cs = some (kids cs t.L) := by
 rw [zAu]
 by_cases h : cs.length = t.L.length
 ·rw [show eqI (t.L.length : Int) (cs.length : Int) = true from decide_eq_true (by omega), loopK t.L cs (zCY t cs) h (fun k i c x hc hx hi => by
   have hc0 : c ≠ 0 := h0 c (List.mem_of_getElem? hc)
   rw [zCY, if_pos (ltP hi), hc, hx]
   simp only [zAg, zFA c x hc0]
   rw [bx, if_neg hc0]
   cases bl c x.Op <;> rfl) (fun k i hi => by rw [zCY, if_neg (ltN (by omega))]) cs.length 0 fuel (by omega) hf, List.drop_zero, List.drop_zero, contD]
  cases kids cs t.L <;> rfl
 ·rw [show eqI (t.L.length : Int) (cs.length : Int) = false from decide_eq_false (by omega), kids_len cs t.L h]; rfl
theorem exact_M (t : zJC) (cs : List Int) {fuel : Nat} (hf : cs.length + 1 ≤ fuel) : zAp fuel t cs = some (kids cs t.L) := by
 rw [zAp]
 by_cases h : cs.length = t.L.length
 ·rw [show eqI (t.L.length : Int) (cs.length : Int) = true from decide_eq_true (by omega), loopK t.L cs (zCs t cs) h (fun k i c x hc hx hi => by
   rw [zCs, if_pos (ltP hi), hc, hx]
   simp only [zAg, zHh]
   by_cases hc0 : c = 0
   ·rw [bx, if_pos hc0, if_pos (show eqI c 0 = true from decide_eq_true hc0)]
    cases eqI x.Op 72 <;> rfl
   ·rw [bx, if_neg hc0, if_neg (show ¬ eqI c 0 = true from fun e => hc0 (eqT e))]
    cases bl c x.Op <;> rfl) (fun k i hi => by rw [zCs, if_neg (ltN (by omega))]) cs.length 0 fuel (by omega) hf, List.drop_zero, List.drop_zero, contD]
  cases kids cs t.L <;> rfl
 ·rw [show eqI (t.L.length : Int) (cs.length : Int) = false from decide_eq_false (by omega), kids_len cs t.L h]; rfl
theorem many_M (l : List zJC) (c a b : Int) (h0 : c ≠ 0) {fuel : Nat} (hf : l.length + 1 ≤ fuel) : zCG fuel l c a b = some (leI a (l.length : Int) && (leI (l.length : Int) b && l.all (fun x => bl c x.Op))) := by
 rw [zCG, many1_M l c h0 hf]
 simp only [zAg, ifS, zFC]
theorem only_M (l : List zJC) (ops : List Int) {fuel : Nat} (hf : l.length + ops.length + 2 ≤ fuel) : zCQ fuel l ops = some (l.all (fun x => ops.any (fun w => decide (w = x.Op)))) := by
 rw [zCQ, only1_M l ops (by omega) (by omega)]
 simp only [zAg, zFC]
theorem all_step (t : zJC) (b i k : Nat) (c : Int) (x : zJC) (hx : t.L[i]? = some x) (hi : i < b) (hB : b < 1000000000) : zCV t (b : Int) c (k + 1) (i : Int) = if bl c x.Op = true then zCV t (b : Int) c k ((i + 1 : Nat) : Int) else some (.inl false) := by
 have e : chk .i64 ((i : Int) + 1) = some ((i + 1 : Nat) : Int) := chk64 (n := (i : Int) + 1) (by omega) (by omega)
 rw [zCV, if_pos (ltP hi), idxN, hx, zAg, zHh, zAg, e, zAg]
 cases bl c x.Op
 ·rfl
 ·simp only [Bool.not_true, Bool.false_eq_true, if_false, if_true]
theorem all_stop (t : zJC) (b i k : Nat) (c : Int) (hi : b ≤ i) : zCV t (b : Int) c (k + 1) (i : Int) = some (.inr ()) := by
 rw [zCV, if_neg (ltN (by omega))]
theorem all_M (t : zJC) (a b : Nat) (c : Int) (hb : b ≤ t.L.length) (ha : a ≤ b) (hB : t.L.length < 1000000000) {fuel : Nat} (hf : t.L.length + 1 ≤ fuel) : zB3 fuel t (a : Int) (b : Int) c = some (((t.L.take b).drop a).all (fun x => bl c x.Op)) := by
 have hl : (t.L.take b).length = b := by rw [List.length_take]; omega
 have h := loopQ (t.L.take b) (fun x => bl c x.Op) (fun k (i : Nat) => zCV t (b : Int) c k (i : Int)) false (fun k i x hx hi => by
   rw [hl] at hi
   have hx' : t.L[i]? = some x := by rw [← hx, List.getElem?_take, if_pos hi]
   exact all_step t b i k c x hx' hi (by omega)) (fun k i hi => all_stop t b i k c (by omega)) a fuel (by omega) (by omega)
 rw [zB3]
 rw [h, contD]
 cases ((t.L.take b).drop a).all (fun x => bl c x.Op) <;> rfl
def difP (s : List zJC) (x : zJC) : Bool := s.all (fun y => !eqS x.S y.S)
def dif (l : List zJC) : Bool := allP difP [] l
theorem differ_M (l : List zJC) {fuel : Nat} (hf : l.length + 1 ≤ fuel) : zDf fuel l = some (dif l) := by
 rw [zDf, loopA l difP (zCR fuel l) false (fun k i x hx hi => by
  rw [zCR, if_pos (ltP hi), hx]
  simp only [zAg]
  rw [subT l i (by omega)]
  simp only [zAg]
  rw [differ1_M (l.take i) x (by rw [List.length_take]; omega)]
  have e : (l.take i).any (fun y => eqS x.S y.S) = !difP (l.take i) x := by
   unfold difP
   rw [← zFC (fun y : zJC => !eqS x.S y.S)]
   simp
  rw [e]
  cases difP (l.take i) x <;> rfl) (fun k i hi => by
  rw [zCR, if_neg (ltN (by omega))]) l.length 0 fuel (by omega) hf, List.drop_zero, List.take_zero, contD]
 cases h : dif l
 ·rw [show allP difP [] l = false from h]; rfl
 ·rw [show allP difP [] l = true from h]; rfl
theorem ctors_M (t : zJC) {fuel : Nat} (hf : t.L.length + 1 ≤ fuel) : zBm fuel t fuel 0 = some (if (t.L.all (fun x => eqI x.Op 45) && dif t.L) = true then .inr () else .inl false) := by
 rw [loopA t.L (fun s x => eqI x.Op 45 && difP s x) (zBm fuel t) false (fun k i x hx hi => by
  rw [zBm, if_pos (ltP hi), hx]
  simp only [zAg]
  rw [loopQ (t.L.take i) (fun y => !eqS x.S y.S) (zCI t i x) false (fun k j y hy hj => by
   rw [List.length_take] at hj
   rw [zCI, if_pos (ltP (show j < i by omega)), show t.L[j]? = some y by rw [← hy, List.getElem?_take, if_pos (by omega)]]
   simp only [zAg]
   cases eqS x.S y.S <;> rfl) (fun k j hj => by
   rw [List.length_take] at hj
   rw [zCI, if_neg (ltN (by omega))]) 0 fuel (by omega) (by rw [List.length_take]; omega), List.drop_zero]
  unfold difP
  cases eqI x.Op 45
  ·rfl
  ·cases (t.L.take i).all (fun y => !eqS x.S y.S) <;> rfl) (fun k i hi => by
  rw [zBm, if_neg (ltN (by omega))]) t.L.length 0 fuel (by omega) hf, List.drop_zero, List.take_zero]
 have : ∀ (l s : List zJC), allP (fun s x => eqI x.Op 45 && difP s x) s l = (l.all (fun x => eqI x.Op 45) && allP difP s l) := by
  intro l
  induction l with
  | nil => exact fun _ => rfl
  | cons x r ih =>
   intro s
   rw [allP, allP, List.all_cons, ih]
   cases eqI x.Op 45
   ·rfl
   ·cases difP s x <;> simp
 rw [this]; rfl
theorem funs_M (t : zJC) {fuel : Nat} (hf : t.Names.length + 40 ≤ fuel) : zBn fuel t fuel 0 = some (if t.Names.all loS = true then .inr () else .inl false) := by
 rw [loopQ t.Names loS (zBn fuel t) false (fun k i x hx hi => by
  rw [zBn, if_pos (ltP hi), hx]
  simp only [zAg, Lower_M x (show 40 ≤ fuel by omega)]
  cases loS x <;> rfl) (fun k i hi => by
  rw [zBn, if_neg (ltN (by omega))]) 0 fuel (by omega) (by omega), List.drop_zero]
theorem rules_M (t : zJC) (h : 1 ≤ t.L.length) {fuel : Nat} (hf : t.L.length + 1 ≤ fuel) : zB0 t fuel 1 = some (if (t.L.drop 1).all (fun x => eqI x.Op 30) = true then .inr () else .inl false) := by
 rw [loopQ t.L (fun x => eqI x.Op 30) (zB0 t) false (fun k i x hx hi => by
  rw [zB0, if_pos (ltP hi), hx]
  simp only [zAg]
  cases eqI x.Op 30 <;> rfl) (fun k i hi => by
  rw [zB0, if_neg (ltN (by omega))]) 1 fuel h hf]
theorem lets_M (t : zJC) (h : 1 ≤ t.L.length) (hB : t.L.length < 1000000000) {fuel : Nat} (hf : t.L.length + 1 ≤ fuel) : zBz t fuel 0 = some (if (t.L.take (t.L.length - 1)).all (fun x => eqI x.Op 41 || (eqI x.Op 42 || eqI x.Op 50)) = true then .inr () else .inl false) := by
 have e : (t.L.length : Int) - 1 = ((t.L.length - 1 : Nat) : Int) := by omega
 have hl : (t.L.take (t.L.length - 1)).length = t.L.length - 1 := by rw [List.length_take]; omega
 rw [loopQ (t.L.take (t.L.length - 1)) (fun x => eqI x.Op 41 || (eqI x.Op 42 || eqI x.Op 50)) (zBz t) false (fun k i x hx hi => by
  rw [hl] at hi
  have hx' : t.L[i]? = some x := by rw [← hx, List.getElem?_take, if_pos hi]
  rw [zBz, chk64 (by omega) (by omega), e]
  simp only [zAg]
  rw [if_pos (ltP hi), hx']
  simp only [zAg]
  cases eqI x.Op 41 <;> cases eqI x.Op 42 <;> cases eqI x.Op 50 <;> rfl) (fun k i hi => by
  rw [hl] at hi
  rw [zBz, chk64 (by omega) (by omega), e]
  simp only [zAg]
  rw [if_neg (ltN (by omega))]) 0 fuel (by omega) (by omega), List.drop_zero]
def fe (t : zJC) (n s m : Bool) : Bool := (n || eqI t.N 0) && ((s || eqS t.S []) && (m || eqI (t.Names.length : Int) 0))
def nd (t : zJC) (w : Bool) : Bool × Bool :=
 match t.Op with
 | 1 => (fe t false true false && vaS t.S, eqI (t.L.length : Int) 0)
 | 2 => (fe t false false true && pth t.Names true, (leI 0 (t.L.length : Int) && (leI (t.L.length : Int) 4 && t.L.all (fun x => bl 1 x.Op))))
 | 3 => (fe t false false false && true, kids [1, 1] t.L)
 | 4 => (fe t false false false && true, (leI 2 (t.L.length : Int) && (leI (t.L.length : Int) 9 && t.L.all (fun x => bl 1 x.Op))))
 | 5 => (fe t false false true && pth t.Names false, eqI (t.L.length : Int) 0)
 | 11 => (fe t false false false && true, eqI (t.L.length : Int) 0)
 | 12 => (fe t false true false && loS t.S, eqI (t.L.length : Int) 0)
 | 13 => (fe t true false false && (leI (-4503599627370496) t.N && leI t.N 4503599627370496), eqI (t.L.length : Int) 0)
 | 14 => (fe t false false true && pth t.Names false, (leI 0 (t.L.length : Int) && (leI (t.L.length : Int) 1 && t.L.all (fun x => bl 2 x.Op))))
 | 15 => (fe t false false false && true, (!eqI (t.L.length : Int) 1 && (leI 0 (t.L.length : Int) && (leI (t.L.length : Int) 9 && t.L.all (fun x => bl 2 x.Op)))))
 | 21 => (fe t true false false && (leI 0 t.N && leI t.N 4503599627370496), eqI (t.L.length : Int) 0)
 | 22 => (fe t false true false && plS t.S, eqI (t.L.length : Int) 0)
 | 23 => (fe t false false true && pth t.Names true, eqI (t.L.length : Int) 0)
 | 24 => (fe t false false true && pth t.Names false, eqI (t.L.length : Int) 0)
 | 25 => (fe t false true false && (eqS t.S [] || loS t.S), kids [3] t.L)
 | 26 => (fe t false false false && true, kids [3, 3] t.L)
 | 27 => (fe t false false false && true, (!eqI (t.L.length : Int) 1 && (leI 0 (t.L.length : Int) && (leI (t.L.length : Int) 9 && t.L.all (fun x => bl 3 x.Op)))))
 | 28 => (fe t false false false && true, kids [3, 3, 3] t.L)
 | 29 => (fe t false false false && true, (match t.L with | x :: y :: r => bl 3 x.Op && (y :: r).all (fun z => eqI z.Op 30) | _ => false))
 | 30 => (fe t false false false && true, kids [2, 3] t.L)
 | 31 => (fe t false false false && true, (leI 1 (t.L.length : Int) && ((t.L.drop (t.L.length - 1)).all (fun x => bl 3 x.Op) && (t.L.take (t.L.length - 1)).all (fun x => eqI x.Op 41 || (eqI x.Op 42 || eqI x.Op 50)))))
 | 32 => (fe t true false false && (leI 1 t.N && leI t.N 12), (if eqI t.N 12 = true then kids [3] t.L else kids [3, 3] t.L))
 | 33 => (fe t false false false && true, kids [3, 1] t.L)
 | 34 => (fe t false false true && pth t.Names false, kids [0] t.L)
 | 41 => (fe t false true false && loS t.S, kids [3] t.L)
 | 42 => (fe t false true true && (loS t.S && (leI 1 (t.Names.length : Int) && (leI (t.Names.length : Int) 9 && t.Names.all loS))), kids [3] t.L)
 | 43 => (fe t false true true && ((if w = true then eqS t.S [] else loS t.S) && prm t.Names), kids [1] t.L)
 | 44 => (fe t false true true && (loS t.S && prm t.Names), (leI 1 (t.L.length : Int) && (t.L.all (fun x => eqI x.Op 45) && dif t.L)))
 | 45 => (fe t false true false && nm caB t.S, (leI 0 (t.L.length : Int) && (leI (t.L.length : Int) 1 && t.L.all (fun x => bl 1 x.Op))))
 | 46 => (fe t false true false && nm caB t.S, kids [7] t.L)
 | 47 => (fe t false true false && nm caB t.S, kids [6] t.L)
 | 48 => (fe t false false true && pth t.Names false, eqI (t.L.length : Int) 0)
 | 49 => (fe t false false true && pth t.Names false, eqI (t.L.length : Int) 0)
 | 50 => (fe t false true false && nm caB t.S, kids [3, 0] t.L)
 | 61 => (fe t false true false && loS t.S, kids [1] t.L)
 | 62 => (fe t false true true && (loS t.S && prm t.Names), eqI (t.L.length : Int) 0)
 | 63 => (fe t false true false && nm caB t.S, kids [6] t.L)
 | 64 => (fe t false true false && nm caB t.S, kids [6] t.L)
 | 65 => (fe t false false false && true, kids [6] t.L)
 | 66 => (fe t false false true && pth t.Names true, (match t.L with | [x] => eqI x.Op 2 && eqI (x.L.length : Int) 0 | _ => false))
 | 71 => (fe t false false false && true, t.L.all (fun x => bl 5 x.Op))
 | 72 => (fe t false false true && pth t.Names false, eqI (t.L.length : Int) 0)
 | 73 => (fe t true true false && (nm caB t.S && (eqI t.N 0 || eqI t.N 1)), kids [6, 6] t.L)
 | 74 => (fe t false false true && pth t.Names true, (match t.L with | [x, y] => bl 6 x.Op && eqI y.Op 43 | _ => false))
 | 81 => (fe t false false false && true, t.L.all (fun x => bl 4 x.Op))
 | 82 => (fe t false false true && pth t.Names false, eqI (t.L.length : Int) 0)
 | 83 => (fe t true true false && (nm caB t.S && (eqI t.N 0 || eqI t.N 1)), kids [6, 7] t.L)
 | 84 => (fe t false false false && true, kids [7, 7] t.L)
 | 85 => (fe t false false false && true, kids [7, 6] t.L)
 | 86 => (fe t false false false && true, kids [7, 6] t.L)
 | 87 => (fe t false false false && true, (leI 1 (t.L.length : Int) && ((t.L.drop (t.L.length - 1)).all (fun x => bl 7 x.Op) && (t.L.take (t.L.length - 1)).all (fun x => bl 4 x.Op))))
 | 88 => (fe t false false false && true, kids [3, 0] t.L)
 | _ => (fe t false false false, false)
def xw (t : zJC) : Bool := if eqI t.Op 74 = true then (match t.L with | [x, y] => eqS y.S [] | _ => true) else true
theorem zCn (t : zJC) (n s m : Bool) : (if !n then (!(eqI t.N 0)) || (if !s then (!(eqS t.S ([] : List UInt8))) || ((!m) && (ltI 0 (t.Names.length : Int))) else (!m) && (ltI 0 (t.Names.length : Int))) else if !s then (!(eqS t.S ([] : List UInt8))) || ((!m) && (ltI 0 (t.Names.length : Int))) else (!m) && (ltI 0 (t.Names.length : Int))) = !fe t n s m := by
 have h : ltI 0 (t.Names.length : Int) = !eqI (t.Names.length : Int) 0 := by
  unfold ltI eqI
  by_cases h : (t.Names.length : Int) = 0
  ·rw [decide_eq_true h, decide_eq_false (by omega)]; rfl
  ·rw [decide_eq_false h, decide_eq_true (by omega)]; rfl
 rw [h]
 unfold fe
 generalize eqI t.N 0 = a
 generalize eqS t.S [] = b
 generalize eqI (t.Names.length : Int) 0 = c
 cases n <;> cases s <;> cases m <;> cases a <;> cases b <;> cases c <;> rfl
theorem bare_M (t : zJC) (n s m : Bool) : zAb t n s m = some (fe t n s m) := by
 rw [zAb]
 unfold fe
 cases n <;> cases s <;> cases m <;> rfl
theorem ops_or (op : Int) (P : Prop) (h1 : op = 1 → P) (h2 : op = 2 → P) (h3 : op = 3 → P) (h4 : op = 4 → P) (h5 : op = 5 → P) (h11 : op = 11 → P) (h12 : op = 12 → P) (h13 : op = 13 → P) (h14 : op = 14 → P) (h15 : op = 15 → P) (h21 : op = 21 → P) (h22 : op = 22 → P) (h23 : op = 23 → P) (h24 : op = 24 → P) (h25 : op = 25 → P) (h26 : op = 26 → P) (h27 : op = 27 → P) (h28 : op = 28 → P) (h29 : op = 29 → P) (h30 : op = 30 → P) (h31 : op = 31 → P) (h32 : op = 32 → P) (h33 : op = 33 → P) (h34 : op = 34 → P) (h41 : op = 41 → P) (h42 : op = 42 → P) (h43 : op = 43 → P) (h44 : op = 44 → P) (h45 : op = 45 → P) (h46 : op = 46 → P) (h47 : op = 47 → P) (h48 : op = 48 → P) (h49 : op = 49 → P) (h50 : op = 50 → P) (h61 : op = 61 → P) (h62 : op = 62 → P) (h63 : op = 63 → P) (h64 : op = 64 → P) (h65 : op = 65 → P) (h66 : op = 66 → P) (h71 : op = 71 → P) (h72 : op = 72 → P) (h73 : op = 73 → P) (h74 : op = 74 → P) (h81 : op = 81 → P) (h82 : op = 82 → P) (h83 : op = 83 → P) (h84 : op = 84 → P) (h85 : op = 85 → P) (h86 : op = 86 → P) (h87 : op = 87 → P) (h88 : op = 88 → P) (h0 : op ≠ 1 → op ≠ 2 → op ≠ 3 → op ≠ 4 → op ≠ 5 → op ≠ 11 → op ≠ 12 → op ≠ 13 → op ≠ 14 → op ≠ 15 → op ≠ 21 → op ≠ 22 → op ≠ 23 → op ≠ 24 → op ≠ 25 → op ≠ 26 → op ≠ 27 → op ≠ 28 → op ≠ 29 → op ≠ 30 → op ≠ 31 → op ≠ 32 → op ≠ 33 → op ≠ 34 → op ≠ 41 → op ≠ 42 → op ≠ 43 → op ≠ 44 → op ≠ 45 → op ≠ 46 → op ≠ 47 → op ≠ 48 → op ≠ 49 → op ≠ 50 → op ≠ 61 → op ≠ 62 → op ≠ 63 → op ≠ 64 → op ≠ 65 → op ≠ 66 → op ≠ 71 → op ≠ 72 → op ≠ 73 → op ≠ 74 → op ≠ 81 → op ≠ 82 → op ≠ 83 → op ≠ 84 → op ≠ 85 → op ≠ 86 → op ≠ 87 → op ≠ 88 → P) : P := by
 by_cases e1 : op = 1
 ·exact h1 e1
 by_cases e2 : op = 2
 ·exact h2 e2
 by_cases e3 : op = 3
 ·exact h3 e3
 by_cases e4 : op = 4
 ·exact h4 e4
 by_cases e5 : op = 5
 ·exact h5 e5
 by_cases e11 : op = 11
 ·exact h11 e11
 by_cases e12 : op = 12
 ·exact h12 e12
 by_cases e13 : op = 13
 ·exact h13 e13
 by_cases e14 : op = 14
 ·exact h14 e14
 by_cases e15 : op = 15
 ·exact h15 e15
 by_cases e21 : op = 21
 ·exact h21 e21
 by_cases e22 : op = 22
 ·exact h22 e22
 by_cases e23 : op = 23
 ·exact h23 e23
 by_cases e24 : op = 24
 ·exact h24 e24
 by_cases e25 : op = 25
 ·exact h25 e25
 by_cases e26 : op = 26
 ·exact h26 e26
 by_cases e27 : op = 27
 ·exact h27 e27
 by_cases e28 : op = 28
 ·exact h28 e28
 by_cases e29 : op = 29
 ·exact h29 e29
 by_cases e30 : op = 30
 ·exact h30 e30
 by_cases e31 : op = 31
 ·exact h31 e31
 by_cases e32 : op = 32
 ·exact h32 e32
 by_cases e33 : op = 33
 ·exact h33 e33
 by_cases e34 : op = 34
 ·exact h34 e34
 by_cases e41 : op = 41
 ·exact h41 e41
 by_cases e42 : op = 42
 ·exact h42 e42
 by_cases e43 : op = 43
 ·exact h43 e43
 by_cases e44 : op = 44
 ·exact h44 e44
 by_cases e45 : op = 45
 ·exact h45 e45
 by_cases e46 : op = 46
 ·exact h46 e46
 by_cases e47 : op = 47
 ·exact h47 e47
 by_cases e48 : op = 48
 ·exact h48 e48
 by_cases e49 : op = 49
 ·exact h49 e49
 by_cases e50 : op = 50
 ·exact h50 e50
 by_cases e61 : op = 61
 ·exact h61 e61
 by_cases e62 : op = 62
 ·exact h62 e62
 by_cases e63 : op = 63
 ·exact h63 e63
 by_cases e64 : op = 64
 ·exact h64 e64
 by_cases e65 : op = 65
 ·exact h65 e65
 by_cases e66 : op = 66
 ·exact h66 e66
 by_cases e71 : op = 71
 ·exact h71 e71
 by_cases e72 : op = 72
 ·exact h72 e72
 by_cases e73 : op = 73
 ·exact h73 e73
 by_cases e74 : op = 74
 ·exact h74 e74
 by_cases e81 : op = 81
 ·exact h81 e81
 by_cases e82 : op = 82
 ·exact h82 e82
 by_cases e83 : op = 83
 ·exact h83 e83
 by_cases e84 : op = 84
 ·exact h84 e84
 by_cases e85 : op = 85
 ·exact h85 e85
 by_cases e86 : op = 86
 ·exact h86 e86
 by_cases e87 : op = 87
 ·exact h87 e87
 by_cases e88 : op = 88
 ·exact h88 e88
 exact h0 e1 e2 e3 e4 e5 e11 e12 e13 e14 e15 e21 e22 e23 e24 e25 e26 e27 e28 e29 e30 e31 e32 e33 e34 e41 e42 e43 e44 e45 e46 e47 e48 e49 e50 e61 e62 e63 e64 e65 e66 e71 e72 e73 e74 e81 e82 e83 e84 e85 e86 e87 e88
structure Enough (fuel : Nat) (t : zJC) : Prop where
 a : t.S.length + 60 ≤ fuel
 b : t.Names.length + 60 ≤ fuel
 c : t.L.length + 60 ≤ fuel
 d : t.L.length < 1000000000
theorem Enough.s {f : Nat} {t : zJC} (h : Enough f t) : 50 ≤ f := by have := h.a; omega
theorem eqD (a b : Int) : eqI a b = decide (a = b) := Eq.trans (Bool.and_true _).symm (Bool.and_true _)
theorem jfS (c x : Bool) {i : Decidable (c = true)} : (@ite _ (c = true) i (some x) (some false)) = some (c && x) := by cases c <;> simp
theorem jfT (c x : Bool) {i : Decidable (c = true)} : (@ite _ (c = true) i (some true) (some x)) = some (c || x) := by cases c <;> simp
theorem jfF (c x : Bool) {i : Decidable (c = true)} : (@ite _ (c = true) i (some false) (some x)) = some (!c && x) := by cases c <;> simp
theorem jfE (c : Bool) (x : Option Bool) {i : Decidable (c = true)} : Sum.elim some (fun (_ : Unit) => x) (@ite _ (c = true) i (Sum.inr ()) (Sum.inl false)) = @ite _ (c = true) i x (some false) := by cases c <;> simp
theorem ltNot (a b : Int) : ltI a b = !leI b a := by
 unfold ltI leI
 by_cases h : a < b
 ·rw [decide_eq_true h, decide_eq_false (by omega)]; rfl
 ·rw [decide_eq_false h, decide_eq_true (by omega)]; rfl
theorem le0 (n : Nat) : leI 0 (n : Int) = true := decide_eq_true (by omega)
theorem all0 (t : zJC) (c : Int) {fuel : Nat} (hf : Enough fuel t) : zB3 fuel t 0 (t.L.length : Int) c = some (t.L.all (fun x => bl c x.Op)) := by
 have := all_M t 0 t.L.length c (by omega) (by omega) hf.d (fuel := fuel) (by have := hf.c; omega)
 rw [List.take_of_length_le (by omega), List.drop_zero] at this
 exact this
theorem all1 (t : zJC) (c : Int) (x : zJC) (r : List zJC) (hL : t.L = x :: r) {fuel : Nat} (hf : Enough fuel t) : zB3 fuel t 0 1 c = some (bl c x.Op) := by
 have := all_M t 0 1 c (by rw [hL]; simp) (by omega) hf.d (fuel := fuel) (by have := hf.c; omega)
 rw [hL] at this
 simpa using this
theorem len_le (l : List zJC) : leI (l.length : Int) (l.length : Int) = true := decide_eq_true (by omega)
theorem mem1 (k : Int) (x : zJC) : ([k].any (fun w => decide (w = x.Op))) = eqI x.Op k := by
 unfold eqI
 rw [List.any_cons, List.any_nil, Bool.or_false]
 exact decide_eq_decide.2 ⟨fun h => h.symm, fun h => h.symm⟩
theorem mem3 (a b c : Int) (x : zJC) : ([a, b, c].any (fun w => decide (w = x.Op))) = (eqI x.Op a || (eqI x.Op b || eqI x.Op c)) := by
 rw [← mem1, ← mem1, ← mem1]
 simp only [List.any_cons, List.any_nil, Bool.or_false]
theorem ownE {fuel : Nat} {t : zJC} (hf : Enough fuel t) : zBI fuel t.Names = some (t.Names.any (fun x => !loS x)) := own1_M t.Names (by have := hf.a; omega) (by have := hf.b; omega)
theorem onlyE {fuel : Nat} {t : zJC} (hf : Enough fuel t) (l : List zJC) (hl : l.length ≤ t.L.length) (ops : List Int) (ho : ops.length ≤ 20) : zCQ fuel l ops = some (l.all (fun x => ops.any (fun w => decide (w = x.Op)))) := only_M l ops (by have := hf.c; omega)
theorem sub1 (x : zJC) (r : List zJC) : subC (x :: r) 1 ((x :: r).length : Int) = some r := by
 have := subD (x :: r) 1 (by simp)
 simpa using this
theorem n0 : decide ((([] : List zJC).length : Int) = 1) = false := rfl
theorem n1 (x : zJC) : decide ((([x] : List zJC).length : Int) = 1) = true := rfl
theorem n2 (x y : zJC) (r : List zJC) : decide (((x :: y :: r).length : Int) = 1) = false := decide_eq_false (by simp; omega)
theorem m0 : decide ((([] : List zJC).length : Int) = 2) = false := rfl
theorem m1 (x : zJC) : decide ((([x] : List zJC).length : Int) = 2) = false := rfl
theorem m2 (x y : zJC) : decide ((([x, y] : List zJC).length : Int) = 2) = true := rfl
theorem m3 (x y z : zJC) (r : List zJC) : decide (((x :: y :: z :: r).length : Int) = 2) = false := decide_eq_false (by simp; omega)
theorem bx0 (op : Int) : bx 0 op = decide (op = 72) := rfl
theorem bx3 (op : Int) : bx 3 op = bl 3 op := rfl
theorem last_of (l : List zJC) (h : 1 ≤ l.length) : ∃ y, l[l.length - 1]? = some y ∧ l.drop (l.length - 1) = [y] ∧ l = l.take (l.length - 1) ++ [y] := by
 have hx : l[l.length - 1]? = some l[l.length - 1] := List.getElem?_eq_getElem (by omega)
 have hd : l.drop (l.length - 1) = [l[l.length - 1]] := by rw [List.drop_eq_getElem_cons (by omega), List.drop_eq_nil_of_le (by omega)]
 refine ⟨_, hx, hd, ?_⟩
 rw [← hd]
 exact (List.take_append_drop _ _).symm
theorem hLo {f : Nat} {t : zJC} (hf : Enough f t) : zBd f t.S = some (loS t.S) := zI6 t.S (by have := hf.a; omega)
theorem hLr {f : Nat} {t : zJC} (hf : Enough f t) : zB9 f t.S = some (loS t.S) := Lower_M t.S (by have := hf.a; omega)
theorem hUp {f : Nat} {t : zJC} (hf : Enough f t) : zBP f t.S = some (nm caB t.S) := zG1 t.S (by have := hf.a; omega)
theorem hUr {f : Nat} {t : zJC} (hf : Enough f t) : zBp f t.S = some (nm caB t.S) := Upper_M t.S (by have := hf.a; omega)
theorem hVa {f : Nat} {t : zJC} (hf : Enough f t) : zDs f t.S = some (vaS t.S) := IsVar_M t.S (by have := hf.a; omega)
theorem hVr {f : Nat} {t : zJC} (hf : Enough f t) : zDI f t.S = some (vaS t.S) := Variable_M t.S (by have := hf.a; omega)
theorem hPa {f : Nat} {t : zJC} (hf : Enough f t) (b : Bool) : zBo f t.Names b = some (pth t.Names b) := path_M t.Names b hf.s
theorem hPr {f : Nat} {t : zJC} (hf : Enough f t) (b : Bool) : zCF f t.Names b = some (pth t.Names b) := rpath_M t.Names b hf.s
theorem hQa {f : Nat} {t : zJC} (hf : Enough f t) : zCg f t.Names = some (prm t.Names) := params_M t.Names (by have := hf.b; omega)
theorem hQr {f : Nat} {t : zJC} (hf : Enough f t) : zC4 f t.Names = some (prm t.Names) := rparams_M t.Names (by have := hf.b; omega)
theorem hTa {f : Nat} {t : zJC} (hf : Enough f t) : zDx f t.S = some (plS t.S) := plain_M t.S (by have := hf.a; omega)
theorem hTr {f : Nat} {t : zJC} (hf : Enough f t) : zEr f t.S = some (plS t.S) := text_M t.S (by have := hf.a; omega)
theorem hFr {f : Nat} {t : zJC} (hf : Enough f t) : zBn f t f 0 = some (if t.Names.all loS = true then .inr () else .inl false) := funs_M t (by have := hf.b; omega)
theorem hCr {f : Nat} {t : zJC} (hf : Enough f t) : zBm f t f 0 = some (if (t.L.all (fun x => eqI x.Op 45) && dif t.L) = true then .inr () else .inl false) := ctors_M t (by have := hf.c; omega)
theorem hDa {f : Nat} {t : zJC} (hf : Enough f t) : zDf f t.L = some (dif t.L) := differ_M t.L (by have := hf.c; omega)
theorem hEr {f : Nat} {t : zJC} (hf : Enough f t) (cs : List Int) (h : decide (cs.length ≤ 5) = true) : zAp f t cs = some (kids cs t.L) := exact_M t cs (by have := of_decide_eq_true h; have := hf.a; omega)
theorem hEa {f : Nat} {t : zJC} (hf : Enough f t) (cs : List Int) (h : decide (cs.length ≤ 5 ∧ ∀ c ∈ cs, c ≠ 0) = true) : zAu f t cs = some (kids cs t.L) := parts_M t cs (of_decide_eq_true h).2 (by have := (of_decide_eq_true h).1; have := hf.a; omega)
theorem hMa {f : Nat} {t : zJC} (hf : Enough f t) (c : Int) (h : decide (c ≠ 0) = true) (a b : Int) : zCG f t.L c a b = some (leI a (t.L.length : Int) && (leI (t.L.length : Int) b && t.L.all (fun x => bl c x.Op))) := many_M t.L c a b (of_decide_eq_true h) (by have := hf.c; omega)
theorem BB : (∀ a b : Int, eqI a b = decide (a = b)) ∧ (!true) = false ∧ (!false) = true ∧ (∀ b : Bool, (!!b) = b) ∧ (∀ b : Bool, (false && b) = false) ∧ (∀ b : Bool, (true && b) = b) ∧ (∀ b : Bool, (b && true) = b) ∧ (∀ b : Bool, (b && false) = false) ∧ (∀ b : Bool, (b || false) = b) ∧ (∀ b : Bool, (b || true) = true) ∧ (∀ b : Bool, (false || b) = b) ∧ (∀ b : Bool, (true || b) = true) ∧
  (∀ (c x : Bool) {i : Decidable (c = true)}, (@ite _ (c = true) i (some x) (some false)) = some (c && x)) ∧ (∀ (c x : Bool) {i : Decidable (c = true)}, (@ite _ (c = true) i (some true) (some x)) = some (c || x)) ∧ (∀ (c x : Bool) {i : Decidable (c = true)}, (@ite _ (c = true) i (some false) (some x)) = some (!c && x)) ∧
  (∀ (c : Bool) (x : Option Bool) {i : Decidable (c = true)}, Sum.elim some (fun (_ : Unit) => x) (@ite _ (c = true) i (Sum.inr ()) (Sum.inl false)) = @ite _ (c = true) i x (some false)) ∧ (∀ a b : Int, ltI a b = !leI b a) ∧ (∀ a b : Bool, (!(a || b)) = (!a && !b)) ∧ (∀ a b c : Bool, ((a && b) && c) = (a && (b && c))) ∧ (∀ n : Nat, leI 0 (n : Int) = true) ∧
  (∀ (t : zJC) (n s m : Bool), zAb t n s m = some (fe t n s m)) ∧ (∀ op cat : Int, zDA op cat = some (bl cat op)) ∧
  (∀ i : Decidable False, @decide False i = false) ∧ (∀ i : Decidable True, @decide True i = true) ∧ ((false = true) = False) ∧ (∀ (α : Type) (i : Decidable False) (a b : α), @ite α False i a b = b) ∧ (∀ (α : Type) (i : Decidable True) (a b : α), @ite α True i a b = a) ∧ (∀ (α β : Type) (a : α) (f : α → Option β), (some a).bind f = f a) :=
 ⟨eqD, rfl, rfl, Bool.not_not, Bool.false_and, Bool.true_and, Bool.and_true, Bool.and_false, Bool.or_false, Bool.or_true, Bool.false_or, Bool.true_or, jfS, jfT, jfF, jfE, ltNot, Bool.not_or, Bool.and_assoc, le0, bare_M, zHh, fun i => by simp, fun i => by simp, by simp, fun _ _ _ _ => by simp, fun _ _ _ _ => by simp, fun _ _ _ _ => rfl⟩
theorem BA : (∀ a b : Int, eqI a b = decide (a = b)) ∧ (∀ b : Bool, (false && b) = false) ∧ (∀ b : Bool, (true && b) = b) ∧ (∀ b : Bool, (b && true) = b) ∧ (∀ b : Bool, (b || false) = b) ∧ (∀ b : Bool, (b || true) = true) ∧ (∀ i : Decidable False, @decide False i = false) ∧ (∀ i : Decidable True, @decide True i = true) ∧ ((false = true) = False) ∧ (∀ (α : Type) (i : Decidable False) (a b : α), @ite α False i a b = b) ∧ (∀ (α : Type) (i : Decidable True) (a b : α), @ite α True i a b = a) :=
 ⟨eqD, Bool.false_and, Bool.true_and, Bool.and_true, Bool.or_false, Bool.or_true, fun i => by simp, fun i => by simp, by simp, fun _ _ _ _ => by simp, fun _ _ _ _ => by simp⟩
def zCo (fuel : Nat) (t : zJC) (w : Bool) : Prop := zAZ fuel t w = some (nd t w).1 ∧ zAV fuel t = some (nd t w).2 ∧ zAa fuel t w = some ((nd t w).1 && ((nd t w).2 && xw t))
theorem LL : (decide ((([] : List zJC).length : Int) = 1) = false) ∧ (∀ x : zJC, decide ((([x] : List zJC).length : Int) = 1) = true) ∧ (∀ (x y : zJC) (r : List zJC), decide (((x :: y :: r).length : Int) = 1) = false) ∧ (decide ((([] : List zJC).length : Int) = 2) = false) ∧ (∀ x : zJC, decide ((([x] : List zJC).length : Int) = 2) = false) ∧ (∀ x y : zJC, decide ((([x, y] : List zJC).length : Int) = 2) = true) ∧ (∀ (x y z : zJC) (r : List zJC), decide (((x :: y :: z :: r).length : Int) = 2) = false) ∧
  (∀ op : Int, bx 0 op = decide (op = 72)) ∧ (∀ (x : zJC) (r : List zJC), subC (x :: r) 1 ((x :: r).length : Int) = some r) ∧ (∀ (k : Int) (x : zJC), ([k].any (fun w => decide (w = x.Op))) = eqI x.Op k) := ⟨n0, n1, n2, m0, m1, m2, m3, bx0, sub1, mem1⟩
theorem nk1 (t : zJC) (h : t.Op = 1) (w : Bool) {fuel : Nat} (hf : Enough fuel t) : zCo fuel t w := by
 refine ⟨?_, ?_, ?_⟩
 ·rw [zAZ, nd, h, show zAS 1 = some (zJA.mk false true false) from rfl, zAg, zCn t false true false]
  simp only [BB, Int.reduceEq, hVa hf]
 ·rw [zAV, nd, h]
  simp only [BB, Int.reduceEq]
 ·rw [zAa, nd, xw, h, show zAQ 1 = some 1 from rfl, zAg, zCr]
  simp only [h, BB, Int.reduceEq, hVr hf]
theorem nk2 (t : zJC) (h : t.Op = 2) (w : Bool) {fuel : Nat} (hf : Enough fuel t) : zCo fuel t w := by
 refine ⟨?_, ?_, ?_⟩
 ·rw [zAZ, nd, h, show zAS 2 = some (zJA.mk false false true) from rfl, zAg, zCn t false false true]
  simp only [BB, Int.reduceEq, hPa hf]
 ·rw [zAV, nd, h]
  simp only [BB, Int.reduceEq, hMa hf 1 rfl]
 ·rw [zAa, nd, xw, h, show zAQ 2 = some 1 from rfl, zAg, zCr]
  simp only [h, BB, Int.reduceEq, hPr hf, all0 t 1 hf]
theorem nk3 (t : zJC) (h : t.Op = 3) (w : Bool) {fuel : Nat} (hf : Enough fuel t) : zCo fuel t w := by
 refine ⟨?_, ?_, ?_⟩
 ·rw [zAZ, nd, h, show zAS 3 = some (zJA.mk false false false) from rfl, zAg, zCn t false false false]
  simp only [BB, Int.reduceEq]
 ·rw [zAV, nd, h]
  simp only [BB, Int.reduceEq, hEa hf [1, 1] rfl]
 ·rw [zAa, nd, xw, h, show zAQ 3 = some 1 from rfl, zAg, zCr]
  simp only [h, BB, Int.reduceEq, hEr hf [1, 1] rfl]
theorem nk4 (t : zJC) (h : t.Op = 4) (w : Bool) {fuel : Nat} (hf : Enough fuel t) : zCo fuel t w := by
 refine ⟨?_, ?_, ?_⟩
 ·rw [zAZ, nd, h, show zAS 4 = some (zJA.mk false false false) from rfl, zAg, zCn t false false false]
  simp only [BB, Int.reduceEq]
 ·rw [zAV, nd, h]
  simp only [BB, Int.reduceEq, hMa hf 1 rfl]
 ·rw [zAa, nd, xw, h, show zAQ 4 = some 1 from rfl, zAg, zCr]
  simp only [h, BB, Int.reduceEq, all0 t 1 hf]
theorem nk5 (t : zJC) (h : t.Op = 5) (w : Bool) {fuel : Nat} (hf : Enough fuel t) : zCo fuel t w := by
 refine ⟨?_, ?_, ?_⟩
 ·rw [zAZ, nd, h, show zAS 5 = some (zJA.mk false false true) from rfl, zAg, zCn t false false true]
  simp only [BB, Int.reduceEq, hPa hf]
 ·rw [zAV, nd, h]
  simp only [BB, Int.reduceEq]
 ·rw [zAa, nd, xw, h, show zAQ 5 = some 1 from rfl, zAg, zCr]
  simp only [h, BB, Int.reduceEq, hPr hf]
theorem nk11 (t : zJC) (h : t.Op = 11) (w : Bool) {fuel : Nat} (hf : Enough fuel t) : zCo fuel t w := by
 refine ⟨?_, ?_, ?_⟩
 ·rw [zAZ, nd, h, show zAS 11 = some (zJA.mk false false false) from rfl, zAg, zCn t false false false]
  simp only [BB, Int.reduceEq]
 ·rw [zAV, nd, h]
  simp only [BB, Int.reduceEq]
 ·rw [zAa, nd, xw, h, show zAQ 11 = some 2 from rfl, zAg, zC8]
  simp only [h, BB, Int.reduceEq]
theorem nk12 (t : zJC) (h : t.Op = 12) (w : Bool) {fuel : Nat} (hf : Enough fuel t) : zCo fuel t w := by
 refine ⟨?_, ?_, ?_⟩
 ·rw [zAZ, nd, h, show zAS 12 = some (zJA.mk false true false) from rfl, zAg, zCn t false true false]
  simp only [BB, Int.reduceEq, hLo hf]
 ·rw [zAV, nd, h]
  simp only [BB, Int.reduceEq]
 ·rw [zAa, nd, xw, h, show zAQ 12 = some 2 from rfl, zAg, zC8]
  simp only [h, BB, Int.reduceEq, hLr hf]
theorem nk13 (t : zJC) (h : t.Op = 13) (w : Bool) {fuel : Nat} (hf : Enough fuel t) : zCo fuel t w := by
 refine ⟨?_, ?_, ?_⟩
 ·rw [zAZ, nd, h, show zAS 13 = some (zJA.mk true false false) from rfl, zAg, zCn t true false false]
  simp only [BB, Int.reduceEq]
 ·rw [zAV, nd, h]
  simp only [BB, Int.reduceEq]
 ·rw [zAa, nd, xw, h, show zAQ 13 = some 2 from rfl, zAg, zC8]
  simp only [h, BB, Int.reduceEq]
theorem nk14 (t : zJC) (h : t.Op = 14) (w : Bool) {fuel : Nat} (hf : Enough fuel t) : zCo fuel t w := by
 refine ⟨?_, ?_, ?_⟩
 ·rw [zAZ, nd, h, show zAS 14 = some (zJA.mk false false true) from rfl, zAg, zCn t false false true]
  simp only [BB, Int.reduceEq, hPa hf]
 ·rw [zAV, nd, h]
  simp only [BB, Int.reduceEq, hMa hf 2 rfl]
 ·rw [zAa, nd, xw, h, show zAQ 14 = some 2 from rfl, zAg, zC8]
  simp only [h, BB, Int.reduceEq, hPr hf, all0 t 2 hf]
theorem nk15 (t : zJC) (h : t.Op = 15) (w : Bool) {fuel : Nat} (hf : Enough fuel t) : zCo fuel t w := by
 refine ⟨?_, ?_, ?_⟩
 ·rw [zAZ, nd, h, show zAS 15 = some (zJA.mk false false false) from rfl, zAg, zCn t false false false]
  simp only [BB, Int.reduceEq]
 ·rw [zAV, nd, h]
  simp only [BB, Int.reduceEq, hMa hf 2 rfl]
 ·rw [zAa, nd, xw, h, show zAQ 15 = some 2 from rfl, zAg, zC8]
  simp only [h, BB, Int.reduceEq, all0 t 2 hf]
theorem nk21 (t : zJC) (h : t.Op = 21) (w : Bool) {fuel : Nat} (hf : Enough fuel t) : zCo fuel t w := by
 refine ⟨?_, ?_, ?_⟩
 ·rw [zAZ, nd, h, show zAS 21 = some (zJA.mk true false false) from rfl, zAg, zCn t true false false]
  simp only [BB, Int.reduceEq]
 ·rw [zAV, nd, h]
  simp only [BB, Int.reduceEq]
 ·rw [zAa, nd, xw, h, show zAQ 21 = some 3 from rfl, zAg, zBH]
  simp only [h, BB, Int.reduceEq]
theorem nk22 (t : zJC) (h : t.Op = 22) (w : Bool) {fuel : Nat} (hf : Enough fuel t) : zCo fuel t w := by
 refine ⟨?_, ?_, ?_⟩
 ·rw [zAZ, nd, h, show zAS 22 = some (zJA.mk false true false) from rfl, zAg, zCn t false true false]
  simp only [BB, Int.reduceEq, hTa hf]
 ·rw [zAV, nd, h]
  simp only [BB, Int.reduceEq]
 ·rw [zAa, nd, xw, h, show zAQ 22 = some 3 from rfl, zAg, zBH]
  simp only [h, BB, Int.reduceEq, hTr hf]
theorem nk23 (t : zJC) (h : t.Op = 23) (w : Bool) {fuel : Nat} (hf : Enough fuel t) : zCo fuel t w := by
 refine ⟨?_, ?_, ?_⟩
 ·rw [zAZ, nd, h, show zAS 23 = some (zJA.mk false false true) from rfl, zAg, zCn t false false true]
  simp only [BB, Int.reduceEq, hPa hf]
 ·rw [zAV, nd, h]
  simp only [BB, Int.reduceEq]
 ·rw [zAa, nd, xw, h, show zAQ 23 = some 3 from rfl, zAg, zBH]
  simp only [h, BB, Int.reduceEq, hPr hf]
theorem nk24 (t : zJC) (h : t.Op = 24) (w : Bool) {fuel : Nat} (hf : Enough fuel t) : zCo fuel t w := by
 refine ⟨?_, ?_, ?_⟩
 ·rw [zAZ, nd, h, show zAS 24 = some (zJA.mk false false true) from rfl, zAg, zCn t false false true]
  simp only [BB, Int.reduceEq, hPa hf]
 ·rw [zAV, nd, h]
  simp only [BB, Int.reduceEq]
 ·rw [zAa, nd, xw, h, show zAQ 24 = some 3 from rfl, zAg, zBH]
  simp only [h, BB, Int.reduceEq, hPr hf]
theorem nk25 (t : zJC) (h : t.Op = 25) (w : Bool) {fuel : Nat} (hf : Enough fuel t) : zCo fuel t w := by
 refine ⟨?_, ?_, ?_⟩
 ·rw [zAZ, nd, h, show zAS 25 = some (zJA.mk false true false) from rfl, zAg, zCn t false true false]
  simp only [BB, Int.reduceEq, hLo hf]
 ·rw [zAV, nd, h]
  simp only [BB, Int.reduceEq, hEa hf [3] rfl]
 ·rw [zAa, nd, xw, h, show zAQ 25 = some 3 from rfl, zAg, zBH]
  simp only [h, BB, Int.reduceEq, hLr hf, hEr hf [3] rfl]
  cases fe t false true false <;> cases eqS t.S [] <;> simp
theorem nk26 (t : zJC) (h : t.Op = 26) (w : Bool) {fuel : Nat} (hf : Enough fuel t) : zCo fuel t w := by
 refine ⟨?_, ?_, ?_⟩
 ·rw [zAZ, nd, h, show zAS 26 = some (zJA.mk false false false) from rfl, zAg, zCn t false false false]
  simp only [BB, Int.reduceEq]
 ·rw [zAV, nd, h]
  simp only [BB, Int.reduceEq, hEa hf [3, 3] rfl]
 ·rw [zAa, nd, xw, h, show zAQ 26 = some 3 from rfl, zAg, zBH]
  simp only [h, BB, Int.reduceEq, hEr hf [3, 3] rfl]
theorem nk27 (t : zJC) (h : t.Op = 27) (w : Bool) {fuel : Nat} (hf : Enough fuel t) : zCo fuel t w := by
 refine ⟨?_, ?_, ?_⟩
 ·rw [zAZ, nd, h, show zAS 27 = some (zJA.mk false false false) from rfl, zAg, zCn t false false false]
  simp only [BB, Int.reduceEq]
 ·rw [zAV, nd, h]
  simp only [BB, Int.reduceEq, hMa hf 3 rfl]
 ·rw [zAa, nd, xw, h, show zAQ 27 = some 3 from rfl, zAg, zBH]
  simp only [h, BB, Int.reduceEq, all0 t 3 hf]
theorem nk28 (t : zJC) (h : t.Op = 28) (w : Bool) {fuel : Nat} (hf : Enough fuel t) : zCo fuel t w := by
 refine ⟨?_, ?_, ?_⟩
 ·rw [zAZ, nd, h, show zAS 28 = some (zJA.mk false false false) from rfl, zAg, zCn t false false false]
  simp only [BB, Int.reduceEq]
 ·rw [zAV, nd, h]
  simp only [BB, Int.reduceEq, hEa hf [3, 3, 3] rfl]
 ·rw [zAa, nd, xw, h, show zAQ 28 = some 3 from rfl, zAg, zBH]
  simp only [h, BB, Int.reduceEq, hEr hf [3, 3, 3] rfl]
theorem nk29 (t : zJC) (h : t.Op = 29) (w : Bool) {fuel : Nat} (hf : Enough fuel t) : zCo fuel t w := by
 refine ⟨?_, ?_, ?_⟩
 ·rw [zAZ, nd, h, show zAS 29 = some (zJA.mk false false false) from rfl, zAg, zCn t false false false]
  simp only [BB, Int.reduceEq]
 ·rw [zAV, nd, h]
  simp only [BA, Int.reduceEq]
  rcases hL : t.L with _ | ⟨x, _ | ⟨y, r⟩⟩
  ·rfl
  ·rfl
  ·rw [show leI 2 ((x :: y :: r).length : Int) = true from decide_eq_true (by simp; omega)]
   simp only [BB, Int.reduceEq, List.getElem?_cons_zero, zFA 3 x (by decide), sub1, onlyE hf (y :: r) (by rw [hL]; simp) [30] (by simp), mem1]
 ·rw [zAa, nd, xw, h, show zAQ 29 = some 3 from rfl, zAg, zBH]
  simp only [h, BA, Int.reduceEq]
  rcases hL : t.L with _ | ⟨x, _ | ⟨y, r⟩⟩
  ·rw [show ltI (([] : List zJC).length : Int) 2 = true from rfl]
   simp only [h, BB, Int.reduceEq, bare_M]
  ·rw [show ltI (([x] : List zJC).length : Int) 2 = true from rfl]
   simp only [h, BB, Int.reduceEq, bare_M]
  ·rw [show ltI ((x :: y :: r).length : Int) 2 = false from decide_eq_false (by simp; omega)]
   simp only [h, BB, Int.reduceEq, bare_M, all1 t 3 x _ hL hf, rules_M t (by rw [hL]; simp) (fuel := fuel) (by have := hf.c; omega)]
   rw [hL, List.drop_one, List.tail_cons]
theorem nk30 (t : zJC) (h : t.Op = 30) (w : Bool) {fuel : Nat} (hf : Enough fuel t) : zCo fuel t w := by
 refine ⟨?_, ?_, ?_⟩
 ·rw [zAZ, nd, h, show zAS 30 = some (zJA.mk false false false) from rfl, zAg, zCn t false false false]
  simp only [BB, Int.reduceEq]
 ·rw [zAV, nd, h]
  simp only [BB, Int.reduceEq, hEa hf [2, 3] rfl]
 ·rw [zAa, nd, xw, h, show zAQ 30 = some 0 from rfl, zAg, zBH]
  simp only [h, BB, Int.reduceEq, hEr hf [2, 3] rfl]
theorem nk31 (t : zJC) (h : t.Op = 31) (w : Bool) {fuel : Nat} (hf : Enough fuel t) : zCo fuel t w := by
 refine ⟨?_, ?_, ?_⟩
 ·rw [zAZ, nd, h, show zAS 31 = some (zJA.mk false false false) from rfl, zAg, zCn t false false false]
  simp only [BB, Int.reduceEq]
 ·rw [zAV, nd, h]
  simp only [BA, Int.reduceEq]
  by_cases hn : 1 ≤ t.L.length
  ·obtain ⟨y, y1, y2, _⟩ := last_of t.L hn
   have e : (t.L.length : Int) - 1 = ((t.L.length - 1 : Nat) : Int) := by omega
   rw [show leI 1 (t.L.length : Int) = true from decide_eq_true (by omega), e, y2, idxN, y1, subT t.L (t.L.length - 1) (by omega)]
   simp only [BB, Int.reduceEq, zFA 3 y (by decide), onlyE hf (t.L.take (t.L.length - 1)) (by rw [List.length_take]; omega) [41, 42, 50] (by simp), mem3, List.all_cons, List.all_nil]
  ·rw [show leI 1 (t.L.length : Int) = false from decide_eq_false (by omega)]; rfl
 ·rw [zAa, nd, xw, h, show zAQ 31 = some 3 from rfl, zAg, zBH]
  simp only [h, BA, Int.reduceEq]
  by_cases hn : 1 ≤ t.L.length
  ·have e : (t.L.length : Int) - 1 = ((t.L.length - 1 : Nat) : Int) := by omega
   rw [show leI 1 (t.L.length : Int) = true from decide_eq_true (by omega), show ltI (t.L.length : Int) 1 = false from decide_eq_false (by omega), e, all_M t (t.L.length - 1) t.L.length 3 (by omega) (by omega) hf.d (fuel := fuel) (by have := hf.c; omega), List.take_of_length_le (Nat.le_refl _), lets_M t hn hf.d (fuel := fuel) (by have := hf.c; omega), bare_M]
   simp only [h, BB, Int.reduceEq]
  ·rw [show leI 1 (t.L.length : Int) = false from decide_eq_false (by omega), show ltI (t.L.length : Int) 1 = true from decide_eq_true (by omega), bare_M]
   simp only [h, BB, Int.reduceEq]
theorem nk32 (t : zJC) (h : t.Op = 32) (w : Bool) {fuel : Nat} (hf : Enough fuel t) : zCo fuel t w := by
 refine ⟨?_, ?_, ?_⟩
 ·rw [zAZ, nd, h, show zAS 32 = some (zJA.mk true false false) from rfl, zAg, zCn t true false false]
  simp only [BB, Int.reduceEq]
 ·rw [zAV, nd, h]
  simp only [BB, Int.reduceEq, hEa hf [3] rfl, hEa hf [3, 3] rfl]
  by_cases hN : t.N = 12 <;> simp [hN]
 ·rw [zAa, nd, xw, h, show zAQ 32 = some 3 from rfl, zAg, zBH]
  simp only [h, BB, Int.reduceEq, hEr hf [3] rfl, hEr hf [3, 3] rfl]
  by_cases hN : t.N = 12
  ·simp [hN, leI]
  ·rw [show leI t.N 11 = leI t.N 12 from decide_eq_decide.2 (by omega)]
   simp [hN]
theorem nk33 (t : zJC) (h : t.Op = 33) (w : Bool) {fuel : Nat} (hf : Enough fuel t) : zCo fuel t w := by
 refine ⟨?_, ?_, ?_⟩
 ·rw [zAZ, nd, h, show zAS 33 = some (zJA.mk false false false) from rfl, zAg, zCn t false false false]
  simp only [BB, Int.reduceEq]
 ·rw [zAV, nd, h]
  simp only [BB, Int.reduceEq, hEa hf [3, 1] rfl]
 ·rw [zAa, nd, xw, h, show zAQ 33 = some 3 from rfl, zAg, zBH]
  simp only [h, BB, Int.reduceEq, hEr hf [3, 1] rfl]
theorem nk34 (t : zJC) (h : t.Op = 34) (w : Bool) {fuel : Nat} (hf : Enough fuel t) : zCo fuel t w := by
 refine ⟨?_, ?_, ?_⟩
 ·rw [zAZ, nd, h, show zAS 34 = some (zJA.mk false false true) from rfl, zAg, zCn t false false true]
  simp only [BB, Int.reduceEq, hPa hf]
 ·rw [zAV, nd, h]
  rcases hL : t.L with _ | ⟨x, _ | ⟨y, _ | ⟨z, r⟩⟩⟩
  ·simp only [hL, BB, Int.reduceEq, LL, kids, bx3, List.getElem?_cons_zero, List.getElem?_cons_succ, List.all_cons, List.all_nil]
  ·simp only [hL, BB, Int.reduceEq, LL, kids, bx3, List.getElem?_cons_zero, List.getElem?_cons_succ, List.all_cons, List.all_nil, onlyE hf [x] (by rw [hL]; simp) [72] (by simp)]
  ·simp only [hL, BB, Int.reduceEq, LL, kids, bx3, List.getElem?_cons_zero, List.getElem?_cons_succ, List.all_cons, List.all_nil]
  ·simp only [hL, BB, Int.reduceEq, LL, kids, bx3, List.getElem?_cons_zero, List.getElem?_cons_succ, List.all_cons, List.all_nil]
 ·rw [zAa, nd, xw, h, show zAQ 34 = some 3 from rfl, zAg, zBH]
  rcases hL : t.L with _ | ⟨x, _ | ⟨y, _ | ⟨z, r⟩⟩⟩
  ·simp only [hL, h, BB, Int.reduceEq, LL, kids, bx3, List.getElem?_cons_zero, List.getElem?_cons_succ, List.all_cons, List.all_nil, hEr hf [0] rfl, hPr hf]
  ·simp only [hL, h, BB, Int.reduceEq, LL, kids, bx3, List.getElem?_cons_zero, List.getElem?_cons_succ, List.all_cons, List.all_nil, hEr hf [0] rfl, hPr hf]
  ·simp only [hL, h, BB, Int.reduceEq, LL, kids, bx3, List.getElem?_cons_zero, List.getElem?_cons_succ, List.all_cons, List.all_nil, hEr hf [0] rfl, hPr hf]
  ·simp only [hL, h, BB, Int.reduceEq, LL, kids, bx3, List.getElem?_cons_zero, List.getElem?_cons_succ, List.all_cons, List.all_nil, hEr hf [0] rfl, hPr hf]
theorem nk41 (t : zJC) (h : t.Op = 41) (w : Bool) {fuel : Nat} (hf : Enough fuel t) : zCo fuel t w := by
 refine ⟨?_, ?_, ?_⟩
 ·rw [zAZ, nd, h, show zAS 41 = some (zJA.mk false true false) from rfl, zAg, zCn t false true false]
  simp only [BB, Int.reduceEq, hLo hf]
 ·rw [zAV, nd, h]
  simp only [BB, Int.reduceEq, hEa hf [3] rfl]
 ·rw [zAa, nd, xw, h, show zAQ 41 = some 4 from rfl, zAg, zBj]
  simp only [h, BB, Int.reduceEq, hLr hf, hEr hf [3] rfl]
theorem nk42 (t : zJC) (h : t.Op = 42) (w : Bool) {fuel : Nat} (hf : Enough fuel t) : zCo fuel t w := by
 refine ⟨?_, ?_, ?_⟩
 ·rw [zAZ, nd, h, show zAS 42 = some (zJA.mk false true true) from rfl, zAg, zCn t false true true]
  simp only [BB, Int.reduceEq, hLo hf, ownE hf, zFC]
 ·rw [zAV, nd, h]
  simp only [BB, Int.reduceEq, hEa hf [3] rfl]
 ·rw [zAa, nd, xw, h, show zAQ 42 = some 4 from rfl, zAg, zBj]
  simp only [h, BB, Int.reduceEq, hLr hf, hFr hf, hEr hf [3] rfl]
theorem nk43 (t : zJC) (h : t.Op = 43) (w : Bool) {fuel : Nat} (hf : Enough fuel t) : zCo fuel t w := by
 refine ⟨?_, ?_, ?_⟩
 ·rw [zAZ, nd, h, show zAS 43 = some (zJA.mk false true true) from rfl, zAg, zCn t false true true]
  cases w <;> simp only [BB, Int.reduceEq, hLo hf, hQa hf]
 ·rw [zAV, nd, h]
  simp only [BB, Int.reduceEq, hEa hf [1] rfl]
 ·rw [zAa, nd, xw, h, show zAQ 43 = some 4 from rfl, zAg, zBj]
  cases w <;> simp only [h, BB, Int.reduceEq, hLr hf, hQr hf, hEr hf [1] rfl]
  all_goals
   cases hS : eqS t.S []
   ·cases fe t false true true <;> simp [eqB]
   ·have hl : loS t.S = false := by rw [of_decide_eq_true hS]; rfl
    cases fe t false true true <;> simp [eqB, hl]
theorem nk44 (t : zJC) (h : t.Op = 44) (w : Bool) {fuel : Nat} (hf : Enough fuel t) : zCo fuel t w := by
 refine ⟨?_, ?_, ?_⟩
 ·rw [zAZ, nd, h, show zAS 44 = some (zJA.mk false true true) from rfl, zAg, zCn t false true true]
  simp only [BB, Int.reduceEq, hLo hf, hQa hf]
 ·rw [zAV, nd, h]
  simp only [BB, Int.reduceEq, onlyE hf t.L (Nat.le_refl _) [45] (by simp), hDa hf, mem1]
 ·rw [zAa, nd, xw, h, show zAQ 44 = some 4 from rfl, zAg, zBj]
  simp only [h, BB, Int.reduceEq, hLr hf, hQr hf, hCr hf]
theorem nk45 (t : zJC) (h : t.Op = 45) (w : Bool) {fuel : Nat} (hf : Enough fuel t) : zCo fuel t w := by
 refine ⟨?_, ?_, ?_⟩
 ·rw [zAZ, nd, h, show zAS 45 = some (zJA.mk false true false) from rfl, zAg, zCn t false true false]
  simp only [BB, Int.reduceEq, hUp hf]
 ·rw [zAV, nd, h]
  simp only [BB, Int.reduceEq, hMa hf 1 rfl]
 ·rw [zAa, nd, xw, h, show zAQ 45 = some 0 from rfl, zAg, zBj]
  simp only [h, BB, Int.reduceEq, hUr hf, all0 t 1 hf]
theorem nk46 (t : zJC) (h : t.Op = 46) (w : Bool) {fuel : Nat} (hf : Enough fuel t) : zCo fuel t w := by
 refine ⟨?_, ?_, ?_⟩
 ·rw [zAZ, nd, h, show zAS 46 = some (zJA.mk false true false) from rfl, zAg, zCn t false true false]
  simp only [BB, Int.reduceEq, hUp hf]
 ·rw [zAV, nd, h]
  simp only [BB, Int.reduceEq, hEa hf [7] rfl]
 ·rw [zAa, nd, xw, h, show zAQ 46 = some 4 from rfl, zAg, zBj]
  simp only [h, BB, Int.reduceEq, hUr hf, hEr hf [7] rfl]
theorem nk47 (t : zJC) (h : t.Op = 47) (w : Bool) {fuel : Nat} (hf : Enough fuel t) : zCo fuel t w := by
 refine ⟨?_, ?_, ?_⟩
 ·rw [zAZ, nd, h, show zAS 47 = some (zJA.mk false true false) from rfl, zAg, zCn t false true false]
  simp only [BB, Int.reduceEq, hUp hf]
 ·rw [zAV, nd, h]
  simp only [BB, Int.reduceEq, hEa hf [6] rfl]
 ·rw [zAa, nd, xw, h, show zAQ 47 = some 4 from rfl, zAg, zBj]
  simp only [h, BB, Int.reduceEq, hUr hf, hEr hf [6] rfl]
theorem nk48 (t : zJC) (h : t.Op = 48) (w : Bool) {fuel : Nat} (hf : Enough fuel t) : zCo fuel t w := by
 refine ⟨?_, ?_, ?_⟩
 ·rw [zAZ, nd, h, show zAS 48 = some (zJA.mk false false true) from rfl, zAg, zCn t false false true]
  simp only [BB, Int.reduceEq, hPa hf]
 ·rw [zAV, nd, h]
  simp only [BB, Int.reduceEq]
 ·rw [zAa, nd, xw, h, show zAQ 48 = some 4 from rfl, zAg, zBj]
  simp only [h, BB, Int.reduceEq, hPr hf]
theorem nk49 (t : zJC) (h : t.Op = 49) (w : Bool) {fuel : Nat} (hf : Enough fuel t) : zCo fuel t w := by
 refine ⟨?_, ?_, ?_⟩
 ·rw [zAZ, nd, h, show zAS 49 = some (zJA.mk false false true) from rfl, zAg, zCn t false false true]
  simp only [BB, Int.reduceEq, hPa hf]
 ·rw [zAV, nd, h]
  simp only [BB, Int.reduceEq]
 ·rw [zAa, nd, xw, h, show zAQ 49 = some 4 from rfl, zAg, zBj]
  simp only [h, BB, Int.reduceEq, hPr hf]
theorem nk50 (t : zJC) (h : t.Op = 50) (w : Bool) {fuel : Nat} (hf : Enough fuel t) : zCo fuel t w := by
 refine ⟨?_, ?_, ?_⟩
 ·rw [zAZ, nd, h, show zAS 50 = some (zJA.mk false true false) from rfl, zAg, zCn t false true false]
  simp only [BB, Int.reduceEq, hUp hf]
 ·rw [zAV, nd, h]
  rcases hL : t.L with _ | ⟨x, _ | ⟨y, _ | ⟨z, r⟩⟩⟩
  ·simp only [hL, BB, Int.reduceEq, LL, kids, bx3, List.getElem?_cons_zero, List.getElem?_cons_succ, List.all_cons, List.all_nil]
  ·simp only [hL, BB, Int.reduceEq, LL, kids, bx3, List.getElem?_cons_zero, List.getElem?_cons_succ, List.all_cons, List.all_nil]
  ·simp only [hL, BB, Int.reduceEq, LL, kids, bx3, List.getElem?_cons_zero, List.getElem?_cons_succ, List.all_cons, List.all_nil, zFA 3 x (by decide), onlyE hf [y] (by rw [hL]; simp) [72] (by simp)]
  ·simp only [hL, BB, Int.reduceEq, LL, kids, bx3, List.getElem?_cons_zero, List.getElem?_cons_succ, List.all_cons, List.all_nil]
 ·rw [zAa, nd, xw, h, show zAQ 50 = some 4 from rfl, zAg, zBj]
  rcases hL : t.L with _ | ⟨x, _ | ⟨y, _ | ⟨z, r⟩⟩⟩
  ·simp only [hL, h, BB, Int.reduceEq, LL, kids, bx3, List.getElem?_cons_zero, List.getElem?_cons_succ, List.all_cons, List.all_nil, hEr hf [3, 0] rfl, hUr hf]
  ·simp only [hL, h, BB, Int.reduceEq, LL, kids, bx3, List.getElem?_cons_zero, List.getElem?_cons_succ, List.all_cons, List.all_nil, hEr hf [3, 0] rfl, hUr hf]
  ·simp only [hL, h, BB, Int.reduceEq, LL, kids, bx3, List.getElem?_cons_zero, List.getElem?_cons_succ, List.all_cons, List.all_nil, hEr hf [3, 0] rfl, hUr hf]
  ·simp only [hL, h, BB, Int.reduceEq, LL, kids, bx3, List.getElem?_cons_zero, List.getElem?_cons_succ, List.all_cons, List.all_nil, hEr hf [3, 0] rfl, hUr hf]
theorem nk61 (t : zJC) (h : t.Op = 61) (w : Bool) {fuel : Nat} (hf : Enough fuel t) : zCo fuel t w := by
 refine ⟨?_, ?_, ?_⟩
 ·rw [zAZ, nd, h, show zAS 61 = some (zJA.mk false true false) from rfl, zAg, zCn t false true false]
  simp only [BB, Int.reduceEq, hLo hf]
 ·rw [zAV, nd, h]
  simp only [BB, Int.reduceEq, hEa hf [1] rfl]
 ·rw [zAa, nd, xw, h, show zAQ 61 = some 5 from rfl, zAg, zBi]
  simp only [h, BB, Int.reduceEq, hLr hf, hEr hf [1] rfl]
theorem nk62 (t : zJC) (h : t.Op = 62) (w : Bool) {fuel : Nat} (hf : Enough fuel t) : zCo fuel t w := by
 refine ⟨?_, ?_, ?_⟩
 ·rw [zAZ, nd, h, show zAS 62 = some (zJA.mk false true true) from rfl, zAg, zCn t false true true]
  simp only [BB, Int.reduceEq, hLo hf, hQa hf]
 ·rw [zAV, nd, h]
  simp only [BB, Int.reduceEq]
 ·rw [zAa, nd, xw, h, show zAQ 62 = some 5 from rfl, zAg, zBi]
  simp only [h, BB, Int.reduceEq, hLr hf, hQr hf]
theorem nk63 (t : zJC) (h : t.Op = 63) (w : Bool) {fuel : Nat} (hf : Enough fuel t) : zCo fuel t w := by
 refine ⟨?_, ?_, ?_⟩
 ·rw [zAZ, nd, h, show zAS 63 = some (zJA.mk false true false) from rfl, zAg, zCn t false true false]
  simp only [BB, Int.reduceEq, hUp hf]
 ·rw [zAV, nd, h]
  simp only [BB, Int.reduceEq, hEa hf [6] rfl]
 ·rw [zAa, nd, xw, h, show zAQ 63 = some 5 from rfl, zAg, zBi]
  simp only [h, BB, Int.reduceEq, hUr hf, hEr hf [6] rfl]
theorem nk64 (t : zJC) (h : t.Op = 64) (w : Bool) {fuel : Nat} (hf : Enough fuel t) : zCo fuel t w := by
 refine ⟨?_, ?_, ?_⟩
 ·rw [zAZ, nd, h, show zAS 64 = some (zJA.mk false true false) from rfl, zAg, zCn t false true false]
  simp only [BB, Int.reduceEq, hUp hf]
 ·rw [zAV, nd, h]
  simp only [BB, Int.reduceEq, hEa hf [6] rfl]
 ·rw [zAa, nd, xw, h, show zAQ 64 = some 5 from rfl, zAg, zBi]
  simp only [h, BB, Int.reduceEq, hUr hf, hEr hf [6] rfl]
theorem nk65 (t : zJC) (h : t.Op = 65) (w : Bool) {fuel : Nat} (hf : Enough fuel t) : zCo fuel t w := by
 refine ⟨?_, ?_, ?_⟩
 ·rw [zAZ, nd, h, show zAS 65 = some (zJA.mk false false false) from rfl, zAg, zCn t false false false]
  simp only [BB, Int.reduceEq]
 ·rw [zAV, nd, h]
  simp only [BB, Int.reduceEq, hEa hf [6] rfl]
 ·rw [zAa, nd, xw, h, show zAQ 65 = some 5 from rfl, zAg, zBi]
  simp only [h, BB, Int.reduceEq, hEr hf [6] rfl]
theorem nk66 (t : zJC) (h : t.Op = 66) (w : Bool) {fuel : Nat} (hf : Enough fuel t) : zCo fuel t w := by
 refine ⟨?_, ?_, ?_⟩
 ·rw [zAZ, nd, h, show zAS 66 = some (zJA.mk false false true) from rfl, zAg, zCn t false false true]
  simp only [BB, Int.reduceEq, hPa hf]
 ·rw [zAV, nd, h]
  rcases hL : t.L with _ | ⟨x, _ | ⟨y, _ | ⟨z, r⟩⟩⟩
  ·simp only [hL, BB, Int.reduceEq, LL, kids, bx3, List.getElem?_cons_zero, List.getElem?_cons_succ, List.all_cons, List.all_nil]
  ·simp only [hL, BB, Int.reduceEq, LL, kids, bx3, List.getElem?_cons_zero, List.getElem?_cons_succ, List.all_cons, List.all_nil, onlyE hf [x] (by rw [hL]; simp) [2] (by simp)]
  ·simp only [hL, BB, Int.reduceEq, LL, kids, bx3, List.getElem?_cons_zero, List.getElem?_cons_succ, List.all_cons, List.all_nil]
  ·simp only [hL, BB, Int.reduceEq, LL, kids, bx3, List.getElem?_cons_zero, List.getElem?_cons_succ, List.all_cons, List.all_nil]
 ·rw [zAa, nd, xw, h, show zAQ 66 = some 5 from rfl, zAg, zBi]
  rcases hL : t.L with _ | ⟨x, _ | ⟨y, _ | ⟨z, r⟩⟩⟩
  ·simp only [hL, h, BB, Int.reduceEq, LL, kids, bx3, List.getElem?_cons_zero, List.getElem?_cons_succ, List.all_cons, List.all_nil, hPr hf]
  ·simp only [hL, h, BB, Int.reduceEq, LL, kids, bx3, List.getElem?_cons_zero, List.getElem?_cons_succ, List.all_cons, List.all_nil, hPr hf]
  ·simp only [hL, h, BB, Int.reduceEq, LL, kids, bx3, List.getElem?_cons_zero, List.getElem?_cons_succ, List.all_cons, List.all_nil, hPr hf]
  ·simp only [hL, h, BB, Int.reduceEq, LL, kids, bx3, List.getElem?_cons_zero, List.getElem?_cons_succ, List.all_cons, List.all_nil, hPr hf]
theorem nk71 (t : zJC) (h : t.Op = 71) (w : Bool) {fuel : Nat} (hf : Enough fuel t) : zCo fuel t w := by
 refine ⟨?_, ?_, ?_⟩
 ·rw [zAZ, nd, h, show zAS 71 = some (zJA.mk false false false) from rfl, zAg, zCn t false false false]
  simp only [BB, Int.reduceEq]
 ·rw [zAV, nd, h]
  simp only [BB, Int.reduceEq, hMa hf 5 rfl, len_le]
 ·rw [zAa, nd, xw, h, show zAQ 71 = some 6 from rfl, zAg, zBi]
  simp only [h, BB, Int.reduceEq, all0 t 5 hf]
theorem nk72 (t : zJC) (h : t.Op = 72) (w : Bool) {fuel : Nat} (hf : Enough fuel t) : zCo fuel t w := by
 refine ⟨?_, ?_, ?_⟩
 ·rw [zAZ, nd, h, show zAS 72 = some (zJA.mk false false true) from rfl, zAg, zCn t false false true]
  simp only [BB, Int.reduceEq, hPa hf]
 ·rw [zAV, nd, h]
  simp only [BB, Int.reduceEq]
 ·rw [zAa, nd, xw, h, show zAQ 72 = some 6 from rfl, zAg, zBi]
  simp only [h, BB, Int.reduceEq, hPr hf]
theorem nk73 (t : zJC) (h : t.Op = 73) (w : Bool) {fuel : Nat} (hf : Enough fuel t) : zCo fuel t w := by
 refine ⟨?_, ?_, ?_⟩
 ·rw [zAZ, nd, h, show zAS 73 = some (zJA.mk true true false) from rfl, zAg, zCn t true true false]
  simp only [BB, Int.reduceEq, hUp hf]
 ·rw [zAV, nd, h]
  simp only [BB, Int.reduceEq, hEa hf [6, 6] rfl]
 ·rw [zAa, nd, xw, h, show zAQ 73 = some 6 from rfl, zAg, zBi]
  simp only [h, BB, Int.reduceEq, hUr hf, hEr hf [6, 6] rfl]
  cases fe t true true false <;> cases decide (t.N = 0) <;> cases decide (t.N = 1) <;> cases nm caB t.S <;> simp
theorem nk74 (t : zJC) (h : t.Op = 74) (w : Bool) {fuel : Nat} (hf : Enough fuel t) : zCo fuel t w := by
 refine ⟨?_, ?_, ?_⟩
 ·rw [zAZ, nd, h, show zAS 74 = some (zJA.mk false false true) from rfl, zAg, zCn t false false true]
  simp only [BB, Int.reduceEq, hPa hf]
 ·rw [zAV, nd, h]
  rcases hL : t.L with _ | ⟨x, _ | ⟨y, _ | ⟨z, r⟩⟩⟩
  ·simp only [hL, BB, Int.reduceEq, LL, kids, bx3, List.getElem?_cons_zero, List.getElem?_cons_succ, List.all_cons, List.all_nil]
  ·simp only [hL, BB, Int.reduceEq, LL, kids, bx3, List.getElem?_cons_zero, List.getElem?_cons_succ, List.all_cons, List.all_nil]
  ·simp only [hL, BB, Int.reduceEq, LL, kids, bx3, List.getElem?_cons_zero, List.getElem?_cons_succ, List.all_cons, List.all_nil, zFA 6 x (by decide), onlyE hf [y] (by rw [hL]; simp) [43] (by simp)]
  ·simp only [hL, BB, Int.reduceEq, LL, kids, bx3, List.getElem?_cons_zero, List.getElem?_cons_succ, List.all_cons, List.all_nil]
 ·rw [zAa, nd, xw, h, show zAQ 74 = some 6 from rfl, zAg, zBi]
  rcases hL : t.L with _ | ⟨x, _ | ⟨y, _ | ⟨z, r⟩⟩⟩
  ·simp only [hL, h, BB, Int.reduceEq, LL, kids, bx3, List.getElem?_cons_zero, List.getElem?_cons_succ, List.all_cons, List.all_nil, hPr hf]
  ·simp only [hL, h, BB, Int.reduceEq, LL, kids, bx3, List.getElem?_cons_zero, List.getElem?_cons_succ, List.all_cons, List.all_nil, hPr hf]
  ·simp only [hL, h, BB, Int.reduceEq, LL, kids, bx3, List.getElem?_cons_zero, List.getElem?_cons_succ, List.all_cons, List.all_nil, hPr hf, all1 t 6 x _ hL hf]
  ·simp only [hL, h, BB, Int.reduceEq, LL, kids, bx3, List.getElem?_cons_zero, List.getElem?_cons_succ, List.all_cons, List.all_nil, hPr hf]
theorem nk81 (t : zJC) (h : t.Op = 81) (w : Bool) {fuel : Nat} (hf : Enough fuel t) : zCo fuel t w := by
 refine ⟨?_, ?_, ?_⟩
 ·rw [zAZ, nd, h, show zAS 81 = some (zJA.mk false false false) from rfl, zAg, zCn t false false false]
  simp only [BB, Int.reduceEq]
 ·rw [zAV, nd, h]
  simp only [BB, Int.reduceEq, hMa hf 4 rfl, len_le]
 ·rw [zAa, nd, xw, h, show zAQ 81 = some 7 from rfl, zAg, zCK]
  simp only [h, BB, Int.reduceEq, all0 t 4 hf]
theorem nk82 (t : zJC) (h : t.Op = 82) (w : Bool) {fuel : Nat} (hf : Enough fuel t) : zCo fuel t w := by
 refine ⟨?_, ?_, ?_⟩
 ·rw [zAZ, nd, h, show zAS 82 = some (zJA.mk false false true) from rfl, zAg, zCn t false false true]
  simp only [BB, Int.reduceEq, hPa hf]
 ·rw [zAV, nd, h]
  simp only [BB, Int.reduceEq]
 ·rw [zAa, nd, xw, h, show zAQ 82 = some 7 from rfl, zAg, zCK]
  simp only [h, BB, Int.reduceEq, hPr hf]
theorem nk83 (t : zJC) (h : t.Op = 83) (w : Bool) {fuel : Nat} (hf : Enough fuel t) : zCo fuel t w := by
 refine ⟨?_, ?_, ?_⟩
 ·rw [zAZ, nd, h, show zAS 83 = some (zJA.mk true true false) from rfl, zAg, zCn t true true false]
  simp only [BB, Int.reduceEq, hUp hf]
 ·rw [zAV, nd, h]
  simp only [BB, Int.reduceEq, hEa hf [6, 7] rfl]
 ·rw [zAa, nd, xw, h, show zAQ 83 = some 7 from rfl, zAg, zCK]
  simp only [h, BB, Int.reduceEq, hUr hf, hEr hf [6, 7] rfl]
  cases fe t true true false <;> cases decide (t.N = 0) <;> cases decide (t.N = 1) <;> cases nm caB t.S <;> simp
theorem nk84 (t : zJC) (h : t.Op = 84) (w : Bool) {fuel : Nat} (hf : Enough fuel t) : zCo fuel t w := by
 refine ⟨?_, ?_, ?_⟩
 ·rw [zAZ, nd, h, show zAS 84 = some (zJA.mk false false false) from rfl, zAg, zCn t false false false]
  simp only [BB, Int.reduceEq]
 ·rw [zAV, nd, h]
  simp only [BB, Int.reduceEq, hEa hf [7, 7] rfl]
 ·rw [zAa, nd, xw, h, show zAQ 84 = some 7 from rfl, zAg, zCK]
  simp only [h, BB, Int.reduceEq, hEr hf [7, 7] rfl]
theorem nk85 (t : zJC) (h : t.Op = 85) (w : Bool) {fuel : Nat} (hf : Enough fuel t) : zCo fuel t w := by
 refine ⟨?_, ?_, ?_⟩
 ·rw [zAZ, nd, h, show zAS 85 = some (zJA.mk false false false) from rfl, zAg, zCn t false false false]
  simp only [BB, Int.reduceEq]
 ·rw [zAV, nd, h]
  simp only [BB, Int.reduceEq, hEa hf [7, 6] rfl]
 ·rw [zAa, nd, xw, h, show zAQ 85 = some 7 from rfl, zAg, zCK]
  simp only [h, BB, Int.reduceEq, hEr hf [7, 6] rfl]
theorem nk86 (t : zJC) (h : t.Op = 86) (w : Bool) {fuel : Nat} (hf : Enough fuel t) : zCo fuel t w := by
 refine ⟨?_, ?_, ?_⟩
 ·rw [zAZ, nd, h, show zAS 86 = some (zJA.mk false false false) from rfl, zAg, zCn t false false false]
  simp only [BB, Int.reduceEq]
 ·rw [zAV, nd, h]
  simp only [BB, Int.reduceEq, hEa hf [7, 6] rfl]
 ·rw [zAa, nd, xw, h, show zAQ 86 = some 7 from rfl, zAg, zCK]
  simp only [h, BB, Int.reduceEq, hEr hf [7, 6] rfl]
theorem nk87 (t : zJC) (h : t.Op = 87) (w : Bool) {fuel : Nat} (hf : Enough fuel t) : zCo fuel t w := by
 refine ⟨?_, ?_, ?_⟩
 ·rw [zAZ, nd, h, show zAS 87 = some (zJA.mk false false false) from rfl, zAg, zCn t false false false]
  simp only [BB, Int.reduceEq]
 ·rw [zAV, nd, h]
  simp only [BA, Int.reduceEq]
  by_cases hn : 1 ≤ t.L.length
  ·obtain ⟨y, y1, y2, _⟩ := last_of t.L hn
   have e : (t.L.length : Int) - 1 = ((t.L.length - 1 : Nat) : Int) := by omega
   rw [show leI 1 (t.L.length : Int) = true from decide_eq_true (by omega), e, y2, idxN, y1, subT t.L (t.L.length - 1) (by omega)]
   simp only [BB, Int.reduceEq, zFA 7 y (by decide), many_M (t.L.take (t.L.length - 1)) 4 (h0 := by decide) (fuel := fuel) (hf := by have := hf.c; rw [List.length_take]; omega), List.all_cons, List.all_nil]
   rw [show leI ((t.L.take (t.L.length - 1)).length : Int) (t.L.length : Int) = true from decide_eq_true (by rw [List.length_take]; omega), Bool.true_and]
  ·rw [show leI 1 (t.L.length : Int) = false from decide_eq_false (by omega)]; rfl
 ·rw [zAa, nd, xw, h, show zAQ 87 = some 7 from rfl, zAg, zCK]
  simp only [h, BA, Int.reduceEq]
  by_cases hn : 1 ≤ t.L.length
  ·have e : (t.L.length : Int) - 1 = ((t.L.length - 1 : Nat) : Int) := by omega
   have h2 := all_M t 0 (t.L.length - 1) 4 (by omega) (by omega) hf.d (fuel := fuel) (by have := hf.c; omega)
   rw [show leI 1 (t.L.length : Int) = true from decide_eq_true (by omega), e, all_M t (t.L.length - 1) t.L.length 7 (by omega) (by omega) hf.d (fuel := fuel) (by have := hf.c; omega), List.take_of_length_le (Nat.le_refl _), show zB3 fuel t 0 ((t.L.length - 1 : Nat) : Int) 4 = _ from h2, List.drop_zero, bare_M]
   simp only [h, BB, Int.reduceEq]
   cases fe t false false false <;> cases (t.L.drop (t.L.length - 1)).all (fun x => bl 7 x.Op) <;> cases (t.L.take (t.L.length - 1)).all (fun x => bl 4 x.Op) <;> rfl
  ·rw [show leI 1 (t.L.length : Int) = false from decide_eq_false (by omega), bare_M]
   simp only [h, BB, Int.reduceEq]
theorem nk88 (t : zJC) (h : t.Op = 88) (w : Bool) {fuel : Nat} (hf : Enough fuel t) : zCo fuel t w := by
 refine ⟨?_, ?_, ?_⟩
 ·rw [zAZ, nd, h, show zAS 88 = some (zJA.mk false false false) from rfl, zAg, zCn t false false false]
  simp only [BB, Int.reduceEq]
 ·rw [zAV, nd, h]
  rcases hL : t.L with _ | ⟨x, _ | ⟨y, _ | ⟨z, r⟩⟩⟩
  ·simp only [hL, BB, Int.reduceEq, LL, kids, bx3, List.getElem?_cons_zero, List.getElem?_cons_succ, List.all_cons, List.all_nil]
  ·simp only [hL, BB, Int.reduceEq, LL, kids, bx3, List.getElem?_cons_zero, List.getElem?_cons_succ, List.all_cons, List.all_nil]
  ·simp only [hL, BB, Int.reduceEq, LL, kids, bx3, List.getElem?_cons_zero, List.getElem?_cons_succ, List.all_cons, List.all_nil, zFA 3 x (by decide), onlyE hf [y] (by rw [hL]; simp) [72] (by simp)]
  ·simp only [hL, BB, Int.reduceEq, LL, kids, bx3, List.getElem?_cons_zero, List.getElem?_cons_succ, List.all_cons, List.all_nil]
 ·rw [zAa, nd, xw, h, show zAQ 88 = some 7 from rfl, zAg, zCK]
  rcases hL : t.L with _ | ⟨x, _ | ⟨y, _ | ⟨z, r⟩⟩⟩
  ·simp only [hL, h, BB, Int.reduceEq, LL, kids, bx3, List.getElem?_cons_zero, List.getElem?_cons_succ, List.all_cons, List.all_nil, hEr hf [3, 0] rfl]
  ·simp only [hL, h, BB, Int.reduceEq, LL, kids, bx3, List.getElem?_cons_zero, List.getElem?_cons_succ, List.all_cons, List.all_nil, hEr hf [3, 0] rfl]
  ·simp only [hL, h, BB, Int.reduceEq, LL, kids, bx3, List.getElem?_cons_zero, List.getElem?_cons_succ, List.all_cons, List.all_nil, hEr hf [3, 0] rfl]
  ·simp only [hL, h, BB, Int.reduceEq, LL, kids, bx3, List.getElem?_cons_zero, List.getElem?_cons_succ, List.all_cons, List.all_nil, hEr hf [3, 0] rfl]
end Go.Proofs.YtlhikhaailhoaaaGreatDoor
