import Derived.Test.YtcglbpjpbjaecaaGreatS15
set_option linter.unusedVariables false
set_option linter.unusedSimpArgs false
namespace Go.Proofs.YtcglbpjpbjaecaaGreat.Ru
open Go Go.Ab Go.RowKit
set_option maxRecDepth 100000
noncomputable def StL0 : List (V × V) := [((k2_ 0 0), p0_),
 ((k2_ 0 1), p0_),
 ((k2_ 0 2), p0_),
 ((k2_ 0 3), p0_),
 ((k2_ 1 0), p0_),
 ((k2_ 1 1), p0_),
 ((k2_ 1 2), p0_),
 ((k2_ 1 3), p0_),
 ((k2_ 2 0), (pv_ 64 33506406212567041)),
 ((k2_ 2 1), p0_),
 ((k2_ 2 2), p0_),
 ((k2_ 2 3), p0_),
 ((k2_ 3 0), (pv_ 64 36048469110030593)),
 ((k2_ 3 1), p0_),
 ((k2_ 3 2), p0_),
 ((k2_ 3 3), p0_),
 ((k2_ 4 0), (pv_ 64 18657495387996673)),
 ((k2_ 4 1), p0_),
 ((k2_ 4 2), p0_),
 ((k2_ 4 3), p0_),
 ((k2_ 5 0), (pv_ 64 47692561942315010)),
 ((k2_ 5 1), p0_),
 ((k2_ 5 2), p0_),
 ((k2_ 5 3), p0_)]
noncomputable def StL1 : List V := [(ag_ [(k2_ 0 0), p0_]),
 (ag_ [(k2_ 0 1), p0_]),
 (ag_ [(k2_ 0 2), p0_]),
 (ag_ [(k2_ 0 3), p0_]),
 (ag_ [(k2_ 1 0), p0_]),
 (ag_ [(k2_ 1 1), p0_]),
 (ag_ [(k2_ 1 2), p0_]),
 (ag_ [(k2_ 1 3), p0_]),
 (ag_ [(k2_ 2 0), (pv_ 64 33506406212567041)]),
 (ag_ [(k2_ 2 1), p0_]),
 (ag_ [(k2_ 2 2), p0_]),
 (ag_ [(k2_ 2 3), p0_]),
 (ag_ [(k2_ 3 0), (pv_ 64 36048469110030593)]),
 (ag_ [(k2_ 3 1), p0_]),
 (ag_ [(k2_ 3 2), p0_]),
 (ag_ [(k2_ 3 3), p0_]),
 (ag_ [(k2_ 4 0), (pv_ 64 18657495387996673)]),
 (ag_ [(k2_ 4 1), p0_]),
 (ag_ [(k2_ 4 2), p0_]),
 (ag_ [(k2_ 4 3), p0_]),
 (ag_ [(k2_ 5 0), (pv_ 64 47692561942315010)]),
 (ag_ [(k2_ 5 1), p0_]),
 (ag_ [(k2_ 5 2), p0_]),
 (ag_ [(k2_ 5 3), p0_])]
noncomputable def StL2 : List (V × V) := lput [] [((k2_ 6 0), (pv_ 64 26573149508206850)), ((k2_ 6 1), p0_), ((k2_ 6 2), p0_), ((k2_ 6 3), p0_)] StL0
noncomputable def StL3 : List V := lput [] [(ag_ [(k2_ 6 0), (pv_ 64 26573149508206850)]), (ag_ [(k2_ 6 1), p0_]), (ag_ [(k2_ 6 2), p0_]), (ag_ [(k2_ 6 3), p0_])] StL1
noncomputable def StL4 : List (V × V) := lput [] [((k2_ 7 0), (pv_ 64 43964124572418562)), ((k2_ 7 1), p0_), ((k2_ 7 2), p0_), ((k2_ 7 3), p0_)] StL2
noncomputable def StL5 : List V := lput [] [(ag_ [(k2_ 7 0), (pv_ 64 43964124572418562)]), (ag_ [(k2_ 7 1), p0_]), (ag_ [(k2_ 7 2), p0_]), (ag_ [(k2_ 7 3), p0_])] StL3
noncomputable def StL6 : List (V × V) := lput [] [((k2_ 8 0), (pv_ 64 30163044352918274)), ((k2_ 8 1), p0_), ((k2_ 8 2), p0_), ((k2_ 8 3), p0_)] StL4
noncomputable def StL7 : List V := lput [] [(ag_ [(k2_ 8 0), (pv_ 64 30163044352918274)]), (ag_ [(k2_ 8 1), p0_]), (ag_ [(k2_ 8 2), p0_]), (ag_ [(k2_ 8 3), p0_])] StL5
noncomputable def StL8 : List (V × V) := lput [] [((k2_ 9 0), p0_), ((k2_ 9 1), p0_), ((k2_ 9 2), p0_), ((k2_ 9 3), p0_)] StL6
noncomputable def StL9 : List V := lput [] [(ag_ [(k2_ 9 0), p0_]), (ag_ [(k2_ 9 1), p0_]), (ag_ [(k2_ 9 2), p0_]), (ag_ [(k2_ 9 3), p0_])] StL7
noncomputable def StL10 : List (V × V) := lput [] [((k2_ 10 0), p0_), ((k2_ 10 1), p0_), ((k2_ 10 2), p0_), ((k2_ 10 3), p0_)] StL8
noncomputable def StL11 : List V := lput [] [(ag_ [(k2_ 10 0), p0_]), (ag_ [(k2_ 10 1), p0_]), (ag_ [(k2_ 10 2), p0_]), (ag_ [(k2_ 10 3), p0_])] StL9
noncomputable def StL12 : List (V × V) := lput [] [((k2_ 11 0), p0_), ((k2_ 11 1), p0_), ((k2_ 11 2), p0_), ((k2_ 11 3), p0_)] StL10
noncomputable def StL13 : List V := lput [] [(ag_ [(k2_ 11 0), p0_]), (ag_ [(k2_ 11 1), p0_]), (ag_ [(k2_ 11 2), p0_]), (ag_ [(k2_ 11 3), p0_])] StL11
noncomputable def StL14 : List (V × V) := lput [] [((k2_ 12 0), p0_), ((k2_ 12 1), p0_), ((k2_ 12 2), p0_), ((k2_ 12 3), p0_)] StL12
noncomputable def StL15 : List V := lput [] [(ag_ [(k2_ 12 0), p0_]), (ag_ [(k2_ 12 1), p0_]), (ag_ [(k2_ 12 2), p0_]), (ag_ [(k2_ 12 3), p0_])] StL13
noncomputable def StL16 : List (V × V) := lput [] [((k2_ 13 0), p0_), ((k2_ 13 1), p0_), ((k2_ 13 2), p0_), ((k2_ 13 3), p0_)] StL14
noncomputable def StL17 : List V := lput [] [(ag_ [(k2_ 13 0), p0_]), (ag_ [(k2_ 13 1), p0_]), (ag_ [(k2_ 13 2), p0_]), (ag_ [(k2_ 13 3), p0_])] StL15
noncomputable def StL18 : List (V × V) := lput [] [((k2_ 14 0), p0_), ((k2_ 14 1), p0_), ((k2_ 14 2), p0_), ((k2_ 14 3), p0_)] StL16
noncomputable def StL19 : List V := lput [] [(ag_ [(k2_ 14 0), p0_]), (ag_ [(k2_ 14 1), p0_]), (ag_ [(k2_ 14 2), p0_]), (ag_ [(k2_ 14 3), p0_])] StL17
noncomputable def StL20 : List (V × V) := lput [] [((k2_ 15 0), p0_), ((k2_ 15 1), p0_), ((k2_ 15 2), p0_), ((k2_ 15 3), p0_)] StL18
noncomputable def StL21 : List V := lput [] [(ag_ [(k2_ 15 0), p0_]), (ag_ [(k2_ 15 1), p0_]), (ag_ [(k2_ 15 2), p0_]), (ag_ [(k2_ 15 3), p0_])] StL19
noncomputable def StL22 : List (V × V) := lput [] [((k2_ 16 0), p0_), ((k2_ 16 1), p0_), ((k2_ 16 2), p0_), ((k2_ 16 3), p0_)] StL20
noncomputable def StL23 : List V := lput [] [(ag_ [(k2_ 16 0), p0_]), (ag_ [(k2_ 16 1), p0_]), (ag_ [(k2_ 16 2), p0_]), (ag_ [(k2_ 16 3), p0_])] StL21
noncomputable def StL24 : List (V × V) := lput [] [((k2_ 17 0), p0_), ((k2_ 17 1), p0_), ((k2_ 17 2), p0_), ((k2_ 17 3), p0_)] StL22
noncomputable def StL25 : List V := lput [] [(ag_ [(k2_ 17 0), p0_]), (ag_ [(k2_ 17 1), p0_]), (ag_ [(k2_ 17 2), p0_]), (ag_ [(k2_ 17 3), p0_])] StL23
noncomputable def StL26 : List (V × V) := lput [] [((k2_ 18 0), p0_), ((k2_ 18 1), p0_), ((k2_ 18 2), p0_), ((k2_ 18 3), p0_)] StL24
noncomputable def StL27 : List V := lput [] [(ag_ [(k2_ 18 0), p0_]), (ag_ [(k2_ 18 1), p0_]), (ag_ [(k2_ 18 2), p0_]), (ag_ [(k2_ 18 3), p0_])] StL25
noncomputable def StL28 : List (V × V) := lput [] [((k2_ 19 0), p0_), ((k2_ 19 1), p0_), ((k2_ 19 2), p0_), ((k2_ 19 3), p0_)] StL26
noncomputable def StL29 : List V := lput [] [(ag_ [(k2_ 19 0), p0_]), (ag_ [(k2_ 19 1), p0_]), (ag_ [(k2_ 19 2), p0_]), (ag_ [(k2_ 19 3), p0_])] StL27
noncomputable def StL30 : List (V × V) := lput [] [((k2_ 20 0), p0_), ((k2_ 20 1), p0_), ((k2_ 20 2), p0_), ((k2_ 20 3), p0_)] StL28
noncomputable def StL31 : List V := lput [] [(ag_ [(k2_ 20 0), p0_]), (ag_ [(k2_ 20 1), p0_]), (ag_ [(k2_ 20 2), p0_]), (ag_ [(k2_ 20 3), p0_])] StL29
noncomputable def StL32 : List (V × V) := lput [] [((k2_ 21 0), p0_), ((k2_ 21 1), p0_), ((k2_ 21 2), p0_), ((k2_ 21 3), p0_)] StL30
noncomputable def StL33 : List V := lput [] [(ag_ [(k2_ 21 0), p0_]), (ag_ [(k2_ 21 1), p0_]), (ag_ [(k2_ 21 2), p0_]), (ag_ [(k2_ 21 3), p0_])] StL31
noncomputable def StL34 : List (V × V) := lput [] [((k2_ 22 0), p0_), ((k2_ 22 1), p0_), ((k2_ 22 2), p0_), ((k2_ 22 3), p0_)] StL32
noncomputable def StL35 : List V := lput [] [(ag_ [(k2_ 22 0), p0_]), (ag_ [(k2_ 22 1), p0_]), (ag_ [(k2_ 22 2), p0_]), (ag_ [(k2_ 22 3), p0_])] StL33
noncomputable def StL36 : List (V × V) := lput [] [((k2_ 23 0), p0_), ((k2_ 23 1), p0_), ((k2_ 23 2), p0_), ((k2_ 23 3), p0_)] StL34
noncomputable def StL37 : List V := lput [] [(ag_ [(k2_ 23 0), p0_]), (ag_ [(k2_ 23 1), p0_]), (ag_ [(k2_ 23 2), p0_]), (ag_ [(k2_ 23 3), p0_])] StL35
noncomputable def StL38 : List (V × V) := lput [] [((k2_ 24 0), p0_), ((k2_ 24 1), p0_), ((k2_ 24 2), p0_), ((k2_ 24 3), p0_)] StL36
noncomputable def StL39 : List V := lput [] [(ag_ [(k2_ 24 0), p0_]), (ag_ [(k2_ 24 1), p0_]), (ag_ [(k2_ 24 2), p0_]), (ag_ [(k2_ 24 3), p0_])] StL37
noncomputable def StL40 : List (V × V) := lput [] [((k2_ 25 0), p0_), ((k2_ 25 1), p0_), ((k2_ 25 2), p0_), ((k2_ 25 3), p0_)] StL38
noncomputable def StL41 : List V := lput [] [(ag_ [(k2_ 25 0), p0_]), (ag_ [(k2_ 25 1), p0_]), (ag_ [(k2_ 25 2), p0_]), (ag_ [(k2_ 25 3), p0_])] StL39
noncomputable def StL42 : List (V × V) := lput [] [((k2_ 26 0), p0_), ((k2_ 26 1), p0_), ((k2_ 26 2), p0_), ((k2_ 26 3), p0_)] StL40
noncomputable def StL43 : List V := lput [] [(ag_ [(k2_ 26 0), p0_]), (ag_ [(k2_ 26 1), p0_]), (ag_ [(k2_ 26 2), p0_]), (ag_ [(k2_ 26 3), p0_])] StL41
noncomputable def StL44 : List (V × V) := lput [] [((k2_ 27 0), p0_), ((k2_ 27 1), p0_), ((k2_ 27 2), p0_), ((k2_ 27 3), p0_)] StL42
noncomputable def StL45 : List V := lput [] [(ag_ [(k2_ 27 0), p0_]), (ag_ [(k2_ 27 1), p0_]), (ag_ [(k2_ 27 2), p0_]), (ag_ [(k2_ 27 3), p0_])] StL43
noncomputable def StL46 : List (V × V) := lput [] [((k2_ 28 0), p0_), ((k2_ 28 1), p0_), ((k2_ 28 2), p0_), ((k2_ 28 3), p0_)] StL44
noncomputable def StL47 : List V := lput [] [(ag_ [(k2_ 28 0), p0_]), (ag_ [(k2_ 28 1), p0_]), (ag_ [(k2_ 28 2), p0_]), (ag_ [(k2_ 28 3), p0_])] StL45
noncomputable def StL48 : List (V × V) := lput [] [((k2_ 29 0), p0_), ((k2_ 29 1), p0_), ((k2_ 29 2), p0_), ((k2_ 29 3), p0_)] StL46
noncomputable def StL49 : List V := lput [] [(ag_ [(k2_ 29 0), p0_]), (ag_ [(k2_ 29 1), p0_]), (ag_ [(k2_ 29 2), p0_]), (ag_ [(k2_ 29 3), p0_])] StL47
noncomputable def StL50 : List (V × V) := lput [] [((k2_ 30 0), p0_), ((k2_ 30 1), p0_), ((k2_ 30 2), p0_), ((k2_ 30 3), p0_)] StL48
noncomputable def StL51 : List V := lput [] [(ag_ [(k2_ 30 0), p0_]), (ag_ [(k2_ 30 1), p0_]), (ag_ [(k2_ 30 2), p0_]), (ag_ [(k2_ 30 3), p0_])] StL49
noncomputable def StL52 : List (V × V) := lput [] [((k2_ 31 0), p0_), ((k2_ 31 1), p0_), ((k2_ 31 2), p0_), ((k2_ 31 3), p0_)] StL50
noncomputable def StL53 : List V := lput [] [(ag_ [(k2_ 31 0), p0_]), (ag_ [(k2_ 31 1), p0_]), (ag_ [(k2_ 31 2), p0_]), (ag_ [(k2_ 31 3), p0_])] StL51
noncomputable def StL54 : List (V × V) := lput [] [((k2_ 32 0), p0_), ((k2_ 32 1), p0_), ((k2_ 32 2), p0_), ((k2_ 32 3), p0_)] StL52
noncomputable def StL55 : List V := lput [] [(ag_ [(k2_ 32 0), p0_]), (ag_ [(k2_ 32 1), p0_]), (ag_ [(k2_ 32 2), p0_]), (ag_ [(k2_ 32 3), p0_])] StL53
noncomputable def StL56 : List (V × V) := lput [] [((k2_ 33 0), p0_), ((k2_ 33 1), p0_), ((k2_ 33 2), p0_), ((k2_ 33 3), p0_)] StL54
noncomputable def StL57 : List V := lput [] [(ag_ [(k2_ 33 0), p0_]), (ag_ [(k2_ 33 1), p0_]), (ag_ [(k2_ 33 2), p0_]), (ag_ [(k2_ 33 3), p0_])] StL55
noncomputable def StL58 : List (V × V) := lput [] [((k2_ 34 0), p0_), ((k2_ 34 1), p0_), ((k2_ 34 2), p0_), ((k2_ 34 3), p0_)] StL56
noncomputable def StL59 : List V := lput [] [(ag_ [(k2_ 34 0), p0_]), (ag_ [(k2_ 34 1), p0_]), (ag_ [(k2_ 34 2), p0_]), (ag_ [(k2_ 34 3), p0_])] StL57
noncomputable def StL60 : List (V × V) := lput [] [((k2_ 35 0), p0_), ((k2_ 35 1), p0_), ((k2_ 35 2), p0_), ((k2_ 35 3), p0_)] StL58
noncomputable def StL61 : List V := lput [] [(ag_ [(k2_ 35 0), p0_]), (ag_ [(k2_ 35 1), p0_]), (ag_ [(k2_ 35 2), p0_]), (ag_ [(k2_ 35 3), p0_])] StL59
noncomputable def StL62 : List (V × V) := lput [] [((k2_ 36 0), p0_), ((k2_ 36 1), p0_), ((k2_ 36 2), p0_), ((k2_ 36 3), p0_)] StL60
noncomputable def StL63 : List V := lput [] [(ag_ [(k2_ 36 0), p0_]), (ag_ [(k2_ 36 1), p0_]), (ag_ [(k2_ 36 2), p0_]), (ag_ [(k2_ 36 3), p0_])] StL61
noncomputable def StL64 : List (V × V) := lput [] [((k2_ 37 0), p0_), ((k2_ 37 1), p0_), ((k2_ 37 2), p0_), ((k2_ 37 3), p0_)] StL62
noncomputable def StL65 : List V := lput [] [(ag_ [(k2_ 37 0), p0_]), (ag_ [(k2_ 37 1), p0_]), (ag_ [(k2_ 37 2), p0_]), (ag_ [(k2_ 37 3), p0_])] StL63
noncomputable def StL66 : List (V × V) := lput [] [((k2_ 38 0), p0_), ((k2_ 38 1), p0_), ((k2_ 38 2), p0_), ((k2_ 38 3), p0_)] StL64
noncomputable def StL67 : List V := lput [] [(ag_ [(k2_ 38 0), p0_]), (ag_ [(k2_ 38 1), p0_]), (ag_ [(k2_ 38 2), p0_]), (ag_ [(k2_ 38 3), p0_])] StL65
noncomputable def StL68 : List (V × V) := lput [] [((k2_ 39 0), p0_), ((k2_ 39 1), p0_), ((k2_ 39 2), p0_), ((k2_ 39 3), p0_)] StL66
noncomputable def StL69 : List V := lput [] [(ag_ [(k2_ 39 0), p0_]), (ag_ [(k2_ 39 1), p0_]), (ag_ [(k2_ 39 2), p0_]), (ag_ [(k2_ 39 3), p0_])] StL67
noncomputable def StL70 : List (V × V) := lput [] [((k2_ 40 0), p0_), ((k2_ 40 1), p0_), ((k2_ 40 2), p0_), ((k2_ 40 3), p0_)] StL68
noncomputable def StL71 : List V := lput [] [(ag_ [(k2_ 40 0), p0_]), (ag_ [(k2_ 40 1), p0_]), (ag_ [(k2_ 40 2), p0_]), (ag_ [(k2_ 40 3), p0_])] StL69
noncomputable def StL72 : List (V × V) := lput [] [((k2_ 41 0), p0_), ((k2_ 41 1), p0_), ((k2_ 41 2), p0_), ((k2_ 41 3), p0_)] StL70
noncomputable def StL73 : List V := lput [] [(ag_ [(k2_ 41 0), p0_]), (ag_ [(k2_ 41 1), p0_]), (ag_ [(k2_ 41 2), p0_]), (ag_ [(k2_ 41 3), p0_])] StL71
noncomputable def StL74 : List (V × V) := lput [] [((k2_ 42 0), p0_), ((k2_ 42 1), p0_), ((k2_ 42 2), p0_), ((k2_ 42 3), p0_)] StL72
noncomputable def StL75 : List V := lput [] [(ag_ [(k2_ 42 0), p0_]), (ag_ [(k2_ 42 1), p0_]), (ag_ [(k2_ 42 2), p0_]), (ag_ [(k2_ 42 3), p0_])] StL73
noncomputable def StL76 : List (V × V) := lput [] [((k2_ 43 0), p0_), ((k2_ 43 1), p0_), ((k2_ 43 2), p0_), ((k2_ 43 3), p0_)] StL74
noncomputable def StL77 : List V := lput [] [(ag_ [(k2_ 43 0), p0_]), (ag_ [(k2_ 43 1), p0_]), (ag_ [(k2_ 43 2), p0_]), (ag_ [(k2_ 43 3), p0_])] StL75
noncomputable def StL78 : List (V × V) := lput [] [((k2_ 44 0), p0_), ((k2_ 44 1), p0_), ((k2_ 44 2), p0_), ((k2_ 44 3), p0_)] StL76
noncomputable def StL79 : List V := lput [] [(ag_ [(k2_ 44 0), p0_]), (ag_ [(k2_ 44 1), p0_]), (ag_ [(k2_ 44 2), p0_]), (ag_ [(k2_ 44 3), p0_])] StL77
noncomputable def StL80 : List (V × V) := lput [] [((k2_ 45 0), p0_), ((k2_ 45 1), p0_), ((k2_ 45 2), p0_), ((k2_ 45 3), p0_)] StL78
noncomputable def StL81 : List V := lput [] [(ag_ [(k2_ 45 0), p0_]), (ag_ [(k2_ 45 1), p0_]), (ag_ [(k2_ 45 2), p0_]), (ag_ [(k2_ 45 3), p0_])] StL79
noncomputable def StL82 : List (V × V) := lput [] [((k2_ 46 0), p0_), ((k2_ 46 1), p0_), ((k2_ 46 2), p0_), ((k2_ 46 3), p0_)] StL80
noncomputable def StL83 : List V := lput [] [(ag_ [(k2_ 46 0), p0_]), (ag_ [(k2_ 46 1), p0_]), (ag_ [(k2_ 46 2), p0_]), (ag_ [(k2_ 46 3), p0_])] StL81
noncomputable def StL84 : List (V × V) := lput [] [((k2_ 47 0), p0_), ((k2_ 47 1), p0_), ((k2_ 47 2), p0_), ((k2_ 47 3), p0_)] StL82
noncomputable def StL85 : List V := lput [] [(ag_ [(k2_ 47 0), p0_]), (ag_ [(k2_ 47 1), p0_]), (ag_ [(k2_ 47 2), p0_]), (ag_ [(k2_ 47 3), p0_])] StL83
noncomputable def StL86 : List (V × V) := lput [] [((k2_ 48 0), p0_), ((k2_ 48 1), p0_), ((k2_ 48 2), p0_), ((k2_ 48 3), p0_)] StL84
noncomputable def StL87 : List V := lput [] [(ag_ [(k2_ 48 0), p0_]), (ag_ [(k2_ 48 1), p0_]), (ag_ [(k2_ 48 2), p0_]), (ag_ [(k2_ 48 3), p0_])] StL85
noncomputable def StL88 : List (V × V) := lput [] [((k2_ 49 0), p0_), ((k2_ 49 1), p0_), ((k2_ 49 2), p0_), ((k2_ 49 3), p0_)] StL86
noncomputable def StL89 : List V := lput [] [(ag_ [(k2_ 49 0), p0_]), (ag_ [(k2_ 49 1), p0_]), (ag_ [(k2_ 49 2), p0_]), (ag_ [(k2_ 49 3), p0_])] StL87
noncomputable def StL90 : List (V × V) := lput [] [((k2_ 50 0), p0_), ((k2_ 50 1), p0_), ((k2_ 50 2), p0_), ((k2_ 50 3), p0_)] StL88
noncomputable def StL91 : List V := lput [] [(ag_ [(k2_ 50 0), p0_]), (ag_ [(k2_ 50 1), p0_]), (ag_ [(k2_ 50 2), p0_]), (ag_ [(k2_ 50 3), p0_])] StL89
noncomputable def StL92 : List (V × V) := lput [] [((k2_ 51 0), p0_), ((k2_ 51 1), p0_), ((k2_ 51 2), p0_), ((k2_ 51 3), p0_)] StL90
noncomputable def StL93 : List V := lput [] [(ag_ [(k2_ 51 0), p0_]), (ag_ [(k2_ 51 1), p0_]), (ag_ [(k2_ 51 2), p0_]), (ag_ [(k2_ 51 3), p0_])] StL91
noncomputable def StL94 : List (V × V) := lput [] [((k2_ 52 0), p0_), ((k2_ 52 1), p0_), ((k2_ 52 2), p0_), ((k2_ 52 3), p0_)] StL92
noncomputable def StL95 : List V := lput [] [(ag_ [(k2_ 52 0), p0_]), (ag_ [(k2_ 52 1), p0_]), (ag_ [(k2_ 52 2), p0_]), (ag_ [(k2_ 52 3), p0_])] StL93
noncomputable def StL96 : List (V × V) := lput [] [((k2_ 53 0), p0_), ((k2_ 53 1), p0_), ((k2_ 53 2), p0_), ((k2_ 53 3), p0_)] StL94
noncomputable def StL97 : List V := lput [] [(ag_ [(k2_ 53 0), p0_]), (ag_ [(k2_ 53 1), p0_]), (ag_ [(k2_ 53 2), p0_]), (ag_ [(k2_ 53 3), p0_])] StL95
noncomputable def StL98 : List (V × V) := lput [] [((k2_ 54 0), p0_), ((k2_ 54 1), p0_), ((k2_ 54 2), p0_), ((k2_ 54 3), p0_)] StL96
noncomputable def StL99 : List V := lput [] [(ag_ [(k2_ 54 0), p0_]), (ag_ [(k2_ 54 1), p0_]), (ag_ [(k2_ 54 2), p0_]), (ag_ [(k2_ 54 3), p0_])] StL97
noncomputable def StL100 : List (V × V) := lput [] [((k2_ 55 0), p0_), ((k2_ 55 1), p0_), ((k2_ 55 2), p0_), ((k2_ 55 3), p0_)] StL98
noncomputable def StL101 : List V := lput [] [(ag_ [(k2_ 55 0), p0_]), (ag_ [(k2_ 55 1), p0_]), (ag_ [(k2_ 55 2), p0_]), (ag_ [(k2_ 55 3), p0_])] StL99
noncomputable def StL102 : List (V × V) := lput [] [((k2_ 56 0), p0_), ((k2_ 56 1), p0_), ((k2_ 56 2), p0_), ((k2_ 56 3), p0_)] StL100
noncomputable def StL103 : List V := lput [] [(ag_ [(k2_ 56 0), p0_]), (ag_ [(k2_ 56 1), p0_]), (ag_ [(k2_ 56 2), p0_]), (ag_ [(k2_ 56 3), p0_])] StL101
noncomputable def StL104 : List (V × V) := lput [] [((k2_ 57 0), p0_), ((k2_ 57 1), p0_), ((k2_ 57 2), p0_), ((k2_ 57 3), p0_)] StL102
noncomputable def StL105 : List V := lput [] [(ag_ [(k2_ 57 0), p0_]), (ag_ [(k2_ 57 1), p0_]), (ag_ [(k2_ 57 2), p0_]), (ag_ [(k2_ 57 3), p0_])] StL103
noncomputable def StL106 : List (V × V) := lput [] [((k2_ 58 0), p0_), ((k2_ 58 1), p0_), ((k2_ 58 2), p0_), ((k2_ 58 3), p0_)] StL104
noncomputable def StL107 : List V := lput [] [(ag_ [(k2_ 58 0), p0_]), (ag_ [(k2_ 58 1), p0_]), (ag_ [(k2_ 58 2), p0_]), (ag_ [(k2_ 58 3), p0_])] StL105
noncomputable def StL108 : List (V × V) := lput [] [((k2_ 59 0), p0_), ((k2_ 59 1), p0_), ((k2_ 59 2), p0_), ((k2_ 59 3), p0_)] StL106
noncomputable def StL109 : List V := lput [] [(ag_ [(k2_ 59 0), p0_]), (ag_ [(k2_ 59 1), p0_]), (ag_ [(k2_ 59 2), p0_]), (ag_ [(k2_ 59 3), p0_])] StL107
noncomputable def StL110 : List (V × V) := lput [] [((k2_ 60 0), p0_), ((k2_ 60 1), p0_), ((k2_ 60 2), p0_), ((k2_ 60 3), p0_)] StL108
noncomputable def StL111 : List V := lput [] [(ag_ [(k2_ 60 0), p0_]), (ag_ [(k2_ 60 1), p0_]), (ag_ [(k2_ 60 2), p0_]), (ag_ [(k2_ 60 3), p0_])] StL109
noncomputable def StL112 : List (V × V) := lput [] [((k2_ 61 0), p0_), ((k2_ 61 1), p0_), ((k2_ 61 2), p0_), ((k2_ 61 3), p0_)] StL110
noncomputable def StL113 : List V := lput [] [(ag_ [(k2_ 61 0), p0_]), (ag_ [(k2_ 61 1), p0_]), (ag_ [(k2_ 61 2), p0_]), (ag_ [(k2_ 61 3), p0_])] StL111
noncomputable def StL114 : List (V × V) := lput [] [((k2_ 62 0), p0_), ((k2_ 62 1), p0_), ((k2_ 62 2), p0_), ((k2_ 62 3), p0_)] StL112
noncomputable def StL115 : List V := lput [] [(ag_ [(k2_ 62 0), p0_]), (ag_ [(k2_ 62 1), p0_]), (ag_ [(k2_ 62 2), p0_]), (ag_ [(k2_ 62 3), p0_])] StL113
noncomputable def StL116 : List (V × V) := lput [] [((k2_ 63 0), p0_), ((k2_ 63 1), p0_), ((k2_ 63 2), p0_), ((k2_ 63 3), p0_)] StL114
noncomputable def StL117 : List V := lput [] [(ag_ [(k2_ 63 0), p0_]), (ag_ [(k2_ 63 1), p0_]), (ag_ [(k2_ 63 2), p0_]), (ag_ [(k2_ 63 3), p0_])] StL115
noncomputable def StL118 : List (V × V) := lput [] [((k2_ 64 0), p0_), ((k2_ 64 1), p0_), ((k2_ 64 2), p0_), ((k2_ 64 3), p0_)] StL116
noncomputable def StL119 : List V := lput [] [(ag_ [(k2_ 64 0), p0_]), (ag_ [(k2_ 64 1), p0_]), (ag_ [(k2_ 64 2), p0_]), (ag_ [(k2_ 64 3), p0_])] StL117
noncomputable def StL120 : List (V × V) := lput [] [((k2_ 65 0), p0_), ((k2_ 65 1), p0_), ((k2_ 65 2), p0_), ((k2_ 65 3), p0_)] StL118
noncomputable def StL121 : List V := lput [] [(ag_ [(k2_ 65 0), p0_]), (ag_ [(k2_ 65 1), p0_]), (ag_ [(k2_ 65 2), p0_]), (ag_ [(k2_ 65 3), p0_])] StL119
noncomputable def StL122 : List (V × V) := lput [] [((k2_ 66 0), p0_), ((k2_ 66 1), p0_), ((k2_ 66 2), p0_), ((k2_ 66 3), p0_)] StL120
noncomputable def StL123 : List V := lput [] [(ag_ [(k2_ 66 0), p0_]), (ag_ [(k2_ 66 1), p0_]), (ag_ [(k2_ 66 2), p0_]), (ag_ [(k2_ 66 3), p0_])] StL121
noncomputable def StL124 : List (V × V) := lput [] [((k2_ 67 0), p0_), ((k2_ 67 1), p0_), ((k2_ 67 2), p0_), ((k2_ 67 3), p0_)] StL122
noncomputable def StL125 : List V := lput [] [(ag_ [(k2_ 67 0), p0_]), (ag_ [(k2_ 67 1), p0_]), (ag_ [(k2_ 67 2), p0_]), (ag_ [(k2_ 67 3), p0_])] StL123
noncomputable def StL126 : List (V × V) := lput [] [((k2_ 68 0), p0_), ((k2_ 68 1), p0_), ((k2_ 68 2), p0_), ((k2_ 68 3), p0_)] StL124
noncomputable def StL127 : List V := lput [] [(ag_ [(k2_ 68 0), p0_]), (ag_ [(k2_ 68 1), p0_]), (ag_ [(k2_ 68 2), p0_]), (ag_ [(k2_ 68 3), p0_])] StL125
noncomputable def StL128 : List (V × V) := lput [] [((k2_ 69 0), p0_), ((k2_ 69 1), p0_), ((k2_ 69 2), p0_), ((k2_ 69 3), p0_)] StL126
noncomputable def StL129 : List V := lput [] [(ag_ [(k2_ 69 0), p0_]), (ag_ [(k2_ 69 1), p0_]), (ag_ [(k2_ 69 2), p0_]), (ag_ [(k2_ 69 3), p0_])] StL127
noncomputable def StL130 : List (V × V) := lput [] [((k2_ 70 0), p0_), ((k2_ 70 1), p0_), ((k2_ 70 2), p0_), ((k2_ 70 3), p0_)] StL128
noncomputable def StL131 : List V := lput [] [(ag_ [(k2_ 70 0), p0_]), (ag_ [(k2_ 70 1), p0_]), (ag_ [(k2_ 70 2), p0_]), (ag_ [(k2_ 70 3), p0_])] StL129
noncomputable def StL132 : List (V × V) := lput [] [((k2_ 71 0), p0_), ((k2_ 71 1), p0_), ((k2_ 71 2), p0_), ((k2_ 71 3), p0_)] StL130
noncomputable def StL133 : List V := lput [] [(ag_ [(k2_ 71 0), p0_]), (ag_ [(k2_ 71 1), p0_]), (ag_ [(k2_ 71 2), p0_]), (ag_ [(k2_ 71 3), p0_])] StL131
noncomputable def StL134 : List (V × V) := lput [] [((k2_ 72 0), p0_), ((k2_ 72 1), p0_), ((k2_ 72 2), p0_), ((k2_ 72 3), p0_)] StL132
noncomputable def StL135 : List V := lput [] [(ag_ [(k2_ 72 0), p0_]), (ag_ [(k2_ 72 1), p0_]), (ag_ [(k2_ 72 2), p0_]), (ag_ [(k2_ 72 3), p0_])] StL133
noncomputable def StL136 : List (V × V) := lput [] [((k2_ 73 0), p0_), ((k2_ 73 1), p0_), ((k2_ 73 2), p0_), ((k2_ 73 3), p0_)] StL134
noncomputable def StL137 : List V := lput [] [(ag_ [(k2_ 73 0), p0_]), (ag_ [(k2_ 73 1), p0_]), (ag_ [(k2_ 73 2), p0_]), (ag_ [(k2_ 73 3), p0_])] StL135
noncomputable def StL138 : List (V × V) := lput [] [((k2_ 74 0), p0_), ((k2_ 74 1), p0_), ((k2_ 74 2), p0_), ((k2_ 74 3), p0_)] StL136
noncomputable def StL139 : List V := lput [] [(ag_ [(k2_ 74 0), p0_]), (ag_ [(k2_ 74 1), p0_]), (ag_ [(k2_ 74 2), p0_]), (ag_ [(k2_ 74 3), p0_])] StL137
noncomputable def StL140 : List (V × V) := lput [] [((k2_ 75 0), p0_), ((k2_ 75 1), p0_), ((k2_ 75 2), p0_), ((k2_ 75 3), p0_)] StL138
noncomputable def StL141 : List V := lput [] [(ag_ [(k2_ 75 0), p0_]), (ag_ [(k2_ 75 1), p0_]), (ag_ [(k2_ 75 2), p0_]), (ag_ [(k2_ 75 3), p0_])] StL139
noncomputable def StL142 : List (V × V) := lput [] [((k2_ 76 0), p0_), ((k2_ 76 1), p0_), ((k2_ 76 2), p0_), ((k2_ 76 3), p0_)] StL140
noncomputable def StL143 : List V := lput [] [(ag_ [(k2_ 76 0), p0_]), (ag_ [(k2_ 76 1), p0_]), (ag_ [(k2_ 76 2), p0_]), (ag_ [(k2_ 76 3), p0_])] StL141
noncomputable def StL144 : List (V × V) := lput [] [((k2_ 77 0), p0_), ((k2_ 77 1), p0_), ((k2_ 77 2), p0_), ((k2_ 77 3), p0_)] StL142
noncomputable def StL145 : List V := lput [] [(ag_ [(k2_ 77 0), p0_]), (ag_ [(k2_ 77 1), p0_]), (ag_ [(k2_ 77 2), p0_]), (ag_ [(k2_ 77 3), p0_])] StL143
noncomputable def StL146 : List (V × V) := lput [] [((k2_ 78 0), p0_), ((k2_ 78 1), p0_), ((k2_ 78 2), p0_), ((k2_ 78 3), p0_)] StL144
noncomputable def StL147 : List V := lput [] [(ag_ [(k2_ 78 0), p0_]), (ag_ [(k2_ 78 1), p0_]), (ag_ [(k2_ 78 2), p0_]), (ag_ [(k2_ 78 3), p0_])] StL145
noncomputable def StL148 : List (V × V) := lput [] [((k2_ 79 0), p0_), ((k2_ 79 1), p0_), ((k2_ 79 2), p0_), ((k2_ 79 3), p0_)] StL146
noncomputable def StL149 : List V := lput [] [(ag_ [(k2_ 79 0), p0_]), (ag_ [(k2_ 79 1), p0_]), (ag_ [(k2_ 79 2), p0_]), (ag_ [(k2_ 79 3), p0_])] StL147
noncomputable def StL150 : List (V × V) := lput [] [((k2_ 80 0), p0_), ((k2_ 80 1), p0_), ((k2_ 80 2), p0_), ((k2_ 80 3), p0_)] StL148
noncomputable def StL151 : List V := lput [] [(ag_ [(k2_ 80 0), p0_]), (ag_ [(k2_ 80 1), p0_]), (ag_ [(k2_ 80 2), p0_]), (ag_ [(k2_ 80 3), p0_])] StL149
noncomputable def StL152 : List (V × V) := lput [] [((k2_ 81 0), p0_), ((k2_ 81 1), p0_), ((k2_ 81 2), p0_), ((k2_ 81 3), p0_)] StL150
noncomputable def StL153 : List V := lput [] [(ag_ [(k2_ 81 0), p0_]), (ag_ [(k2_ 81 1), p0_]), (ag_ [(k2_ 81 2), p0_]), (ag_ [(k2_ 81 3), p0_])] StL151
noncomputable def StL154 : List (V × V) := lput [] [((k2_ 82 0), p0_), ((k2_ 82 1), p0_), ((k2_ 82 2), p0_), ((k2_ 82 3), p0_)] StL152
noncomputable def StL155 : List V := lput [] [(ag_ [(k2_ 82 0), p0_]), (ag_ [(k2_ 82 1), p0_]), (ag_ [(k2_ 82 2), p0_]), (ag_ [(k2_ 82 3), p0_])] StL153
noncomputable def StL156 : List (V × V) := lput [] [((k2_ 83 0), p0_), ((k2_ 83 1), p0_), ((k2_ 83 2), p0_), ((k2_ 83 3), p0_)] StL154
noncomputable def StL157 : List V := lput [] [(ag_ [(k2_ 83 0), p0_]), (ag_ [(k2_ 83 1), p0_]), (ag_ [(k2_ 83 2), p0_]), (ag_ [(k2_ 83 3), p0_])] StL155
noncomputable def StL158 : List (V × V) := lput [] [((k2_ 84 0), p0_), ((k2_ 84 1), p0_), ((k2_ 84 2), p0_), ((k2_ 84 3), p0_)] StL156
noncomputable def StL159 : List V := lput [] [(ag_ [(k2_ 84 0), p0_]), (ag_ [(k2_ 84 1), p0_]), (ag_ [(k2_ 84 2), p0_]), (ag_ [(k2_ 84 3), p0_])] StL157
noncomputable def StL160 : List (V × V) := lput [] [((k2_ 85 0), p0_), ((k2_ 85 1), p0_), ((k2_ 85 2), p0_), ((k2_ 85 3), p0_)] StL158
noncomputable def StL161 : List V := lput [] [(ag_ [(k2_ 85 0), p0_]), (ag_ [(k2_ 85 1), p0_]), (ag_ [(k2_ 85 2), p0_]), (ag_ [(k2_ 85 3), p0_])] StL159
noncomputable def StL162 : List (V × V) := lput [] [((k2_ 86 0), p0_), ((k2_ 86 1), p0_), ((k2_ 86 2), p0_), ((k2_ 86 3), p0_)] StL160
noncomputable def StL163 : List V := lput [] [(ag_ [(k2_ 86 0), p0_]), (ag_ [(k2_ 86 1), p0_]), (ag_ [(k2_ 86 2), p0_]), (ag_ [(k2_ 86 3), p0_])] StL161
noncomputable def StL164 : List (V × V) := lput [] [((k2_ 87 0), p0_), ((k2_ 87 1), p0_), ((k2_ 87 2), p0_), ((k2_ 87 3), p0_)] StL162
noncomputable def StL165 : List V := lput [] [(ag_ [(k2_ 87 0), p0_]), (ag_ [(k2_ 87 1), p0_]), (ag_ [(k2_ 87 2), p0_]), (ag_ [(k2_ 87 3), p0_])] StL163
noncomputable def StL166 : List (V × V) := lput [] [((k2_ 88 0), p0_), ((k2_ 88 1), p0_), ((k2_ 88 2), p0_), ((k2_ 88 3), p0_)] StL164
noncomputable def StL167 : List V := lput [] [(ag_ [(k2_ 88 0), p0_]), (ag_ [(k2_ 88 1), p0_]), (ag_ [(k2_ 88 2), p0_]), (ag_ [(k2_ 88 3), p0_])] StL165
noncomputable def StL168 : List (V × V) := lput [] [((k2_ 89 0), p0_), ((k2_ 89 1), p0_), ((k2_ 89 2), p0_), ((k2_ 89 3), p0_)] StL166
noncomputable def StL169 : List V := lput [] [(ag_ [(k2_ 89 0), p0_]), (ag_ [(k2_ 89 1), p0_]), (ag_ [(k2_ 89 2), p0_]), (ag_ [(k2_ 89 3), p0_])] StL167
noncomputable def StL170 : List (V × V) := lput [] [((k2_ 90 0), p0_), ((k2_ 90 1), p0_), ((k2_ 90 2), p0_), ((k2_ 90 3), p0_)] StL168
noncomputable def StL171 : List V := lput [] [(ag_ [(k2_ 90 0), p0_]), (ag_ [(k2_ 90 1), p0_]), (ag_ [(k2_ 90 2), p0_]), (ag_ [(k2_ 90 3), p0_])] StL169
noncomputable def StL172 : List (V × V) := lput [] [((k2_ 91 0), p0_), ((k2_ 91 1), p0_), ((k2_ 91 2), p0_), ((k2_ 91 3), p0_)] StL170
noncomputable def StL173 : List V := lput [] [(ag_ [(k2_ 91 0), p0_]), (ag_ [(k2_ 91 1), p0_]), (ag_ [(k2_ 91 2), p0_]), (ag_ [(k2_ 91 3), p0_])] StL171
noncomputable def StL174 : List (V × V) := lput [] [((k2_ 92 0), p0_), ((k2_ 92 1), p0_), ((k2_ 92 2), p0_), ((k2_ 92 3), p0_)] StL172
noncomputable def StL175 : List V := lput [] [(ag_ [(k2_ 92 0), p0_]), (ag_ [(k2_ 92 1), p0_]), (ag_ [(k2_ 92 2), p0_]), (ag_ [(k2_ 92 3), p0_])] StL173
noncomputable def StL176 : List (V × V) := lput [] [((k2_ 93 0), p0_), ((k2_ 93 1), p0_), ((k2_ 93 2), p0_), ((k2_ 93 3), p0_)] StL174
noncomputable def StL177 : List V := lput [] [(ag_ [(k2_ 93 0), p0_]), (ag_ [(k2_ 93 1), p0_]), (ag_ [(k2_ 93 2), p0_]), (ag_ [(k2_ 93 3), p0_])] StL175
noncomputable def StL178 : List (V × V) := lput [] [((k2_ 94 0), p0_), ((k2_ 94 1), p0_), ((k2_ 94 2), p0_), ((k2_ 94 3), p0_)] StL176
noncomputable def StL179 : List V := lput [] [(ag_ [(k2_ 94 0), p0_]), (ag_ [(k2_ 94 1), p0_]), (ag_ [(k2_ 94 2), p0_]), (ag_ [(k2_ 94 3), p0_])] StL177
noncomputable def StL180 : List (V × V) := lput [] [((k2_ 95 0), p0_), ((k2_ 95 1), p0_), ((k2_ 95 2), p0_), ((k2_ 95 3), p0_)] StL178
noncomputable def StL181 : List V := lput [] [(ag_ [(k2_ 95 0), p0_]), (ag_ [(k2_ 95 1), p0_]), (ag_ [(k2_ 95 2), p0_]), (ag_ [(k2_ 95 3), p0_])] StL179
noncomputable def StL182 : List (V × V) := lput [] [((k2_ 96 0), p0_), ((k2_ 96 1), p0_), ((k2_ 96 2), p0_), ((k2_ 96 3), p0_)] StL180
noncomputable def StL183 : List V := lput [] [(ag_ [(k2_ 96 0), p0_]), (ag_ [(k2_ 96 1), p0_]), (ag_ [(k2_ 96 2), p0_]), (ag_ [(k2_ 96 3), p0_])] StL181
noncomputable def StL184 : List (V × V) := lput [] [((k2_ 97 0), p0_), ((k2_ 97 1), p0_), ((k2_ 97 2), p0_), ((k2_ 97 3), p0_)] StL182
noncomputable def StL185 : List V := lput [] [(ag_ [(k2_ 97 0), p0_]), (ag_ [(k2_ 97 1), p0_]), (ag_ [(k2_ 97 2), p0_]), (ag_ [(k2_ 97 3), p0_])] StL183
noncomputable def StL186 : List (V × V) := lput [] [((k2_ 98 0), p0_), ((k2_ 98 1), p0_), ((k2_ 98 2), p0_), ((k2_ 98 3), p0_)] StL184
noncomputable def StL187 : List V := lput [] [(ag_ [(k2_ 98 0), p0_]), (ag_ [(k2_ 98 1), p0_]), (ag_ [(k2_ 98 2), p0_]), (ag_ [(k2_ 98 3), p0_])] StL185
noncomputable def StL188 : List (V × V) := lput [] [((k2_ 99 0), p0_), ((k2_ 99 1), p0_), ((k2_ 99 2), p0_), ((k2_ 99 3), p0_)] StL186
noncomputable def StL189 : List V := lput [] [(ag_ [(k2_ 99 0), p0_]), (ag_ [(k2_ 99 1), p0_]), (ag_ [(k2_ 99 2), p0_]), (ag_ [(k2_ 99 3), p0_])] StL187
noncomputable def StL190 : List (V × V) := lput [] [((k2_ 100 0), p0_), ((k2_ 100 1), p0_), ((k2_ 100 2), p0_), ((k2_ 100 3), p0_)] StL188
noncomputable def StL191 : List V := lput [] [(ag_ [(k2_ 100 0), p0_]), (ag_ [(k2_ 100 1), p0_]), (ag_ [(k2_ 100 2), p0_]), (ag_ [(k2_ 100 3), p0_])] StL189
noncomputable def StL192 : List (V × V) := lput [] [((k2_ 101 0), p0_), ((k2_ 101 1), p0_), ((k2_ 101 2), p0_), ((k2_ 101 3), p0_)] StL190
noncomputable def StL193 : List V := lput [] [(ag_ [(k2_ 101 0), p0_]), (ag_ [(k2_ 101 1), p0_]), (ag_ [(k2_ 101 2), p0_]), (ag_ [(k2_ 101 3), p0_])] StL191
noncomputable def StL194 : List (V × V) := lput [] [((k2_ 102 0), p0_), ((k2_ 102 1), p0_), ((k2_ 102 2), p0_), ((k2_ 102 3), p0_)] StL192
noncomputable def StL195 : List V := lput [] [(ag_ [(k2_ 102 0), p0_]), (ag_ [(k2_ 102 1), p0_]), (ag_ [(k2_ 102 2), p0_]), (ag_ [(k2_ 102 3), p0_])] StL193
noncomputable def StL196 : List (V × V) := lput [] [((k2_ 103 0), p0_), ((k2_ 103 1), p0_), ((k2_ 103 2), p0_), ((k2_ 103 3), p0_)] StL194
noncomputable def StL197 : List V := lput [] [(ag_ [(k2_ 103 0), p0_]), (ag_ [(k2_ 103 1), p0_]), (ag_ [(k2_ 103 2), p0_]), (ag_ [(k2_ 103 3), p0_])] StL195
noncomputable def StL198 : List (V × V) := lput [] [((k2_ 104 0), p0_), ((k2_ 104 1), p0_), ((k2_ 104 2), p0_), ((k2_ 104 3), p0_)] StL196
noncomputable def StL199 : List V := lput [] [(ag_ [(k2_ 104 0), p0_]), (ag_ [(k2_ 104 1), p0_]), (ag_ [(k2_ 104 2), p0_]), (ag_ [(k2_ 104 3), p0_])] StL197
noncomputable def StL200 : List (V × V) := lput [] [((k2_ 105 0), p0_), ((k2_ 105 1), p0_), ((k2_ 105 2), p0_), ((k2_ 105 3), p0_)] StL198
noncomputable def StL201 : List V := lput [] [(ag_ [(k2_ 105 0), p0_]), (ag_ [(k2_ 105 1), p0_]), (ag_ [(k2_ 105 2), p0_]), (ag_ [(k2_ 105 3), p0_])] StL199
noncomputable def StL202 : List (V × V) := lput [] [((k2_ 106 0), p0_), ((k2_ 106 1), p0_), ((k2_ 106 2), p0_), ((k2_ 106 3), p0_)] StL200
noncomputable def StL203 : List V := lput [] [(ag_ [(k2_ 106 0), p0_]), (ag_ [(k2_ 106 1), p0_]), (ag_ [(k2_ 106 2), p0_]), (ag_ [(k2_ 106 3), p0_])] StL201
noncomputable def StL204 : List (V × V) := lput [] [((k2_ 107 0), p0_), ((k2_ 107 1), p0_), ((k2_ 107 2), p0_), ((k2_ 107 3), p0_)] StL202
noncomputable def StL205 : List V := lput [] [(ag_ [(k2_ 107 0), p0_]), (ag_ [(k2_ 107 1), p0_]), (ag_ [(k2_ 107 2), p0_]), (ag_ [(k2_ 107 3), p0_])] StL203
noncomputable def StL206 : List (V × V) := lput [] [((k2_ 108 0), p0_), ((k2_ 108 1), p0_), ((k2_ 108 2), p0_), ((k2_ 108 3), p0_)] StL204
noncomputable def StL207 : List V := lput [] [(ag_ [(k2_ 108 0), p0_]), (ag_ [(k2_ 108 1), p0_]), (ag_ [(k2_ 108 2), p0_]), (ag_ [(k2_ 108 3), p0_])] StL205
noncomputable def StL208 : List (V × V) := lput [] [((k2_ 109 0), p0_), ((k2_ 109 1), p0_), ((k2_ 109 2), p0_), ((k2_ 109 3), p0_)] StL206
noncomputable def StL209 : List V := lput [] [(ag_ [(k2_ 109 0), p0_]), (ag_ [(k2_ 109 1), p0_]), (ag_ [(k2_ 109 2), p0_]), (ag_ [(k2_ 109 3), p0_])] StL207
noncomputable def StL210 : List (V × V) := lput [] [((k2_ 110 0), p0_), ((k2_ 110 1), p0_), ((k2_ 110 2), p0_), ((k2_ 110 3), p0_)] StL208
noncomputable def StL211 : List V := lput [] [(ag_ [(k2_ 110 0), p0_]), (ag_ [(k2_ 110 1), p0_]), (ag_ [(k2_ 110 2), p0_]), (ag_ [(k2_ 110 3), p0_])] StL209
noncomputable def StL212 : List (V × V) := lput [] [((k2_ 111 0), p0_), ((k2_ 111 1), p0_), ((k2_ 111 2), p0_), ((k2_ 111 3), p0_)] StL210
noncomputable def StL213 : List V := lput [] [(ag_ [(k2_ 111 0), p0_]), (ag_ [(k2_ 111 1), p0_]), (ag_ [(k2_ 111 2), p0_]), (ag_ [(k2_ 111 3), p0_])] StL211
noncomputable def StL214 : List (V × V) := lput [] [((k2_ 112 0), p0_), ((k2_ 112 1), p0_), ((k2_ 112 2), p0_), ((k2_ 112 3), p0_)] StL212
noncomputable def StL215 : List V := lput [] [(ag_ [(k2_ 112 0), p0_]), (ag_ [(k2_ 112 1), p0_]), (ag_ [(k2_ 112 2), p0_]), (ag_ [(k2_ 112 3), p0_])] StL213
noncomputable def StL216 : List (V × V) := lput [] [((k2_ 113 0), p0_), ((k2_ 113 1), p0_), ((k2_ 113 2), p0_), ((k2_ 113 3), p0_)] StL214
noncomputable def StL217 : List V := lput [] [(ag_ [(k2_ 113 0), p0_]), (ag_ [(k2_ 113 1), p0_]), (ag_ [(k2_ 113 2), p0_]), (ag_ [(k2_ 113 3), p0_])] StL215
noncomputable def StL218 : List (V × V) := lput [] [((k2_ 114 0), p0_), ((k2_ 114 1), p0_), ((k2_ 114 2), p0_), ((k2_ 114 3), p0_)] StL216
noncomputable def StL219 : List V := lput [] [(ag_ [(k2_ 114 0), p0_]), (ag_ [(k2_ 114 1), p0_]), (ag_ [(k2_ 114 2), p0_]), (ag_ [(k2_ 114 3), p0_])] StL217
noncomputable def StL220 : List (V × V) := lput [] [((k2_ 115 0), p0_), ((k2_ 115 1), p0_), ((k2_ 115 2), p0_), ((k2_ 115 3), p0_)] StL218
noncomputable def StL221 : List V := lput [] [(ag_ [(k2_ 115 0), p0_]), (ag_ [(k2_ 115 1), p0_]), (ag_ [(k2_ 115 2), p0_]), (ag_ [(k2_ 115 3), p0_])] StL219
noncomputable def StL222 : List (V × V) := lput [] [((k2_ 116 0), p0_), ((k2_ 116 1), p0_), ((k2_ 116 2), p0_), ((k2_ 116 3), p0_)] StL220
noncomputable def StL223 : List V := lput [] [(ag_ [(k2_ 116 0), p0_]), (ag_ [(k2_ 116 1), p0_]), (ag_ [(k2_ 116 2), p0_]), (ag_ [(k2_ 116 3), p0_])] StL221
noncomputable def StL224 : List (V × V) := lput [] [((k2_ 117 0), p0_), ((k2_ 117 1), p0_), ((k2_ 117 2), p0_), ((k2_ 117 3), p0_)] StL222
noncomputable def StL225 : List V := lput [] [(ag_ [(k2_ 117 0), p0_]), (ag_ [(k2_ 117 1), p0_]), (ag_ [(k2_ 117 2), p0_]), (ag_ [(k2_ 117 3), p0_])] StL223
noncomputable def StL226 : List (V × V) := lput [] [((k2_ 118 0), p0_), ((k2_ 118 1), p0_), ((k2_ 118 2), p0_), ((k2_ 118 3), p0_)] StL224
noncomputable def StL227 : List V := lput [] [(ag_ [(k2_ 118 0), p0_]), (ag_ [(k2_ 118 1), p0_]), (ag_ [(k2_ 118 2), p0_]), (ag_ [(k2_ 118 3), p0_])] StL225
noncomputable def StL228 : List (V × V) := lput [] [((k2_ 119 0), p0_), ((k2_ 119 1), p0_), ((k2_ 119 2), p0_), ((k2_ 119 3), p0_)] StL226
noncomputable def StL229 : List V := lput [] [(ag_ [(k2_ 119 0), p0_]), (ag_ [(k2_ 119 1), p0_]), (ag_ [(k2_ 119 2), p0_]), (ag_ [(k2_ 119 3), p0_])] StL227
noncomputable def StL230 : List (V × V) := lput [] [((k2_ 120 0), p0_), ((k2_ 120 1), p0_), ((k2_ 120 2), p0_), ((k2_ 120 3), p0_)] StL228
noncomputable def StL231 : List V := lput [] [(ag_ [(k2_ 120 0), p0_]), (ag_ [(k2_ 120 1), p0_]), (ag_ [(k2_ 120 2), p0_]), (ag_ [(k2_ 120 3), p0_])] StL229
noncomputable def StL232 : List (V × V) := lput [] [((k2_ 121 0), p0_), ((k2_ 121 1), p0_), ((k2_ 121 2), p0_), ((k2_ 121 3), p0_)] StL230
noncomputable def StL233 : List V := lput [] [(ag_ [(k2_ 121 0), p0_]), (ag_ [(k2_ 121 1), p0_]), (ag_ [(k2_ 121 2), p0_]), (ag_ [(k2_ 121 3), p0_])] StL231
noncomputable def StL234 : List (V × V) := lput [] [((k2_ 122 0), p0_), ((k2_ 122 1), p0_), ((k2_ 122 2), p0_), ((k2_ 122 3), p0_)] StL232
noncomputable def StL235 : List V := lput [] [(ag_ [(k2_ 122 0), p0_]), (ag_ [(k2_ 122 1), p0_]), (ag_ [(k2_ 122 2), p0_]), (ag_ [(k2_ 122 3), p0_])] StL233
noncomputable def StL236 : List (V × V) := lput [] [((k2_ 123 0), p0_), ((k2_ 123 1), p0_), ((k2_ 123 2), p0_), ((k2_ 123 3), p0_)] StL234
noncomputable def StL237 : List V := lput [] [(ag_ [(k2_ 123 0), p0_]), (ag_ [(k2_ 123 1), p0_]), (ag_ [(k2_ 123 2), p0_]), (ag_ [(k2_ 123 3), p0_])] StL235
noncomputable def StL238 : List (V × V) := lput [] [((k2_ 124 0), p0_), ((k2_ 124 1), p0_), ((k2_ 124 2), p0_), ((k2_ 124 3), p0_)] StL236
noncomputable def StL239 : List V := lput [] [(ag_ [(k2_ 124 0), p0_]), (ag_ [(k2_ 124 1), p0_]), (ag_ [(k2_ 124 2), p0_]), (ag_ [(k2_ 124 3), p0_])] StL237
noncomputable def StL240 : List (V × V) := lput [] [((k2_ 125 0), p0_), ((k2_ 125 1), p0_), ((k2_ 125 2), p0_), ((k2_ 125 3), p0_)] StL238
noncomputable def StL241 : List V := lput [] [(ag_ [(k2_ 125 0), p0_]), (ag_ [(k2_ 125 1), p0_]), (ag_ [(k2_ 125 2), p0_]), (ag_ [(k2_ 125 3), p0_])] StL239
noncomputable def StL242 : List (V × V) := lput [] [((k2_ 126 0), p0_), ((k2_ 126 1), p0_), ((k2_ 126 2), p0_), ((k2_ 126 3), p0_)] StL240
noncomputable def StL243 : List V := lput [] [(ag_ [(k2_ 126 0), p0_]), (ag_ [(k2_ 126 1), p0_]), (ag_ [(k2_ 126 2), p0_]), (ag_ [(k2_ 126 3), p0_])] StL241
noncomputable def StL244 : List (V × V) := lput [] [((k2_ 127 0), p0_), ((k2_ 127 1), p0_), ((k2_ 127 2), p0_), ((k2_ 127 3), p0_)] StL242
noncomputable def StL245 : List V := lput [] [(ag_ [(k2_ 127 0), p0_]), (ag_ [(k2_ 127 1), p0_]), (ag_ [(k2_ 127 2), p0_]), (ag_ [(k2_ 127 3), p0_])] StL243
noncomputable def StL246 : List (V × V) := lput [] [((k2_ 128 0), p0_), ((k2_ 128 1), p0_), ((k2_ 128 2), p0_), ((k2_ 128 3), p0_)] StL244
noncomputable def StL247 : List V := lput [] [(ag_ [(k2_ 128 0), p0_]), (ag_ [(k2_ 128 1), p0_]), (ag_ [(k2_ 128 2), p0_]), (ag_ [(k2_ 128 3), p0_])] StL245
noncomputable def StL248 : List (V × V) := lput [] [((k2_ 129 0), p0_), ((k2_ 129 1), p0_), ((k2_ 129 2), p0_), ((k2_ 129 3), p0_)] StL246
noncomputable def StL249 : List V := lput [] [(ag_ [(k2_ 129 0), p0_]), (ag_ [(k2_ 129 1), p0_]), (ag_ [(k2_ 129 2), p0_]), (ag_ [(k2_ 129 3), p0_])] StL247
noncomputable def StL250 : List (V × V) := lput [] [((k2_ 130 0), p0_), ((k2_ 130 1), p0_), ((k2_ 130 2), p0_), ((k2_ 130 3), p0_)] StL248
noncomputable def StL251 : List V := lput [] [(ag_ [(k2_ 130 0), p0_]), (ag_ [(k2_ 130 1), p0_]), (ag_ [(k2_ 130 2), p0_]), (ag_ [(k2_ 130 3), p0_])] StL249
noncomputable def StL252 : List (V × V) := lput [] [((k2_ 131 0), p0_), ((k2_ 131 1), p0_), ((k2_ 131 2), p0_), ((k2_ 131 3), p0_)] StL250
noncomputable def StL253 : List V := lput [] [(ag_ [(k2_ 131 0), p0_]), (ag_ [(k2_ 131 1), p0_]), (ag_ [(k2_ 131 2), p0_]), (ag_ [(k2_ 131 3), p0_])] StL251
noncomputable def StL254 : List (V × V) := lput [] [((k2_ 132 0), p0_), ((k2_ 132 1), p0_), ((k2_ 132 2), p0_), ((k2_ 132 3), p0_)] StL252
noncomputable def StL255 : List V := lput [] [(ag_ [(k2_ 132 0), p0_]), (ag_ [(k2_ 132 1), p0_]), (ag_ [(k2_ 132 2), p0_]), (ag_ [(k2_ 132 3), p0_])] StL253
noncomputable def StL256 : List (V × V) := lput [] [((k2_ 133 0), p0_), ((k2_ 133 1), p0_), ((k2_ 133 2), p0_), ((k2_ 133 3), p0_)] StL254
noncomputable def StL257 : List V := lput [] [(ag_ [(k2_ 133 0), p0_]), (ag_ [(k2_ 133 1), p0_]), (ag_ [(k2_ 133 2), p0_]), (ag_ [(k2_ 133 3), p0_])] StL255
noncomputable def StL258 : List (V × V) := lput [] [((k2_ 134 0), p0_), ((k2_ 134 1), p0_), ((k2_ 134 2), p0_), ((k2_ 134 3), p0_)] StL256
noncomputable def StL259 : List V := lput [] [(ag_ [(k2_ 134 0), p0_]), (ag_ [(k2_ 134 1), p0_]), (ag_ [(k2_ 134 2), p0_]), (ag_ [(k2_ 134 3), p0_])] StL257
noncomputable def StL260 : List (V × V) := lput [] [((k2_ 135 0), p0_), ((k2_ 135 1), p0_), ((k2_ 135 2), p0_), ((k2_ 135 3), p0_)] StL258
noncomputable def StL261 : List V := lput [] [(ag_ [(k2_ 135 0), p0_]), (ag_ [(k2_ 135 1), p0_]), (ag_ [(k2_ 135 2), p0_]), (ag_ [(k2_ 135 3), p0_])] StL259
noncomputable def StL262 : List (V × V) := lput [] [((k2_ 136 0), p0_), ((k2_ 136 1), p0_), ((k2_ 136 2), p0_), ((k2_ 136 3), p0_)] StL260
noncomputable def StL263 : List V := lput [] [(ag_ [(k2_ 136 0), p0_]), (ag_ [(k2_ 136 1), p0_]), (ag_ [(k2_ 136 2), p0_]), (ag_ [(k2_ 136 3), p0_])] StL261
noncomputable def StL264 : List (V × V) := lput [] [((k2_ 137 0), p0_), ((k2_ 137 1), p0_), ((k2_ 137 2), p0_), ((k2_ 137 3), p0_)] StL262
noncomputable def StL265 : List V := lput [] [(ag_ [(k2_ 137 0), p0_]), (ag_ [(k2_ 137 1), p0_]), (ag_ [(k2_ 137 2), p0_]), (ag_ [(k2_ 137 3), p0_])] StL263
noncomputable def StL266 : List (V × V) := lput [] [((k2_ 138 0), p0_), ((k2_ 138 1), p0_), ((k2_ 138 2), p0_), ((k2_ 138 3), p0_)] StL264
noncomputable def StL267 : List V := lput [] [(ag_ [(k2_ 138 0), p0_]), (ag_ [(k2_ 138 1), p0_]), (ag_ [(k2_ 138 2), p0_]), (ag_ [(k2_ 138 3), p0_])] StL265
noncomputable def StL268 : List (V × V) := lput [] [((k2_ 139 0), p0_), ((k2_ 139 1), p0_), ((k2_ 139 2), p0_), ((k2_ 139 3), p0_)] StL266
noncomputable def StL269 : List V := lput [] [(ag_ [(k2_ 139 0), p0_]), (ag_ [(k2_ 139 1), p0_]), (ag_ [(k2_ 139 2), p0_]), (ag_ [(k2_ 139 3), p0_])] StL267
noncomputable def StL270 : List (V × V) := lput [] [((k2_ 140 0), p0_), ((k2_ 140 1), p0_), ((k2_ 140 2), p0_), ((k2_ 140 3), p0_)] StL268
noncomputable def StL271 : List V := lput [] [(ag_ [(k2_ 140 0), p0_]), (ag_ [(k2_ 140 1), p0_]), (ag_ [(k2_ 140 2), p0_]), (ag_ [(k2_ 140 3), p0_])] StL269
noncomputable def StL272 : List (V × V) := lput [] [((k2_ 141 0), p0_), ((k2_ 141 1), p0_), ((k2_ 141 2), p0_), ((k2_ 141 3), p0_)] StL270
noncomputable def StL273 : List V := lput [] [(ag_ [(k2_ 141 0), p0_]), (ag_ [(k2_ 141 1), p0_]), (ag_ [(k2_ 141 2), p0_]), (ag_ [(k2_ 141 3), p0_])] StL271
noncomputable def StL274 : List (V × V) := lput [] [((k2_ 142 0), p0_), ((k2_ 142 1), p0_), ((k2_ 142 2), p0_), ((k2_ 142 3), p0_)] StL272
noncomputable def StL275 : List V := lput [] [(ag_ [(k2_ 142 0), p0_]), (ag_ [(k2_ 142 1), p0_]), (ag_ [(k2_ 142 2), p0_]), (ag_ [(k2_ 142 3), p0_])] StL273
noncomputable def StL276 : List (V × V) := lput [] [((k2_ 143 0), p0_), ((k2_ 143 1), p0_), ((k2_ 143 2), p0_), ((k2_ 143 3), p0_)] StL274
noncomputable def StL277 : List V := lput [] [(ag_ [(k2_ 143 0), p0_]), (ag_ [(k2_ 143 1), p0_]), (ag_ [(k2_ 143 2), p0_]), (ag_ [(k2_ 143 3), p0_])] StL275
noncomputable def StL278 : List (V × V) := lput [] [((k2_ 144 0), p0_), ((k2_ 144 1), p0_), ((k2_ 144 2), p0_), ((k2_ 144 3), p0_)] StL276
noncomputable def StL279 : List V := lput [] [(ag_ [(k2_ 144 0), p0_]), (ag_ [(k2_ 144 1), p0_]), (ag_ [(k2_ 144 2), p0_]), (ag_ [(k2_ 144 3), p0_])] StL277
noncomputable def StL280 : List (V × V) := lput [] [((k2_ 145 0), p0_), ((k2_ 145 1), p0_), ((k2_ 145 2), p0_), ((k2_ 145 3), p0_)] StL278
noncomputable def StL281 : List V := lput [] [(ag_ [(k2_ 145 0), p0_]), (ag_ [(k2_ 145 1), p0_]), (ag_ [(k2_ 145 2), p0_]), (ag_ [(k2_ 145 3), p0_])] StL279
noncomputable def StL282 : List (V × V) := lput [] [((k2_ 146 0), p0_), ((k2_ 146 1), p0_), ((k2_ 146 2), p0_), ((k2_ 146 3), p0_)] StL280
noncomputable def StL283 : List V := lput [] [(ag_ [(k2_ 146 0), p0_]), (ag_ [(k2_ 146 1), p0_]), (ag_ [(k2_ 146 2), p0_]), (ag_ [(k2_ 146 3), p0_])] StL281
noncomputable def StL284 : List (V × V) := lput [] [((k2_ 147 0), p0_), ((k2_ 147 1), p0_), ((k2_ 147 2), p0_), ((k2_ 147 3), p0_)] StL282
noncomputable def StL285 : List V := lput [] [(ag_ [(k2_ 147 0), p0_]), (ag_ [(k2_ 147 1), p0_]), (ag_ [(k2_ 147 2), p0_]), (ag_ [(k2_ 147 3), p0_])] StL283
noncomputable def StL286 : List (V × V) := lput [] [((k2_ 148 0), p0_), ((k2_ 148 1), p0_), ((k2_ 148 2), p0_), ((k2_ 148 3), p0_)] StL284
noncomputable def StL287 : List V := lput [] [(ag_ [(k2_ 148 0), p0_]), (ag_ [(k2_ 148 1), p0_]), (ag_ [(k2_ 148 2), p0_]), (ag_ [(k2_ 148 3), p0_])] StL285
noncomputable def StL288 : List (V × V) := lput [] [((k2_ 149 0), p0_), ((k2_ 149 1), p0_), ((k2_ 149 2), p0_), ((k2_ 149 3), p0_)] StL286
noncomputable def StL289 : List V := lput [] [(ag_ [(k2_ 149 0), p0_]), (ag_ [(k2_ 149 1), p0_]), (ag_ [(k2_ 149 2), p0_]), (ag_ [(k2_ 149 3), p0_])] StL287
noncomputable def StL290 : List (V × V) := lput [] [((k2_ 150 0), p0_), ((k2_ 150 1), p0_), ((k2_ 150 2), p0_), ((k2_ 150 3), p0_)] StL288
noncomputable def StL291 : List V := lput [] [(ag_ [(k2_ 150 0), p0_]), (ag_ [(k2_ 150 1), p0_]), (ag_ [(k2_ 150 2), p0_]), (ag_ [(k2_ 150 3), p0_])] StL289
noncomputable def StL292 : List (V × V) := lput [] [((k2_ 151 0), p0_), ((k2_ 151 1), p0_), ((k2_ 151 2), p0_), ((k2_ 151 3), p0_)] StL290
noncomputable def StL293 : List V := lput [] [(ag_ [(k2_ 151 0), p0_]), (ag_ [(k2_ 151 1), p0_]), (ag_ [(k2_ 151 2), p0_]), (ag_ [(k2_ 151 3), p0_])] StL291
noncomputable def StL294 : List (V × V) := lput [] [((k2_ 152 0), p0_), ((k2_ 152 1), p0_), ((k2_ 152 2), p0_), ((k2_ 152 3), p0_)] StL292
noncomputable def StL295 : List V := lput [] [(ag_ [(k2_ 152 0), p0_]), (ag_ [(k2_ 152 1), p0_]), (ag_ [(k2_ 152 2), p0_]), (ag_ [(k2_ 152 3), p0_])] StL293
noncomputable def StL296 : List (V × V) := lput [] [((k2_ 153 0), p0_), ((k2_ 153 1), p0_), ((k2_ 153 2), p0_), ((k2_ 153 3), p0_)] StL294
noncomputable def StL297 : List V := lput [] [(ag_ [(k2_ 153 0), p0_]), (ag_ [(k2_ 153 1), p0_]), (ag_ [(k2_ 153 2), p0_]), (ag_ [(k2_ 153 3), p0_])] StL295
noncomputable def StL298 : List (V × V) := lput [] [((k2_ 154 0), p0_), ((k2_ 154 1), p0_), ((k2_ 154 2), p0_), ((k2_ 154 3), p0_)] StL296
noncomputable def StL299 : List V := lput [] [(ag_ [(k2_ 154 0), p0_]), (ag_ [(k2_ 154 1), p0_]), (ag_ [(k2_ 154 2), p0_]), (ag_ [(k2_ 154 3), p0_])] StL297
noncomputable def StL300 : List (V × V) := lput [] [((k2_ 155 0), p0_), ((k2_ 155 1), p0_), ((k2_ 155 2), p0_), ((k2_ 155 3), p0_)] StL298
noncomputable def StL301 : List V := lput [] [(ag_ [(k2_ 155 0), p0_]), (ag_ [(k2_ 155 1), p0_]), (ag_ [(k2_ 155 2), p0_]), (ag_ [(k2_ 155 3), p0_])] StL299
noncomputable def StL302 : List (V × V) := lput [] [((k2_ 156 0), p0_), ((k2_ 156 1), p0_), ((k2_ 156 2), p0_), ((k2_ 156 3), p0_)] StL300
noncomputable def StL303 : List V := lput [] [(ag_ [(k2_ 156 0), p0_]), (ag_ [(k2_ 156 1), p0_]), (ag_ [(k2_ 156 2), p0_]), (ag_ [(k2_ 156 3), p0_])] StL301
noncomputable def StL304 : List (V × V) := lput [] [((k2_ 157 0), p0_), ((k2_ 157 1), p0_), ((k2_ 157 2), p0_), ((k2_ 157 3), p0_)] StL302
noncomputable def StL305 : List V := lput [] [(ag_ [(k2_ 157 0), p0_]), (ag_ [(k2_ 157 1), p0_]), (ag_ [(k2_ 157 2), p0_]), (ag_ [(k2_ 157 3), p0_])] StL303
noncomputable def StL306 : List (V × V) := lput [] [((k2_ 158 0), p0_), ((k2_ 158 1), p0_), ((k2_ 158 2), p0_), ((k2_ 158 3), p0_)] StL304
noncomputable def StL307 : List V := lput [] [(ag_ [(k2_ 158 0), p0_]), (ag_ [(k2_ 158 1), p0_]), (ag_ [(k2_ 158 2), p0_]), (ag_ [(k2_ 158 3), p0_])] StL305
noncomputable def StL308 : List (V × V) := lput [] [((k2_ 159 0), p0_), ((k2_ 159 1), p0_), ((k2_ 159 2), p0_), ((k2_ 159 3), p0_)] StL306
noncomputable def StL309 : List V := lput [] [(ag_ [(k2_ 159 0), p0_]), (ag_ [(k2_ 159 1), p0_]), (ag_ [(k2_ 159 2), p0_]), (ag_ [(k2_ 159 3), p0_])] StL307
noncomputable def StL310 : List (V × V) := lput [] [((k2_ 160 0), p0_), ((k2_ 160 1), p0_), ((k2_ 160 2), p0_), ((k2_ 160 3), p0_)] StL308
noncomputable def StL311 : List V := lput [] [(ag_ [(k2_ 160 0), p0_]), (ag_ [(k2_ 160 1), p0_]), (ag_ [(k2_ 160 2), p0_]), (ag_ [(k2_ 160 3), p0_])] StL309
noncomputable def StL312 : List (V × V) := lput [] [((k2_ 161 0), p0_), ((k2_ 161 1), p0_), ((k2_ 161 2), p0_), ((k2_ 161 3), p0_)] StL310
noncomputable def StL313 : List V := lput [] [(ag_ [(k2_ 161 0), p0_]), (ag_ [(k2_ 161 1), p0_]), (ag_ [(k2_ 161 2), p0_]), (ag_ [(k2_ 161 3), p0_])] StL311
noncomputable def StL314 : List (V × V) := lput [] [((k2_ 162 0), p0_), ((k2_ 162 1), p0_), ((k2_ 162 2), p0_), ((k2_ 162 3), p0_)] StL312
noncomputable def StL315 : List V := lput [] [(ag_ [(k2_ 162 0), p0_]), (ag_ [(k2_ 162 1), p0_]), (ag_ [(k2_ 162 2), p0_]), (ag_ [(k2_ 162 3), p0_])] StL313
noncomputable def StL316 : List (V × V) := lput [] [((k2_ 163 0), p0_), ((k2_ 163 1), p0_), ((k2_ 163 2), p0_), ((k2_ 163 3), p0_)] StL314
noncomputable def StL317 : List V := lput [] [(ag_ [(k2_ 163 0), p0_]), (ag_ [(k2_ 163 1), p0_]), (ag_ [(k2_ 163 2), p0_]), (ag_ [(k2_ 163 3), p0_])] StL315
noncomputable def StL318 : List (V × V) := lput [] [((k2_ 164 0), p0_), ((k2_ 164 1), p0_), ((k2_ 164 2), p0_), ((k2_ 164 3), p0_)] StL316
noncomputable def StL319 : List V := lput [] [(ag_ [(k2_ 164 0), p0_]), (ag_ [(k2_ 164 1), p0_]), (ag_ [(k2_ 164 2), p0_]), (ag_ [(k2_ 164 3), p0_])] StL317
noncomputable def StL320 : List (V × V) := lput [] [((k2_ 165 0), p0_), ((k2_ 165 1), p0_), ((k2_ 165 2), p0_), ((k2_ 165 3), p0_)] StL318
noncomputable def StL321 : List V := lput [] [(ag_ [(k2_ 165 0), p0_]), (ag_ [(k2_ 165 1), p0_]), (ag_ [(k2_ 165 2), p0_]), (ag_ [(k2_ 165 3), p0_])] StL319
noncomputable def StL322 : List (V × V) := lput [] [((k2_ 166 0), p0_), ((k2_ 166 1), p0_), ((k2_ 166 2), p0_), ((k2_ 166 3), p0_)] StL320
noncomputable def StL323 : List V := lput [] [(ag_ [(k2_ 166 0), p0_]), (ag_ [(k2_ 166 1), p0_]), (ag_ [(k2_ 166 2), p0_]), (ag_ [(k2_ 166 3), p0_])] StL321
noncomputable def StL324 : List (V × V) := lput [] [((k2_ 167 0), p0_), ((k2_ 167 1), p0_), ((k2_ 167 2), p0_), ((k2_ 167 3), p0_)] StL322
noncomputable def StL325 : List V := lput [] [(ag_ [(k2_ 167 0), p0_]), (ag_ [(k2_ 167 1), p0_]), (ag_ [(k2_ 167 2), p0_]), (ag_ [(k2_ 167 3), p0_])] StL323
noncomputable def StL326 : List (V × V) := lput [] [((k2_ 168 0), p0_), ((k2_ 168 1), p0_), ((k2_ 168 2), p0_), ((k2_ 168 3), p0_)] StL324
noncomputable def StL327 : List V := lput [] [(ag_ [(k2_ 168 0), p0_]), (ag_ [(k2_ 168 1), p0_]), (ag_ [(k2_ 168 2), p0_]), (ag_ [(k2_ 168 3), p0_])] StL325
noncomputable def StL328 : List (V × V) := lput [(0, ((k2_ 0 0), (pv_ 64 726838724295606890578031264541430489275518882032037331841404738426938355247373313519710095765446298348502623521692778223273592338145654))), (1, ((k2_ 0 1), (pv_ 64 726838724295606890549323807888004534353641360687318060281490199180639288113397923326191050713763565560762521606266177933534601628614656))), (2, ((k2_ 0 2), (pv_ 64 726838724295606890549323807888004534353641360687318060281490199180639288113397923326191050713763565560762521606266177933534601628614656))), (3, ((k2_ 0 3), (pv_ 64 726838724295606890549323807888004534353641360687318060281490199180639288113397923326191050713763565560762521606266177933534601628614656)))] [] StL326
noncomputable def StL329 : List (V × V) := lput [(4, ((k2_ 1 0), (pv_ 64 1453677448591213781129899983528876430559487811574861687944181975600908895404038611133379326304135241530979625835909088117849157249687926))), (5, ((k2_ 1 1), (pv_ 64 1453677448591213781098647615776009068707282721374636120562980398361278576226795846652382101427527131121525043212532355867069203257229312))), (6, ((k2_ 1 2), (pv_ 64 1453677448591213781098647615776009068707282721374636120562980398361278576226795846652382101427527131121525043212532355867069203257229312))), (7, ((k2_ 1 3), (pv_ 64 1453677448591213781098647615776009068707282721374636120562980398361278576226795846652382101427527131121525043212532355867069203257229312)))] [] StL328
noncomputable def StL330 : List (V × V) := lput [(0, ((k2_ 0 0), (pv_ 64 2180516172886820671658824774730063474091387359243013794717470870368018393772403402595372631715913096469258680108276599921095826304295286))), (1, ((k2_ 0 1), (pv_ 64 2180516172886820671647971423664013603060924082061954180844470597541917864340193769978573152141290696682287564818798533800603804885843968))), (2, ((k2_ 0 2), (pv_ 64 2180516172886820671647971423664013603060924082061954180844470597541917864340193769978573152141290696682287564818798533800603804885843968))), (3, ((k2_ 0 3), (pv_ 64 2180516172886820671647971423664013603060924082061954180844470597541917864340193769978573152141290696682287564818798533800603804885843968)))] [] StL329
noncomputable def StL331 : List (V × V) := lput [(36, ((k2_ 9 0), (pv_ 64 3121748550691542017179732009118156391725576645438467498085349918340208830021591583667541217211514783238965551803503845172601407262843294871191553))), (37, ((k2_ 9 1), (pv_ 64 3121748550315992231381597229793166305748598142664971150859667774308260417874872107616978556278374973865245608522964974216213361119729013129084929))), (38, ((k2_ 9 2), (pv_ 64 3121748550315992231381597229793166305748598142664971150859156959625371738819765620120306103063491971159826931121406622895447975679288285306290176))), (39, ((k2_ 9 3), (pv_ 64 3121748550315992231381597229793166305748598142664971150859156959625371738819765620120306103063491971159826931121406622895447975679288285306290176)))] [] StL330
noncomputable def Stt0 : T8 AO := cleanT (updAll [(co_ 0 51 ((ag_ [(i6_ 3), (i6_ 4), (i6_ 160), (u3_ 100)]))),
  (1, some (.mp 151 152 [])),
  (2, some (.mp 151 152 [])),
  (co_ 3 149 ((ag_ [(i6_ 169), (.map (some 1)), (.map (some 2)), sn_, (.map none), (i6_ 0), (i6_ 0), bf_]))),
  (co_ 4 51 ((ag_ [(i6_ 3), (i6_ 4), (i6_ 160), (u3_ 100)]))),
  (co_ 5 51 ((ag_ [(i6_ 3), (i6_ 4), (i6_ 160), (u3_ 100)]))),
  (co_ 6 53 ((ag_ [(u6_ 0), (u3_ 0), (u3_ 0), (u6_ 0), (u3_ 0), (ag_ [(i6_ 3), (i6_ 4), (i6_ 160), (u3_ 100)])]))),
  (co_ 7 51 ((ag_ [(i6_ 3), (i6_ 4), (i6_ 160), (u3_ 100)]))),
  (co_ 8 41 ((pv_ 256 0)))] .nil)
noncomputable def Stt1 : T8 AO := cleanT (updAll [(2, some (.mp 151 152 [((k2_ 0 0), p0_), ((k2_ 0 1), p0_), ((k2_ 0 2), p0_), ((k2_ 0 3), p0_)])),
  (co_ 3 149 ((ag_ [(i6_ 169), (.map (some 1)), (.map (some 2)), (sl_ 21 155 4), (.map none), (i6_ 0), (i6_ 1), bf_]))),
  (cr_ 21 155 (([(ag_ [(k2_ 0 0), p0_]), (ag_ [(k2_ 0 1), p0_]), (ag_ [(k2_ 0 2), p0_]), (ag_ [(k2_ 0 3), p0_])])))] Stt0)
noncomputable def Stt2 : T8 AO := cleanT (updAll [(co_ 22 41 ((pv_ 256 0)))] Stt1)
noncomputable def Stt3 : T8 AO := cleanT (updAll [(2, some (.mp 151 152 [((k2_ 0 0), p0_), ((k2_ 0 1), p0_), ((k2_ 0 2), p0_), ((k2_ 0 3), p0_), ((k2_ 1 0), p0_), ((k2_ 1 1), p0_), ((k2_ 1 2), p0_), ((k2_ 1 3), p0_)])),
  (co_ 3 149 ((ag_ [(i6_ 169), (.map (some 1)), (.map (some 2)), (sl_ 35 155 8), (.map none), (i6_ 0), (i6_ 2), bf_]))),
  (21, none),
  (cr_ 35 155 (([(ag_ [(k2_ 0 0), p0_]), (ag_ [(k2_ 0 1), p0_]), (ag_ [(k2_ 0 2), p0_]), (ag_ [(k2_ 0 3), p0_]), (ag_ [(k2_ 1 0), p0_]), (ag_ [(k2_ 1 1), p0_]), (ag_ [(k2_ 1 2), p0_]), (ag_ [(k2_ 1 3), p0_])])))] Stt2)
noncomputable def Stt4 : T8 AO := cleanT (updAll [(co_ 36 41 ((pv_ 256 33506406212567041)))] Stt3)
noncomputable def Stt5 : T8 AO := cleanT (updAll [(2, some (.mp 151 152 [((k2_ 0 0), p0_), ((k2_ 0 1), p0_), ((k2_ 0 2), p0_), ((k2_ 0 3), p0_), ((k2_ 1 0), p0_), ((k2_ 1 1), p0_), ((k2_ 1 2), p0_), ((k2_ 1 3), p0_), ((k2_ 2 0), (pv_ 64 33506406212567041)), ((k2_ 2 1), p0_), ((k2_ 2 2), p0_), ((k2_ 2 3), p0_)])),
  (co_ 3 149 ((ag_ [(i6_ 169), (.map (some 1)), (.map (some 2)), (sl_ 49 155 12), (.map none), (i6_ 0), (i6_ 3), bf_]))),
  (35, none),
  (cr_ 49 155 (([(ag_ [(k2_ 0 0), p0_]), (ag_ [(k2_ 0 1), p0_]), (ag_ [(k2_ 0 2), p0_]), (ag_ [(k2_ 0 3), p0_]), (ag_ [(k2_ 1 0), p0_]), (ag_ [(k2_ 1 1), p0_]), (ag_ [(k2_ 1 2), p0_]), (ag_ [(k2_ 1 3), p0_]), (ag_ [(k2_ 2 0), (pv_ 64 33506406212567041)]), (ag_ [(k2_ 2 1), p0_]), (ag_ [(k2_ 2 2), p0_]), (ag_ [(k2_ 2 3), p0_])])))] Stt4)
noncomputable def Stt6 : T8 AO := cleanT (updAll [(co_ 50 41 ((pv_ 256 36048469110030593)))] Stt5)
noncomputable def Stt7 : T8 AO := cleanT (updAll [(2, some (.mp 151 152 [((k2_ 0 0), p0_), ((k2_ 0 1), p0_), ((k2_ 0 2), p0_), ((k2_ 0 3), p0_), ((k2_ 1 0), p0_), ((k2_ 1 1), p0_), ((k2_ 1 2), p0_), ((k2_ 1 3), p0_), ((k2_ 2 0), (pv_ 64 33506406212567041)), ((k2_ 2 1), p0_), ((k2_ 2 2), p0_), ((k2_ 2 3), p0_), ((k2_ 3 0), (pv_ 64 36048469110030593)), ((k2_ 3 1), p0_), ((k2_ 3 2), p0_), ((k2_ 3 3), p0_)])),
  (co_ 3 149 ((ag_ [(i6_ 169), (.map (some 1)), (.map (some 2)), (sl_ 63 155 16), (.map none), (i6_ 0), (i6_ 4), bf_]))),
  (49, none),
  (cr_ 63 155 (([(ag_ [(k2_ 0 0), p0_]), (ag_ [(k2_ 0 1), p0_]), (ag_ [(k2_ 0 2), p0_]), (ag_ [(k2_ 0 3), p0_]), (ag_ [(k2_ 1 0), p0_]), (ag_ [(k2_ 1 1), p0_]), (ag_ [(k2_ 1 2), p0_]), (ag_ [(k2_ 1 3), p0_]), (ag_ [(k2_ 2 0), (pv_ 64 33506406212567041)]), (ag_ [(k2_ 2 1), p0_]), (ag_ [(k2_ 2 2), p0_]), (ag_ [(k2_ 2 3), p0_]), (ag_ [(k2_ 3 0), (pv_ 64 36048469110030593)]), (ag_ [(k2_ 3 1), p0_]), (ag_ [(k2_ 3 2), p0_]), (ag_ [(k2_ 3 3), p0_])])))] Stt6)
noncomputable def Stt8 : T8 AO := cleanT (updAll [(co_ 64 41 ((pv_ 256 18657495387996673)))] Stt7)
noncomputable def Stt9 : T8 AO := cleanT (updAll [(2, some (.mp 151 152 [((k2_ 0 0), p0_), ((k2_ 0 1), p0_), ((k2_ 0 2), p0_), ((k2_ 0 3), p0_), ((k2_ 1 0), p0_), ((k2_ 1 1), p0_), ((k2_ 1 2), p0_), ((k2_ 1 3), p0_), ((k2_ 2 0), (pv_ 64 33506406212567041)), ((k2_ 2 1), p0_), ((k2_ 2 2), p0_), ((k2_ 2 3), p0_), ((k2_ 3 0), (pv_ 64 36048469110030593)), ((k2_ 3 1), p0_), ((k2_ 3 2), p0_), ((k2_ 3 3), p0_), ((k2_ 4 0), (pv_ 64 18657495387996673)), ((k2_ 4 1), p0_), ((k2_ 4 2), p0_), ((k2_ 4 3), p0_)])),
  (co_ 3 149 ((ag_ [(i6_ 169), (.map (some 1)), (.map (some 2)), (sl_ 77 155 20), (.map none), (i6_ 0), (i6_ 5), bf_]))),
  (63, none),
  (cr_ 77 155 (([(ag_ [(k2_ 0 0), p0_]), (ag_ [(k2_ 0 1), p0_]), (ag_ [(k2_ 0 2), p0_]), (ag_ [(k2_ 0 3), p0_]), (ag_ [(k2_ 1 0), p0_]), (ag_ [(k2_ 1 1), p0_]), (ag_ [(k2_ 1 2), p0_]), (ag_ [(k2_ 1 3), p0_]), (ag_ [(k2_ 2 0), (pv_ 64 33506406212567041)]), (ag_ [(k2_ 2 1), p0_]), (ag_ [(k2_ 2 2), p0_]), (ag_ [(k2_ 2 3), p0_]), (ag_ [(k2_ 3 0), (pv_ 64 36048469110030593)]), (ag_ [(k2_ 3 1), p0_]), (ag_ [(k2_ 3 2), p0_]), (ag_ [(k2_ 3 3), p0_]), (ag_ [(k2_ 4 0), (pv_ 64 18657495387996673)]), (ag_ [(k2_ 4 1), p0_]), (ag_ [(k2_ 4 2), p0_]), (ag_ [(k2_ 4 3), p0_])])))] Stt8)
noncomputable def Stt10 : T8 AO := cleanT (updAll [(co_ 78 41 ((pv_ 256 47692561942315010)))] Stt9)
noncomputable def Stt11 : T8 AO := cleanT (updAll [(2, some (.mp 151 152 StL0)),
  (co_ 3 149 ((ag_ [(i6_ 169), (.map (some 1)), (.map (some 2)), (sl_ 91 155 24), (.map none), (i6_ 0), (i6_ 6), bf_]))),
  (77, none),
  (91, some (.cells true (.row 155) (.agg StL1)))] Stt10)
noncomputable def Stt12 : T8 AO := cleanT (updAll [(co_ 92 41 ((pv_ 256 26573149508206850)))] Stt11)
noncomputable def Stt13 : T8 AO := cleanT (updAll [(2, some (.mp 151 152 StL2)),
  (co_ 3 149 ((ag_ [(i6_ 169), (.map (some 1)), (.map (some 2)), (sl_ 105 155 28), (.map none), (i6_ 0), (i6_ 7), bf_]))),
  (91, none),
  (105, some (.cells true (.row 155) (.agg StL3)))] Stt12)
noncomputable def Stt14 : T8 AO := cleanT (updAll [(co_ 106 41 ((pv_ 256 43964124572418562)))] Stt13)
noncomputable def Stt15 : T8 AO := cleanT (updAll [(2, some (.mp 151 152 StL4)),
  (co_ 3 149 ((ag_ [(i6_ 169), (.map (some 1)), (.map (some 2)), (sl_ 119 155 32), (.map none), (i6_ 0), (i6_ 8), bf_]))),
  (105, none),
  (119, some (.cells true (.row 155) (.agg StL5)))] Stt14)
noncomputable def Stt16 : T8 AO := cleanT (updAll [(co_ 120 41 ((pv_ 256 30163044352918274)))] Stt15)
noncomputable def Stt17 : T8 AO := cleanT (updAll [(2, some (.mp 151 152 StL6)),
  (co_ 3 149 ((ag_ [(i6_ 169), (.map (some 1)), (.map (some 2)), (sl_ 133 155 36), (.map none), (i6_ 0), (i6_ 9), bf_]))),
  (119, none),
  (133, some (.cells true (.row 155) (.agg StL7)))] Stt16)
noncomputable def Stt18 : T8 AO := cleanT (updAll [(co_ 134 41 ((pv_ 256 0)))] Stt17)
noncomputable def Stt19 : T8 AO := cleanT (updAll [(2, some (.mp 151 152 StL8)),
  (co_ 3 149 ((ag_ [(i6_ 169), (.map (some 1)), (.map (some 2)), (sl_ 147 155 40), (.map none), (i6_ 0), (i6_ 10), bf_]))),
  (133, none),
  (147, some (.cells true (.row 155) (.agg StL9)))] Stt18)
noncomputable def Stt20 : T8 AO := cleanT (updAll [(co_ 148 41 ((pv_ 256 0)))] Stt19)
noncomputable def Stt21 : T8 AO := cleanT (updAll [(2, some (.mp 151 152 StL10)),
  (co_ 3 149 ((ag_ [(i6_ 169), (.map (some 1)), (.map (some 2)), (sl_ 161 155 44), (.map none), (i6_ 0), (i6_ 11), bf_]))),
  (147, none),
  (161, some (.cells true (.row 155) (.agg StL11)))] Stt20)
noncomputable def Stt22 : T8 AO := cleanT (updAll [(co_ 162 41 ((pv_ 256 0)))] Stt21)
noncomputable def Stt23 : T8 AO := cleanT (updAll [(2, some (.mp 151 152 StL12)),
  (co_ 3 149 ((ag_ [(i6_ 169), (.map (some 1)), (.map (some 2)), (sl_ 175 155 48), (.map none), (i6_ 0), (i6_ 12), bf_]))),
  (161, none),
  (175, some (.cells true (.row 155) (.agg StL13)))] Stt22)
noncomputable def Stt24 : T8 AO := cleanT (updAll [(co_ 176 41 ((pv_ 256 0)))] Stt23)
noncomputable def Stt25 : T8 AO := cleanT (updAll [(2, some (.mp 151 152 StL14)),
  (co_ 3 149 ((ag_ [(i6_ 169), (.map (some 1)), (.map (some 2)), (sl_ 189 155 52), (.map none), (i6_ 0), (i6_ 13), bf_]))),
  (175, none),
  (189, some (.cells true (.row 155) (.agg StL15)))] Stt24)
noncomputable def Stt26 : T8 AO := cleanT (updAll [(co_ 190 41 ((pv_ 256 0)))] Stt25)
noncomputable def Stt27 : T8 AO := cleanT (updAll [(2, some (.mp 151 152 StL16)),
  (co_ 3 149 ((ag_ [(i6_ 169), (.map (some 1)), (.map (some 2)), (sl_ 203 155 56), (.map none), (i6_ 0), (i6_ 14), bf_]))),
  (189, none),
  (203, some (.cells true (.row 155) (.agg StL17)))] Stt26)
noncomputable def Stt28 : T8 AO := cleanT (updAll [(co_ 204 41 ((pv_ 256 0)))] Stt27)
noncomputable def Stt29 : T8 AO := cleanT (updAll [(2, some (.mp 151 152 StL18)),
  (co_ 3 149 ((ag_ [(i6_ 169), (.map (some 1)), (.map (some 2)), (sl_ 217 155 60), (.map none), (i6_ 0), (i6_ 15), bf_]))),
  (203, none),
  (217, some (.cells true (.row 155) (.agg StL19)))] Stt28)
noncomputable def Stt30 : T8 AO := cleanT (updAll [(co_ 218 41 ((pv_ 256 0)))] Stt29)
noncomputable def Stt31 : T8 AO := cleanT (updAll [(2, some (.mp 151 152 StL20)),
  (co_ 3 149 ((ag_ [(i6_ 169), (.map (some 1)), (.map (some 2)), (sl_ 231 155 64), (.map none), (i6_ 0), (i6_ 16), bf_]))),
  (217, none),
  (231, some (.cells true (.row 155) (.agg StL21)))] Stt30)
noncomputable def Stt32 : T8 AO := cleanT (updAll [(co_ 232 41 ((pv_ 256 0)))] Stt31)
noncomputable def Stt33 : T8 AO := cleanT (updAll [(2, some (.mp 151 152 StL22)),
  (co_ 3 149 ((ag_ [(i6_ 169), (.map (some 1)), (.map (some 2)), (sl_ 245 155 68), (.map none), (i6_ 0), (i6_ 17), bf_]))),
  (231, none),
  (245, some (.cells true (.row 155) (.agg StL23)))] Stt32)
noncomputable def Stt34 : T8 AO := cleanT (updAll [(co_ 246 41 ((pv_ 256 0)))] Stt33)
noncomputable def Stt35 : T8 AO := cleanT (updAll [(2, some (.mp 151 152 StL24)),
  (co_ 3 149 ((ag_ [(i6_ 169), (.map (some 1)), (.map (some 2)), (sl_ 259 155 72), (.map none), (i6_ 0), (i6_ 18), bf_]))),
  (245, none),
  (259, some (.cells true (.row 155) (.agg StL25)))] Stt34)
noncomputable def Stt36 : T8 AO := cleanT (updAll [(co_ 260 41 ((pv_ 256 0)))] Stt35)
noncomputable def Stt37 : T8 AO := cleanT (updAll [(2, some (.mp 151 152 StL26)),
  (co_ 3 149 ((ag_ [(i6_ 169), (.map (some 1)), (.map (some 2)), (sl_ 273 155 76), (.map none), (i6_ 0), (i6_ 19), bf_]))),
  (259, none),
  (273, some (.cells true (.row 155) (.agg StL27)))] Stt36)
noncomputable def Stt38 : T8 AO := cleanT (updAll [(co_ 274 41 ((pv_ 256 0)))] Stt37)
noncomputable def Stt39 : T8 AO := cleanT (updAll [(2, some (.mp 151 152 StL28)),
  (co_ 3 149 ((ag_ [(i6_ 169), (.map (some 1)), (.map (some 2)), (sl_ 287 155 80), (.map none), (i6_ 0), (i6_ 20), bf_]))),
  (273, none),
  (287, some (.cells true (.row 155) (.agg StL29)))] Stt38)
noncomputable def Stt40 : T8 AO := cleanT (updAll [(co_ 288 41 ((pv_ 256 0)))] Stt39)
noncomputable def Stt41 : T8 AO := cleanT (updAll [(2, some (.mp 151 152 StL30)),
  (co_ 3 149 ((ag_ [(i6_ 169), (.map (some 1)), (.map (some 2)), (sl_ 301 155 84), (.map none), (i6_ 0), (i6_ 21), bf_]))),
  (287, none),
  (301, some (.cells true (.row 155) (.agg StL31)))] Stt40)
noncomputable def Stt42 : T8 AO := cleanT (updAll [(co_ 302 41 ((pv_ 256 0)))] Stt41)
noncomputable def Stt43 : T8 AO := cleanT (updAll [(2, some (.mp 151 152 StL32)),
  (co_ 3 149 ((ag_ [(i6_ 169), (.map (some 1)), (.map (some 2)), (sl_ 315 155 88), (.map none), (i6_ 0), (i6_ 22), bf_]))),
  (301, none),
  (315, some (.cells true (.row 155) (.agg StL33)))] Stt42)
noncomputable def Stt44 : T8 AO := cleanT (updAll [(co_ 316 41 ((pv_ 256 0)))] Stt43)
noncomputable def Stt45 : T8 AO := cleanT (updAll [(2, some (.mp 151 152 StL34)),
  (co_ 3 149 ((ag_ [(i6_ 169), (.map (some 1)), (.map (some 2)), (sl_ 329 155 92), (.map none), (i6_ 0), (i6_ 23), bf_]))),
  (315, none),
  (329, some (.cells true (.row 155) (.agg StL35)))] Stt44)
noncomputable def Stt46 : T8 AO := cleanT (updAll [(co_ 330 41 ((pv_ 256 0)))] Stt45)
noncomputable def Stt47 : T8 AO := cleanT (updAll [(2, some (.mp 151 152 StL36)),
  (co_ 3 149 ((ag_ [(i6_ 169), (.map (some 1)), (.map (some 2)), (sl_ 343 155 96), (.map none), (i6_ 0), (i6_ 24), bf_]))),
  (329, none),
  (343, some (.cells true (.row 155) (.agg StL37)))] Stt46)
noncomputable def Stt48 : T8 AO := cleanT (updAll [(co_ 344 41 ((pv_ 256 0)))] Stt47)
noncomputable def Stt49 : T8 AO := cleanT (updAll [(2, some (.mp 151 152 StL38)),
  (co_ 3 149 ((ag_ [(i6_ 169), (.map (some 1)), (.map (some 2)), (sl_ 357 155 100), (.map none), (i6_ 0), (i6_ 25), bf_]))),
  (343, none),
  (357, some (.cells true (.row 155) (.agg StL39)))] Stt48)
noncomputable def Stt50 : T8 AO := cleanT (updAll [(co_ 358 41 ((pv_ 256 0)))] Stt49)
noncomputable def Stt51 : T8 AO := cleanT (updAll [(2, some (.mp 151 152 StL40)),
  (co_ 3 149 ((ag_ [(i6_ 169), (.map (some 1)), (.map (some 2)), (sl_ 371 155 104), (.map none), (i6_ 0), (i6_ 26), bf_]))),
  (357, none),
  (371, some (.cells true (.row 155) (.agg StL41)))] Stt50)
noncomputable def Stt52 : T8 AO := cleanT (updAll [(co_ 372 41 ((pv_ 256 0)))] Stt51)
noncomputable def Stt53 : T8 AO := cleanT (updAll [(2, some (.mp 151 152 StL42)),
  (co_ 3 149 ((ag_ [(i6_ 169), (.map (some 1)), (.map (some 2)), (sl_ 385 155 108), (.map none), (i6_ 0), (i6_ 27), bf_]))),
  (371, none),
  (385, some (.cells true (.row 155) (.agg StL43)))] Stt52)
noncomputable def Stt54 : T8 AO := cleanT (updAll [(co_ 386 41 ((pv_ 256 0)))] Stt53)
noncomputable def Stt55 : T8 AO := cleanT (updAll [(2, some (.mp 151 152 StL44)),
  (co_ 3 149 ((ag_ [(i6_ 169), (.map (some 1)), (.map (some 2)), (sl_ 399 155 112), (.map none), (i6_ 0), (i6_ 28), bf_]))),
  (385, none),
  (399, some (.cells true (.row 155) (.agg StL45)))] Stt54)
noncomputable def Stt56 : T8 AO := cleanT (updAll [(co_ 400 41 ((pv_ 256 0)))] Stt55)
noncomputable def Stt57 : T8 AO := cleanT (updAll [(2, some (.mp 151 152 StL46)),
  (co_ 3 149 ((ag_ [(i6_ 169), (.map (some 1)), (.map (some 2)), (sl_ 413 155 116), (.map none), (i6_ 0), (i6_ 29), bf_]))),
  (399, none),
  (413, some (.cells true (.row 155) (.agg StL47)))] Stt56)
noncomputable def Stt58 : T8 AO := cleanT (updAll [(co_ 414 41 ((pv_ 256 0)))] Stt57)
noncomputable def Stt59 : T8 AO := cleanT (updAll [(2, some (.mp 151 152 StL48)),
  (co_ 3 149 ((ag_ [(i6_ 169), (.map (some 1)), (.map (some 2)), (sl_ 427 155 120), (.map none), (i6_ 0), (i6_ 30), bf_]))),
  (413, none),
  (427, some (.cells true (.row 155) (.agg StL49)))] Stt58)
noncomputable def Stt60 : T8 AO := cleanT (updAll [(co_ 428 41 ((pv_ 256 0)))] Stt59)
noncomputable def Stt61 : T8 AO := cleanT (updAll [(2, some (.mp 151 152 StL50)),
  (co_ 3 149 ((ag_ [(i6_ 169), (.map (some 1)), (.map (some 2)), (sl_ 441 155 124), (.map none), (i6_ 0), (i6_ 31), bf_]))),
  (427, none),
  (441, some (.cells true (.row 155) (.agg StL51)))] Stt60)
noncomputable def Stt62 : T8 AO := cleanT (updAll [(co_ 442 41 ((pv_ 256 0)))] Stt61)
noncomputable def Stt63 : T8 AO := cleanT (updAll [(2, some (.mp 151 152 StL52)),
  (co_ 3 149 ((ag_ [(i6_ 169), (.map (some 1)), (.map (some 2)), (sl_ 455 155 128), (.map none), (i6_ 0), (i6_ 32), bf_]))),
  (441, none),
  (455, some (.cells true (.row 155) (.agg StL53)))] Stt62)
noncomputable def Stt64 : T8 AO := cleanT (updAll [(co_ 456 41 ((pv_ 256 0)))] Stt63)
noncomputable def Stt65 : T8 AO := cleanT (updAll [(2, some (.mp 151 152 StL54)),
  (co_ 3 149 ((ag_ [(i6_ 169), (.map (some 1)), (.map (some 2)), (sl_ 469 155 132), (.map none), (i6_ 0), (i6_ 33), bf_]))),
  (455, none),
  (469, some (.cells true (.row 155) (.agg StL55)))] Stt64)
noncomputable def Stt66 : T8 AO := cleanT (updAll [(co_ 470 41 ((pv_ 256 0)))] Stt65)
noncomputable def Stt67 : T8 AO := cleanT (updAll [(2, some (.mp 151 152 StL56)),
  (co_ 3 149 ((ag_ [(i6_ 169), (.map (some 1)), (.map (some 2)), (sl_ 483 155 136), (.map none), (i6_ 0), (i6_ 34), bf_]))),
  (469, none),
  (483, some (.cells true (.row 155) (.agg StL57)))] Stt66)
noncomputable def Stt68 : T8 AO := cleanT (updAll [(co_ 484 41 ((pv_ 256 0)))] Stt67)
noncomputable def Stt69 : T8 AO := cleanT (updAll [(2, some (.mp 151 152 StL58)),
  (co_ 3 149 ((ag_ [(i6_ 169), (.map (some 1)), (.map (some 2)), (sl_ 497 155 140), (.map none), (i6_ 0), (i6_ 35), bf_]))),
  (483, none),
  (497, some (.cells true (.row 155) (.agg StL59)))] Stt68)
noncomputable def Stt70 : T8 AO := cleanT (updAll [(co_ 498 41 ((pv_ 256 0)))] Stt69)
noncomputable def Stt71 : T8 AO := cleanT (updAll [(2, some (.mp 151 152 StL60)),
  (co_ 3 149 ((ag_ [(i6_ 169), (.map (some 1)), (.map (some 2)), (sl_ 511 155 144), (.map none), (i6_ 0), (i6_ 36), bf_]))),
  (497, none),
  (511, some (.cells true (.row 155) (.agg StL61)))] Stt70)
noncomputable def Stt72 : T8 AO := cleanT (updAll [(co_ 512 41 ((pv_ 256 0)))] Stt71)
noncomputable def Stt73 : T8 AO := cleanT (updAll [(2, some (.mp 151 152 StL62)),
  (co_ 3 149 ((ag_ [(i6_ 169), (.map (some 1)), (.map (some 2)), (sl_ 525 155 148), (.map none), (i6_ 0), (i6_ 37), bf_]))),
  (511, none),
  (525, some (.cells true (.row 155) (.agg StL63)))] Stt72)
noncomputable def Stt74 : T8 AO := cleanT (updAll [(co_ 526 41 ((pv_ 256 0)))] Stt73)
noncomputable def Stt75 : T8 AO := cleanT (updAll [(2, some (.mp 151 152 StL64)),
  (co_ 3 149 ((ag_ [(i6_ 169), (.map (some 1)), (.map (some 2)), (sl_ 539 155 152), (.map none), (i6_ 0), (i6_ 38), bf_]))),
  (525, none),
  (539, some (.cells true (.row 155) (.agg StL65)))] Stt74)
noncomputable def Stt76 : T8 AO := cleanT (updAll [(co_ 540 41 ((pv_ 256 0)))] Stt75)
noncomputable def Stt77 : T8 AO := cleanT (updAll [(2, some (.mp 151 152 StL66)),
  (co_ 3 149 ((ag_ [(i6_ 169), (.map (some 1)), (.map (some 2)), (sl_ 553 155 156), (.map none), (i6_ 0), (i6_ 39), bf_]))),
  (539, none),
  (553, some (.cells true (.row 155) (.agg StL67)))] Stt76)
noncomputable def Stt78 : T8 AO := cleanT (updAll [(co_ 554 41 ((pv_ 256 0)))] Stt77)
noncomputable def Stt79 : T8 AO := cleanT (updAll [(2, some (.mp 151 152 StL68)),
  (co_ 3 149 ((ag_ [(i6_ 169), (.map (some 1)), (.map (some 2)), (sl_ 567 155 160), (.map none), (i6_ 0), (i6_ 40), bf_]))),
  (553, none),
  (567, some (.cells true (.row 155) (.agg StL69)))] Stt78)
noncomputable def Stt80 : T8 AO := cleanT (updAll [(co_ 568 41 ((pv_ 256 0)))] Stt79)
noncomputable def Stt81 : T8 AO := cleanT (updAll [(2, some (.mp 151 152 StL70)),
  (co_ 3 149 ((ag_ [(i6_ 169), (.map (some 1)), (.map (some 2)), (sl_ 581 155 164), (.map none), (i6_ 0), (i6_ 41), bf_]))),
  (567, none),
  (581, some (.cells true (.row 155) (.agg StL71)))] Stt80)
noncomputable def Stt82 : T8 AO := cleanT (updAll [(co_ 582 41 ((pv_ 256 0)))] Stt81)
noncomputable def Stt83 : T8 AO := cleanT (updAll [(2, some (.mp 151 152 StL72)),
  (co_ 3 149 ((ag_ [(i6_ 169), (.map (some 1)), (.map (some 2)), (sl_ 595 155 168), (.map none), (i6_ 0), (i6_ 42), bf_]))),
  (581, none),
  (595, some (.cells true (.row 155) (.agg StL73)))] Stt82)
noncomputable def Stt84 : T8 AO := cleanT (updAll [(co_ 596 41 ((pv_ 256 0)))] Stt83)
noncomputable def Stt85 : T8 AO := cleanT (updAll [(2, some (.mp 151 152 StL74)),
  (co_ 3 149 ((ag_ [(i6_ 169), (.map (some 1)), (.map (some 2)), (sl_ 609 155 172), (.map none), (i6_ 0), (i6_ 43), bf_]))),
  (595, none),
  (609, some (.cells true (.row 155) (.agg StL75)))] Stt84)
noncomputable def Stt86 : T8 AO := cleanT (updAll [(co_ 610 41 ((pv_ 256 0)))] Stt85)
noncomputable def Stt87 : T8 AO := cleanT (updAll [(2, some (.mp 151 152 StL76)),
  (co_ 3 149 ((ag_ [(i6_ 169), (.map (some 1)), (.map (some 2)), (sl_ 623 155 176), (.map none), (i6_ 0), (i6_ 44), bf_]))),
  (609, none),
  (623, some (.cells true (.row 155) (.agg StL77)))] Stt86)
noncomputable def Stt88 : T8 AO := cleanT (updAll [(co_ 624 41 ((pv_ 256 0)))] Stt87)
noncomputable def Stt89 : T8 AO := cleanT (updAll [(2, some (.mp 151 152 StL78)),
  (co_ 3 149 ((ag_ [(i6_ 169), (.map (some 1)), (.map (some 2)), (sl_ 637 155 180), (.map none), (i6_ 0), (i6_ 45), bf_]))),
  (623, none),
  (637, some (.cells true (.row 155) (.agg StL79)))] Stt88)
noncomputable def Stt90 : T8 AO := cleanT (updAll [(co_ 638 41 ((pv_ 256 0)))] Stt89)
noncomputable def Stt91 : T8 AO := cleanT (updAll [(2, some (.mp 151 152 StL80)),
  (co_ 3 149 ((ag_ [(i6_ 169), (.map (some 1)), (.map (some 2)), (sl_ 651 155 184), (.map none), (i6_ 0), (i6_ 46), bf_]))),
  (637, none),
  (651, some (.cells true (.row 155) (.agg StL81)))] Stt90)
noncomputable def Stt92 : T8 AO := cleanT (updAll [(co_ 652 41 ((pv_ 256 0)))] Stt91)
noncomputable def Stt93 : T8 AO := cleanT (updAll [(2, some (.mp 151 152 StL82)),
  (co_ 3 149 ((ag_ [(i6_ 169), (.map (some 1)), (.map (some 2)), (sl_ 665 155 188), (.map none), (i6_ 0), (i6_ 47), bf_]))),
  (651, none),
  (665, some (.cells true (.row 155) (.agg StL83)))] Stt92)
noncomputable def Stt94 : T8 AO := cleanT (updAll [(co_ 666 41 ((pv_ 256 0)))] Stt93)
noncomputable def Stt95 : T8 AO := cleanT (updAll [(2, some (.mp 151 152 StL84)),
  (co_ 3 149 ((ag_ [(i6_ 169), (.map (some 1)), (.map (some 2)), (sl_ 679 155 192), (.map none), (i6_ 0), (i6_ 48), bf_]))),
  (665, none),
  (679, some (.cells true (.row 155) (.agg StL85)))] Stt94)
noncomputable def Stt96 : T8 AO := cleanT (updAll [(co_ 680 41 ((pv_ 256 0)))] Stt95)
noncomputable def Stt97 : T8 AO := cleanT (updAll [(2, some (.mp 151 152 StL86)),
  (co_ 3 149 ((ag_ [(i6_ 169), (.map (some 1)), (.map (some 2)), (sl_ 693 155 196), (.map none), (i6_ 0), (i6_ 49), bf_]))),
  (679, none),
  (693, some (.cells true (.row 155) (.agg StL87)))] Stt96)
noncomputable def Stt98 : T8 AO := cleanT (updAll [(co_ 694 41 ((pv_ 256 0)))] Stt97)
noncomputable def Stt99 : T8 AO := cleanT (updAll [(2, some (.mp 151 152 StL88)),
  (co_ 3 149 ((ag_ [(i6_ 169), (.map (some 1)), (.map (some 2)), (sl_ 707 155 200), (.map none), (i6_ 0), (i6_ 50), bf_]))),
  (693, none),
  (707, some (.cells true (.row 155) (.agg StL89)))] Stt98)
noncomputable def Stt100 : T8 AO := cleanT (updAll [(co_ 708 41 ((pv_ 256 0)))] Stt99)
noncomputable def Stt101 : T8 AO := cleanT (updAll [(2, some (.mp 151 152 StL90)),
  (co_ 3 149 ((ag_ [(i6_ 169), (.map (some 1)), (.map (some 2)), (sl_ 721 155 204), (.map none), (i6_ 0), (i6_ 51), bf_]))),
  (707, none),
  (721, some (.cells true (.row 155) (.agg StL91)))] Stt100)
noncomputable def Stt102 : T8 AO := cleanT (updAll [(co_ 722 41 ((pv_ 256 0)))] Stt101)
noncomputable def Stt103 : T8 AO := cleanT (updAll [(2, some (.mp 151 152 StL92)),
  (co_ 3 149 ((ag_ [(i6_ 169), (.map (some 1)), (.map (some 2)), (sl_ 735 155 208), (.map none), (i6_ 0), (i6_ 52), bf_]))),
  (721, none),
  (735, some (.cells true (.row 155) (.agg StL93)))] Stt102)
noncomputable def Stt104 : T8 AO := cleanT (updAll [(co_ 736 41 ((pv_ 256 0)))] Stt103)
noncomputable def Stt105 : T8 AO := cleanT (updAll [(2, some (.mp 151 152 StL94)),
  (co_ 3 149 ((ag_ [(i6_ 169), (.map (some 1)), (.map (some 2)), (sl_ 749 155 212), (.map none), (i6_ 0), (i6_ 53), bf_]))),
  (735, none),
  (749, some (.cells true (.row 155) (.agg StL95)))] Stt104)
noncomputable def Stt106 : T8 AO := cleanT (updAll [(co_ 750 41 ((pv_ 256 0)))] Stt105)
noncomputable def Stt107 : T8 AO := cleanT (updAll [(2, some (.mp 151 152 StL96)),
  (co_ 3 149 ((ag_ [(i6_ 169), (.map (some 1)), (.map (some 2)), (sl_ 763 155 216), (.map none), (i6_ 0), (i6_ 54), bf_]))),
  (749, none),
  (763, some (.cells true (.row 155) (.agg StL97)))] Stt106)
noncomputable def Stt108 : T8 AO := cleanT (updAll [(co_ 764 41 ((pv_ 256 0)))] Stt107)
noncomputable def Stt109 : T8 AO := cleanT (updAll [(2, some (.mp 151 152 StL98)),
  (co_ 3 149 ((ag_ [(i6_ 169), (.map (some 1)), (.map (some 2)), (sl_ 777 155 220), (.map none), (i6_ 0), (i6_ 55), bf_]))),
  (763, none),
  (777, some (.cells true (.row 155) (.agg StL99)))] Stt108)
noncomputable def Stt110 : T8 AO := cleanT (updAll [(co_ 778 41 ((pv_ 256 0)))] Stt109)
noncomputable def Stt111 : T8 AO := cleanT (updAll [(2, some (.mp 151 152 StL100)),
  (co_ 3 149 ((ag_ [(i6_ 169), (.map (some 1)), (.map (some 2)), (sl_ 791 155 224), (.map none), (i6_ 0), (i6_ 56), bf_]))),
  (777, none),
  (791, some (.cells true (.row 155) (.agg StL101)))] Stt110)
noncomputable def Stt112 : T8 AO := cleanT (updAll [(co_ 792 41 ((pv_ 256 0)))] Stt111)
noncomputable def Stt113 : T8 AO := cleanT (updAll [(2, some (.mp 151 152 StL102)),
  (co_ 3 149 ((ag_ [(i6_ 169), (.map (some 1)), (.map (some 2)), (sl_ 805 155 228), (.map none), (i6_ 0), (i6_ 57), bf_]))),
  (791, none),
  (805, some (.cells true (.row 155) (.agg StL103)))] Stt112)
noncomputable def Stt114 : T8 AO := cleanT (updAll [(co_ 806 41 ((pv_ 256 0)))] Stt113)
noncomputable def Stt115 : T8 AO := cleanT (updAll [(2, some (.mp 151 152 StL104)),
  (co_ 3 149 ((ag_ [(i6_ 169), (.map (some 1)), (.map (some 2)), (sl_ 819 155 232), (.map none), (i6_ 0), (i6_ 58), bf_]))),
  (805, none),
  (819, some (.cells true (.row 155) (.agg StL105)))] Stt114)
noncomputable def Stt116 : T8 AO := cleanT (updAll [(co_ 820 41 ((pv_ 256 0)))] Stt115)
noncomputable def Stt117 : T8 AO := cleanT (updAll [(2, some (.mp 151 152 StL106)),
  (co_ 3 149 ((ag_ [(i6_ 169), (.map (some 1)), (.map (some 2)), (sl_ 833 155 236), (.map none), (i6_ 0), (i6_ 59), bf_]))),
  (819, none),
  (833, some (.cells true (.row 155) (.agg StL107)))] Stt116)
noncomputable def Stt118 : T8 AO := cleanT (updAll [(co_ 834 41 ((pv_ 256 0)))] Stt117)
noncomputable def Stt119 : T8 AO := cleanT (updAll [(2, some (.mp 151 152 StL108)),
  (co_ 3 149 ((ag_ [(i6_ 169), (.map (some 1)), (.map (some 2)), (sl_ 847 155 240), (.map none), (i6_ 0), (i6_ 60), bf_]))),
  (833, none),
  (847, some (.cells true (.row 155) (.agg StL109)))] Stt118)
noncomputable def Stt120 : T8 AO := cleanT (updAll [(co_ 848 41 ((pv_ 256 0)))] Stt119)
noncomputable def Stt121 : T8 AO := cleanT (updAll [(2, some (.mp 151 152 StL110)),
  (co_ 3 149 ((ag_ [(i6_ 169), (.map (some 1)), (.map (some 2)), (sl_ 861 155 244), (.map none), (i6_ 0), (i6_ 61), bf_]))),
  (847, none),
  (861, some (.cells true (.row 155) (.agg StL111)))] Stt120)
noncomputable def Stt122 : T8 AO := cleanT (updAll [(co_ 862 41 ((pv_ 256 0)))] Stt121)
noncomputable def Stt123 : T8 AO := cleanT (updAll [(2, some (.mp 151 152 StL112)),
  (co_ 3 149 ((ag_ [(i6_ 169), (.map (some 1)), (.map (some 2)), (sl_ 875 155 248), (.map none), (i6_ 0), (i6_ 62), bf_]))),
  (861, none),
  (875, some (.cells true (.row 155) (.agg StL113)))] Stt122)
noncomputable def Stt124 : T8 AO := cleanT (updAll [(co_ 876 41 ((pv_ 256 0)))] Stt123)
noncomputable def Stt125 : T8 AO := cleanT (updAll [(2, some (.mp 151 152 StL114)),
  (co_ 3 149 ((ag_ [(i6_ 169), (.map (some 1)), (.map (some 2)), (sl_ 889 155 252), (.map none), (i6_ 0), (i6_ 63), bf_]))),
  (875, none),
  (889, some (.cells true (.row 155) (.agg StL115)))] Stt124)
noncomputable def Stt126 : T8 AO := cleanT (updAll [(co_ 890 41 ((pv_ 256 0)))] Stt125)
noncomputable def Stt127 : T8 AO := cleanT (updAll [(2, some (.mp 151 152 StL116)),
  (co_ 3 149 ((ag_ [(i6_ 169), (.map (some 1)), (.map (some 2)), (sl_ 903 155 256), (.map none), (i6_ 0), (i6_ 64), bf_]))),
  (889, none),
  (903, some (.cells true (.row 155) (.agg StL117)))] Stt126)
noncomputable def Stt128 : T8 AO := cleanT (updAll [(co_ 904 41 ((pv_ 256 0)))] Stt127)
noncomputable def Stt129 : T8 AO := cleanT (updAll [(2, some (.mp 151 152 StL118)),
  (co_ 3 149 ((ag_ [(i6_ 169), (.map (some 1)), (.map (some 2)), (sl_ 917 155 260), (.map none), (i6_ 0), (i6_ 65), bf_]))),
  (903, none),
  (917, some (.cells true (.row 155) (.agg StL119)))] Stt128)
noncomputable def Stt130 : T8 AO := cleanT (updAll [(co_ 918 41 ((pv_ 256 0)))] Stt129)
noncomputable def Stt131 : T8 AO := cleanT (updAll [(2, some (.mp 151 152 StL120)),
  (co_ 3 149 ((ag_ [(i6_ 169), (.map (some 1)), (.map (some 2)), (sl_ 931 155 264), (.map none), (i6_ 0), (i6_ 66), bf_]))),
  (917, none),
  (931, some (.cells true (.row 155) (.agg StL121)))] Stt130)
noncomputable def Stt132 : T8 AO := cleanT (updAll [(co_ 932 41 ((pv_ 256 0)))] Stt131)
noncomputable def Stt133 : T8 AO := cleanT (updAll [(2, some (.mp 151 152 StL122)),
  (co_ 3 149 ((ag_ [(i6_ 169), (.map (some 1)), (.map (some 2)), (sl_ 945 155 268), (.map none), (i6_ 0), (i6_ 67), bf_]))),
  (931, none),
  (945, some (.cells true (.row 155) (.agg StL123)))] Stt132)
noncomputable def Stt134 : T8 AO := cleanT (updAll [(co_ 946 41 ((pv_ 256 0)))] Stt133)
noncomputable def Stt135 : T8 AO := cleanT (updAll [(2, some (.mp 151 152 StL124)),
  (co_ 3 149 ((ag_ [(i6_ 169), (.map (some 1)), (.map (some 2)), (sl_ 959 155 272), (.map none), (i6_ 0), (i6_ 68), bf_]))),
  (945, none),
  (959, some (.cells true (.row 155) (.agg StL125)))] Stt134)
noncomputable def Stt136 : T8 AO := cleanT (updAll [(co_ 960 41 ((pv_ 256 0)))] Stt135)
noncomputable def Stt137 : T8 AO := cleanT (updAll [(2, some (.mp 151 152 StL126)),
  (co_ 3 149 ((ag_ [(i6_ 169), (.map (some 1)), (.map (some 2)), (sl_ 973 155 276), (.map none), (i6_ 0), (i6_ 69), bf_]))),
  (959, none),
  (973, some (.cells true (.row 155) (.agg StL127)))] Stt136)
noncomputable def Stt138 : T8 AO := cleanT (updAll [(co_ 974 41 ((pv_ 256 0)))] Stt137)
noncomputable def Stt139 : T8 AO := cleanT (updAll [(2, some (.mp 151 152 StL128)),
  (co_ 3 149 ((ag_ [(i6_ 169), (.map (some 1)), (.map (some 2)), (sl_ 987 155 280), (.map none), (i6_ 0), (i6_ 70), bf_]))),
  (973, none),
  (987, some (.cells true (.row 155) (.agg StL129)))] Stt138)
noncomputable def Stt140 : T8 AO := cleanT (updAll [(co_ 988 41 ((pv_ 256 0)))] Stt139)
noncomputable def Stt141 : T8 AO := cleanT (updAll [(2, some (.mp 151 152 StL130)),
  (co_ 3 149 ((ag_ [(i6_ 169), (.map (some 1)), (.map (some 2)), (sl_ 1001 155 284), (.map none), (i6_ 0), (i6_ 71), bf_]))),
  (987, none),
  (1001, some (.cells true (.row 155) (.agg StL131)))] Stt140)
noncomputable def Stt142 : T8 AO := cleanT (updAll [(co_ 1002 41 ((pv_ 256 0)))] Stt141)
noncomputable def Stt143 : T8 AO := cleanT (updAll [(2, some (.mp 151 152 StL132)),
  (co_ 3 149 ((ag_ [(i6_ 169), (.map (some 1)), (.map (some 2)), (sl_ 1015 155 288), (.map none), (i6_ 0), (i6_ 72), bf_]))),
  (1001, none),
  (1015, some (.cells true (.row 155) (.agg StL133)))] Stt142)
noncomputable def Stt144 : T8 AO := cleanT (updAll [(co_ 1016 41 ((pv_ 256 0)))] Stt143)
noncomputable def Stt145 : T8 AO := cleanT (updAll [(2, some (.mp 151 152 StL134)),
  (co_ 3 149 ((ag_ [(i6_ 169), (.map (some 1)), (.map (some 2)), (sl_ 1029 155 292), (.map none), (i6_ 0), (i6_ 73), bf_]))),
  (1015, none),
  (1029, some (.cells true (.row 155) (.agg StL135)))] Stt144)
noncomputable def Stt146 : T8 AO := cleanT (updAll [(co_ 1030 41 ((pv_ 256 0)))] Stt145)
noncomputable def Stt147 : T8 AO := cleanT (updAll [(2, some (.mp 151 152 StL136)),
  (co_ 3 149 ((ag_ [(i6_ 169), (.map (some 1)), (.map (some 2)), (sl_ 1043 155 296), (.map none), (i6_ 0), (i6_ 74), bf_]))),
  (1029, none),
  (1043, some (.cells true (.row 155) (.agg StL137)))] Stt146)
noncomputable def Stt148 : T8 AO := cleanT (updAll [(co_ 1044 41 ((pv_ 256 0)))] Stt147)
noncomputable def Stt149 : T8 AO := cleanT (updAll [(2, some (.mp 151 152 StL138)),
  (co_ 3 149 ((ag_ [(i6_ 169), (.map (some 1)), (.map (some 2)), (sl_ 1057 155 300), (.map none), (i6_ 0), (i6_ 75), bf_]))),
  (1043, none),
  (1057, some (.cells true (.row 155) (.agg StL139)))] Stt148)
noncomputable def Stt150 : T8 AO := cleanT (updAll [(co_ 1058 41 ((pv_ 256 0)))] Stt149)
noncomputable def Stt151 : T8 AO := cleanT (updAll [(2, some (.mp 151 152 StL140)),
  (co_ 3 149 ((ag_ [(i6_ 169), (.map (some 1)), (.map (some 2)), (sl_ 1071 155 304), (.map none), (i6_ 0), (i6_ 76), bf_]))),
  (1057, none),
  (1071, some (.cells true (.row 155) (.agg StL141)))] Stt150)
noncomputable def Stt152 : T8 AO := cleanT (updAll [(co_ 1072 41 ((pv_ 256 0)))] Stt151)
noncomputable def Stt153 : T8 AO := cleanT (updAll [(2, some (.mp 151 152 StL142)),
  (co_ 3 149 ((ag_ [(i6_ 169), (.map (some 1)), (.map (some 2)), (sl_ 1085 155 308), (.map none), (i6_ 0), (i6_ 77), bf_]))),
  (1071, none),
  (1085, some (.cells true (.row 155) (.agg StL143)))] Stt152)
noncomputable def Stt154 : T8 AO := cleanT (updAll [(co_ 1086 41 ((pv_ 256 0)))] Stt153)
noncomputable def Stt155 : T8 AO := cleanT (updAll [(2, some (.mp 151 152 StL144)),
  (co_ 3 149 ((ag_ [(i6_ 169), (.map (some 1)), (.map (some 2)), (sl_ 1099 155 312), (.map none), (i6_ 0), (i6_ 78), bf_]))),
  (1085, none),
  (1099, some (.cells true (.row 155) (.agg StL145)))] Stt154)
noncomputable def Stt156 : T8 AO := cleanT (updAll [(co_ 1100 41 ((pv_ 256 0)))] Stt155)
noncomputable def Stt157 : T8 AO := cleanT (updAll [(2, some (.mp 151 152 StL146)),
  (co_ 3 149 ((ag_ [(i6_ 169), (.map (some 1)), (.map (some 2)), (sl_ 1113 155 316), (.map none), (i6_ 0), (i6_ 79), bf_]))),
  (1099, none),
  (1113, some (.cells true (.row 155) (.agg StL147)))] Stt156)
noncomputable def Stt158 : T8 AO := cleanT (updAll [(co_ 1114 41 ((pv_ 256 0)))] Stt157)
noncomputable def Stt159 : T8 AO := cleanT (updAll [(2, some (.mp 151 152 StL148)),
  (co_ 3 149 ((ag_ [(i6_ 169), (.map (some 1)), (.map (some 2)), (sl_ 1127 155 320), (.map none), (i6_ 0), (i6_ 80), bf_]))),
  (1113, none),
  (1127, some (.cells true (.row 155) (.agg StL149)))] Stt158)
noncomputable def Stt160 : T8 AO := cleanT (updAll [(co_ 1128 41 ((pv_ 256 0)))] Stt159)
noncomputable def Stt161 : T8 AO := cleanT (updAll [(2, some (.mp 151 152 StL150)),
  (co_ 3 149 ((ag_ [(i6_ 169), (.map (some 1)), (.map (some 2)), (sl_ 1141 155 324), (.map none), (i6_ 0), (i6_ 81), bf_]))),
  (1127, none),
  (1141, some (.cells true (.row 155) (.agg StL151)))] Stt160)
noncomputable def Stt162 : T8 AO := cleanT (updAll [(co_ 1142 41 ((pv_ 256 0)))] Stt161)
noncomputable def Stt163 : T8 AO := cleanT (updAll [(2, some (.mp 151 152 StL152)),
  (co_ 3 149 ((ag_ [(i6_ 169), (.map (some 1)), (.map (some 2)), (sl_ 1155 155 328), (.map none), (i6_ 0), (i6_ 82), bf_]))),
  (1141, none),
  (1155, some (.cells true (.row 155) (.agg StL153)))] Stt162)
noncomputable def Stt164 : T8 AO := cleanT (updAll [(co_ 1156 41 ((pv_ 256 0)))] Stt163)
noncomputable def Stt165 : T8 AO := cleanT (updAll [(2, some (.mp 151 152 StL154)),
  (co_ 3 149 ((ag_ [(i6_ 169), (.map (some 1)), (.map (some 2)), (sl_ 1169 155 332), (.map none), (i6_ 0), (i6_ 83), bf_]))),
  (1155, none),
  (1169, some (.cells true (.row 155) (.agg StL155)))] Stt164)
noncomputable def Stt166 : T8 AO := cleanT (updAll [(co_ 1170 41 ((pv_ 256 0)))] Stt165)
noncomputable def Stt167 : T8 AO := cleanT (updAll [(2, some (.mp 151 152 StL156)),
  (co_ 3 149 ((ag_ [(i6_ 169), (.map (some 1)), (.map (some 2)), (sl_ 1183 155 336), (.map none), (i6_ 0), (i6_ 84), bf_]))),
  (1169, none),
  (1183, some (.cells true (.row 155) (.agg StL157)))] Stt166)
noncomputable def Stt168 : T8 AO := cleanT (updAll [(co_ 1184 41 ((pv_ 256 0)))] Stt167)
noncomputable def Stt169 : T8 AO := cleanT (updAll [(2, some (.mp 151 152 StL158)),
  (co_ 3 149 ((ag_ [(i6_ 169), (.map (some 1)), (.map (some 2)), (sl_ 1197 155 340), (.map none), (i6_ 0), (i6_ 85), bf_]))),
  (1183, none),
  (1197, some (.cells true (.row 155) (.agg StL159)))] Stt168)
noncomputable def Stt170 : T8 AO := cleanT (updAll [(co_ 1198 41 ((pv_ 256 0)))] Stt169)
noncomputable def Stt171 : T8 AO := cleanT (updAll [(2, some (.mp 151 152 StL160)),
  (co_ 3 149 ((ag_ [(i6_ 169), (.map (some 1)), (.map (some 2)), (sl_ 1211 155 344), (.map none), (i6_ 0), (i6_ 86), bf_]))),
  (1197, none),
  (1211, some (.cells true (.row 155) (.agg StL161)))] Stt170)
noncomputable def Stt172 : T8 AO := cleanT (updAll [(co_ 1212 41 ((pv_ 256 0)))] Stt171)
noncomputable def Stt173 : T8 AO := cleanT (updAll [(2, some (.mp 151 152 StL162)),
  (co_ 3 149 ((ag_ [(i6_ 169), (.map (some 1)), (.map (some 2)), (sl_ 1225 155 348), (.map none), (i6_ 0), (i6_ 87), bf_]))),
  (1211, none),
  (1225, some (.cells true (.row 155) (.agg StL163)))] Stt172)
noncomputable def Stt174 : T8 AO := cleanT (updAll [(co_ 1226 41 ((pv_ 256 0)))] Stt173)
noncomputable def Stt175 : T8 AO := cleanT (updAll [(2, some (.mp 151 152 StL164)),
  (co_ 3 149 ((ag_ [(i6_ 169), (.map (some 1)), (.map (some 2)), (sl_ 1239 155 352), (.map none), (i6_ 0), (i6_ 88), bf_]))),
  (1225, none),
  (1239, some (.cells true (.row 155) (.agg StL165)))] Stt174)
noncomputable def Stt176 : T8 AO := cleanT (updAll [(co_ 1240 41 ((pv_ 256 0)))] Stt175)
noncomputable def Stt177 : T8 AO := cleanT (updAll [(2, some (.mp 151 152 StL166)),
  (co_ 3 149 ((ag_ [(i6_ 169), (.map (some 1)), (.map (some 2)), (sl_ 1253 155 356), (.map none), (i6_ 0), (i6_ 89), bf_]))),
  (1239, none),
  (1253, some (.cells true (.row 155) (.agg StL167)))] Stt176)
noncomputable def Stt178 : T8 AO := cleanT (updAll [(co_ 1254 41 ((pv_ 256 0)))] Stt177)
noncomputable def Stt179 : T8 AO := cleanT (updAll [(2, some (.mp 151 152 StL168)),
  (co_ 3 149 ((ag_ [(i6_ 169), (.map (some 1)), (.map (some 2)), (sl_ 1267 155 360), (.map none), (i6_ 0), (i6_ 90), bf_]))),
  (1253, none),
  (1267, some (.cells true (.row 155) (.agg StL169)))] Stt178)
noncomputable def Stt180 : T8 AO := cleanT (updAll [(co_ 1268 41 ((pv_ 256 0)))] Stt179)
noncomputable def Stt181 : T8 AO := cleanT (updAll [(2, some (.mp 151 152 StL170)),
  (co_ 3 149 ((ag_ [(i6_ 169), (.map (some 1)), (.map (some 2)), (sl_ 1281 155 364), (.map none), (i6_ 0), (i6_ 91), bf_]))),
  (1267, none),
  (1281, some (.cells true (.row 155) (.agg StL171)))] Stt180)
noncomputable def Stt182 : T8 AO := cleanT (updAll [(co_ 1282 41 ((pv_ 256 0)))] Stt181)
noncomputable def Stt183 : T8 AO := cleanT (updAll [(2, some (.mp 151 152 StL172)),
  (co_ 3 149 ((ag_ [(i6_ 169), (.map (some 1)), (.map (some 2)), (sl_ 1295 155 368), (.map none), (i6_ 0), (i6_ 92), bf_]))),
  (1281, none),
  (1295, some (.cells true (.row 155) (.agg StL173)))] Stt182)
noncomputable def Stt184 : T8 AO := cleanT (updAll [(co_ 1296 41 ((pv_ 256 0)))] Stt183)
noncomputable def Stt185 : T8 AO := cleanT (updAll [(2, some (.mp 151 152 StL174)),
  (co_ 3 149 ((ag_ [(i6_ 169), (.map (some 1)), (.map (some 2)), (sl_ 1309 155 372), (.map none), (i6_ 0), (i6_ 93), bf_]))),
  (1295, none),
  (1309, some (.cells true (.row 155) (.agg StL175)))] Stt184)
noncomputable def Stt186 : T8 AO := cleanT (updAll [(co_ 1310 41 ((pv_ 256 0)))] Stt185)
noncomputable def Stt187 : T8 AO := cleanT (updAll [(2, some (.mp 151 152 StL176)),
  (co_ 3 149 ((ag_ [(i6_ 169), (.map (some 1)), (.map (some 2)), (sl_ 1323 155 376), (.map none), (i6_ 0), (i6_ 94), bf_]))),
  (1309, none),
  (1323, some (.cells true (.row 155) (.agg StL177)))] Stt186)
noncomputable def Stt188 : T8 AO := cleanT (updAll [(co_ 1324 41 ((pv_ 256 0)))] Stt187)
noncomputable def Stt189 : T8 AO := cleanT (updAll [(2, some (.mp 151 152 StL178)),
  (co_ 3 149 ((ag_ [(i6_ 169), (.map (some 1)), (.map (some 2)), (sl_ 1337 155 380), (.map none), (i6_ 0), (i6_ 95), bf_]))),
  (1323, none),
  (1337, some (.cells true (.row 155) (.agg StL179)))] Stt188)
noncomputable def Stt190 : T8 AO := cleanT (updAll [(co_ 1338 41 ((pv_ 256 0)))] Stt189)
noncomputable def Stt191 : T8 AO := cleanT (updAll [(2, some (.mp 151 152 StL180)),
  (co_ 3 149 ((ag_ [(i6_ 169), (.map (some 1)), (.map (some 2)), (sl_ 1351 155 384), (.map none), (i6_ 0), (i6_ 96), bf_]))),
  (1337, none),
  (1351, some (.cells true (.row 155) (.agg StL181)))] Stt190)
noncomputable def Stt192 : T8 AO := cleanT (updAll [(co_ 1352 41 ((pv_ 256 0)))] Stt191)
noncomputable def Stt193 : T8 AO := cleanT (updAll [(2, some (.mp 151 152 StL182)),
  (co_ 3 149 ((ag_ [(i6_ 169), (.map (some 1)), (.map (some 2)), (sl_ 1365 155 388), (.map none), (i6_ 0), (i6_ 97), bf_]))),
  (1351, none),
  (1365, some (.cells true (.row 155) (.agg StL183)))] Stt192)
noncomputable def Stt194 : T8 AO := cleanT (updAll [(co_ 1366 41 ((pv_ 256 0)))] Stt193)
noncomputable def Stt195 : T8 AO := cleanT (updAll [(2, some (.mp 151 152 StL184)),
  (co_ 3 149 ((ag_ [(i6_ 169), (.map (some 1)), (.map (some 2)), (sl_ 1379 155 392), (.map none), (i6_ 0), (i6_ 98), bf_]))),
  (1365, none),
  (1379, some (.cells true (.row 155) (.agg StL185)))] Stt194)
noncomputable def Stt196 : T8 AO := cleanT (updAll [(co_ 1380 41 ((pv_ 256 0)))] Stt195)
noncomputable def Stt197 : T8 AO := cleanT (updAll [(2, some (.mp 151 152 StL186)),
  (co_ 3 149 ((ag_ [(i6_ 169), (.map (some 1)), (.map (some 2)), (sl_ 1393 155 396), (.map none), (i6_ 0), (i6_ 99), bf_]))),
  (1379, none),
  (1393, some (.cells true (.row 155) (.agg StL187)))] Stt196)
noncomputable def Stt198 : T8 AO := cleanT (updAll [(co_ 1394 41 ((pv_ 256 0)))] Stt197)
noncomputable def Stt199 : T8 AO := cleanT (updAll [(2, some (.mp 151 152 StL188)),
  (co_ 3 149 ((ag_ [(i6_ 169), (.map (some 1)), (.map (some 2)), (sl_ 1407 155 400), (.map none), (i6_ 0), (i6_ 100), bf_]))),
  (1393, none),
  (1407, some (.cells true (.row 155) (.agg StL189)))] Stt198)
noncomputable def Stt200 : T8 AO := cleanT (updAll [(co_ 1408 41 ((pv_ 256 0)))] Stt199)
noncomputable def Stt201 : T8 AO := cleanT (updAll [(2, some (.mp 151 152 StL190)),
  (co_ 3 149 ((ag_ [(i6_ 169), (.map (some 1)), (.map (some 2)), (sl_ 1421 155 404), (.map none), (i6_ 0), (i6_ 101), bf_]))),
  (1407, none),
  (1421, some (.cells true (.row 155) (.agg StL191)))] Stt200)
noncomputable def Stt202 : T8 AO := cleanT (updAll [(co_ 1422 41 ((pv_ 256 0)))] Stt201)
noncomputable def Stt203 : T8 AO := cleanT (updAll [(2, some (.mp 151 152 StL192)),
  (co_ 3 149 ((ag_ [(i6_ 169), (.map (some 1)), (.map (some 2)), (sl_ 1435 155 408), (.map none), (i6_ 0), (i6_ 102), bf_]))),
  (1421, none),
  (1435, some (.cells true (.row 155) (.agg StL193)))] Stt202)
noncomputable def Stt204 : T8 AO := cleanT (updAll [(co_ 1436 41 ((pv_ 256 0)))] Stt203)
noncomputable def Stt205 : T8 AO := cleanT (updAll [(2, some (.mp 151 152 StL194)),
  (co_ 3 149 ((ag_ [(i6_ 169), (.map (some 1)), (.map (some 2)), (sl_ 1449 155 412), (.map none), (i6_ 0), (i6_ 103), bf_]))),
  (1435, none),
  (1449, some (.cells true (.row 155) (.agg StL195)))] Stt204)
noncomputable def Stt206 : T8 AO := cleanT (updAll [(co_ 1450 41 ((pv_ 256 0)))] Stt205)
noncomputable def Stt207 : T8 AO := cleanT (updAll [(2, some (.mp 151 152 StL196)),
  (co_ 3 149 ((ag_ [(i6_ 169), (.map (some 1)), (.map (some 2)), (sl_ 1463 155 416), (.map none), (i6_ 0), (i6_ 104), bf_]))),
  (1449, none),
  (1463, some (.cells true (.row 155) (.agg StL197)))] Stt206)
noncomputable def Stt208 : T8 AO := cleanT (updAll [(co_ 1464 41 ((pv_ 256 0)))] Stt207)
noncomputable def Stt209 : T8 AO := cleanT (updAll [(2, some (.mp 151 152 StL198)),
  (co_ 3 149 ((ag_ [(i6_ 169), (.map (some 1)), (.map (some 2)), (sl_ 1477 155 420), (.map none), (i6_ 0), (i6_ 105), bf_]))),
  (1463, none),
  (1477, some (.cells true (.row 155) (.agg StL199)))] Stt208)
noncomputable def Stt210 : T8 AO := cleanT (updAll [(co_ 1478 41 ((pv_ 256 0)))] Stt209)
noncomputable def Stt211 : T8 AO := cleanT (updAll [(2, some (.mp 151 152 StL200)),
  (co_ 3 149 ((ag_ [(i6_ 169), (.map (some 1)), (.map (some 2)), (sl_ 1491 155 424), (.map none), (i6_ 0), (i6_ 106), bf_]))),
  (1477, none),
  (1491, some (.cells true (.row 155) (.agg StL201)))] Stt210)
noncomputable def Stt212 : T8 AO := cleanT (updAll [(co_ 1492 41 ((pv_ 256 0)))] Stt211)
noncomputable def Stt213 : T8 AO := cleanT (updAll [(2, some (.mp 151 152 StL202)),
  (co_ 3 149 ((ag_ [(i6_ 169), (.map (some 1)), (.map (some 2)), (sl_ 1505 155 428), (.map none), (i6_ 0), (i6_ 107), bf_]))),
  (1491, none),
  (1505, some (.cells true (.row 155) (.agg StL203)))] Stt212)
noncomputable def Stt214 : T8 AO := cleanT (updAll [(co_ 1506 41 ((pv_ 256 0)))] Stt213)
noncomputable def Stt215 : T8 AO := cleanT (updAll [(2, some (.mp 151 152 StL204)),
  (co_ 3 149 ((ag_ [(i6_ 169), (.map (some 1)), (.map (some 2)), (sl_ 1519 155 432), (.map none), (i6_ 0), (i6_ 108), bf_]))),
  (1505, none),
  (1519, some (.cells true (.row 155) (.agg StL205)))] Stt214)
noncomputable def Stt216 : T8 AO := cleanT (updAll [(co_ 1520 41 ((pv_ 256 0)))] Stt215)
noncomputable def Stt217 : T8 AO := cleanT (updAll [(2, some (.mp 151 152 StL206)),
  (co_ 3 149 ((ag_ [(i6_ 169), (.map (some 1)), (.map (some 2)), (sl_ 1533 155 436), (.map none), (i6_ 0), (i6_ 109), bf_]))),
  (1519, none),
  (1533, some (.cells true (.row 155) (.agg StL207)))] Stt216)
noncomputable def Stt218 : T8 AO := cleanT (updAll [(co_ 1534 41 ((pv_ 256 0)))] Stt217)
noncomputable def Stt219 : T8 AO := cleanT (updAll [(2, some (.mp 151 152 StL208)),
  (co_ 3 149 ((ag_ [(i6_ 169), (.map (some 1)), (.map (some 2)), (sl_ 1547 155 440), (.map none), (i6_ 0), (i6_ 110), bf_]))),
  (1533, none),
  (1547, some (.cells true (.row 155) (.agg StL209)))] Stt218)
noncomputable def Stt220 : T8 AO := cleanT (updAll [(co_ 1548 41 ((pv_ 256 0)))] Stt219)
noncomputable def Stt221 : T8 AO := cleanT (updAll [(2, some (.mp 151 152 StL210)),
  (co_ 3 149 ((ag_ [(i6_ 169), (.map (some 1)), (.map (some 2)), (sl_ 1561 155 444), (.map none), (i6_ 0), (i6_ 111), bf_]))),
  (1547, none),
  (1561, some (.cells true (.row 155) (.agg StL211)))] Stt220)
noncomputable def Stt222 : T8 AO := cleanT (updAll [(co_ 1562 41 ((pv_ 256 0)))] Stt221)
noncomputable def Stt223 : T8 AO := cleanT (updAll [(2, some (.mp 151 152 StL212)),
  (co_ 3 149 ((ag_ [(i6_ 169), (.map (some 1)), (.map (some 2)), (sl_ 1575 155 448), (.map none), (i6_ 0), (i6_ 112), bf_]))),
  (1561, none),
  (1575, some (.cells true (.row 155) (.agg StL213)))] Stt222)
noncomputable def Stt224 : T8 AO := cleanT (updAll [(co_ 1576 41 ((pv_ 256 0)))] Stt223)
noncomputable def Stt225 : T8 AO := cleanT (updAll [(2, some (.mp 151 152 StL214)),
  (co_ 3 149 ((ag_ [(i6_ 169), (.map (some 1)), (.map (some 2)), (sl_ 1589 155 452), (.map none), (i6_ 0), (i6_ 113), bf_]))),
  (1575, none),
  (1589, some (.cells true (.row 155) (.agg StL215)))] Stt224)
noncomputable def Stt226 : T8 AO := cleanT (updAll [(co_ 1590 41 ((pv_ 256 0)))] Stt225)
noncomputable def Stt227 : T8 AO := cleanT (updAll [(2, some (.mp 151 152 StL216)),
  (co_ 3 149 ((ag_ [(i6_ 169), (.map (some 1)), (.map (some 2)), (sl_ 1603 155 456), (.map none), (i6_ 0), (i6_ 114), bf_]))),
  (1589, none),
  (1603, some (.cells true (.row 155) (.agg StL217)))] Stt226)
noncomputable def Stt228 : T8 AO := cleanT (updAll [(co_ 1604 41 ((pv_ 256 0)))] Stt227)
noncomputable def Stt229 : T8 AO := cleanT (updAll [(2, some (.mp 151 152 StL218)),
  (co_ 3 149 ((ag_ [(i6_ 169), (.map (some 1)), (.map (some 2)), (sl_ 1617 155 460), (.map none), (i6_ 0), (i6_ 115), bf_]))),
  (1603, none),
  (1617, some (.cells true (.row 155) (.agg StL219)))] Stt228)
noncomputable def Stt230 : T8 AO := cleanT (updAll [(co_ 1618 41 ((pv_ 256 0)))] Stt229)
noncomputable def Stt231 : T8 AO := cleanT (updAll [(2, some (.mp 151 152 StL220)),
  (co_ 3 149 ((ag_ [(i6_ 169), (.map (some 1)), (.map (some 2)), (sl_ 1631 155 464), (.map none), (i6_ 0), (i6_ 116), bf_]))),
  (1617, none),
  (1631, some (.cells true (.row 155) (.agg StL221)))] Stt230)
noncomputable def Stt232 : T8 AO := cleanT (updAll [(co_ 1632 41 ((pv_ 256 0)))] Stt231)
noncomputable def Stt233 : T8 AO := cleanT (updAll [(2, some (.mp 151 152 StL222)),
  (co_ 3 149 ((ag_ [(i6_ 169), (.map (some 1)), (.map (some 2)), (sl_ 1645 155 468), (.map none), (i6_ 0), (i6_ 117), bf_]))),
  (1631, none),
  (1645, some (.cells true (.row 155) (.agg StL223)))] Stt232)
noncomputable def Stt234 : T8 AO := cleanT (updAll [(co_ 1646 41 ((pv_ 256 0)))] Stt233)
noncomputable def Stt235 : T8 AO := cleanT (updAll [(2, some (.mp 151 152 StL224)),
  (co_ 3 149 ((ag_ [(i6_ 169), (.map (some 1)), (.map (some 2)), (sl_ 1659 155 472), (.map none), (i6_ 0), (i6_ 118), bf_]))),
  (1645, none),
  (1659, some (.cells true (.row 155) (.agg StL225)))] Stt234)
noncomputable def Stt236 : T8 AO := cleanT (updAll [(co_ 1660 41 ((pv_ 256 0)))] Stt235)
noncomputable def Stt237 : T8 AO := cleanT (updAll [(2, some (.mp 151 152 StL226)),
  (co_ 3 149 ((ag_ [(i6_ 169), (.map (some 1)), (.map (some 2)), (sl_ 1673 155 476), (.map none), (i6_ 0), (i6_ 119), bf_]))),
  (1659, none),
  (1673, some (.cells true (.row 155) (.agg StL227)))] Stt236)
noncomputable def Stt238 : T8 AO := cleanT (updAll [(co_ 1674 41 ((pv_ 256 0)))] Stt237)
noncomputable def Stt239 : T8 AO := cleanT (updAll [(2, some (.mp 151 152 StL228)),
  (co_ 3 149 ((ag_ [(i6_ 169), (.map (some 1)), (.map (some 2)), (sl_ 1687 155 480), (.map none), (i6_ 0), (i6_ 120), bf_]))),
  (1673, none),
  (1687, some (.cells true (.row 155) (.agg StL229)))] Stt238)
noncomputable def Stt240 : T8 AO := cleanT (updAll [(co_ 1688 41 ((pv_ 256 0)))] Stt239)
noncomputable def Stt241 : T8 AO := cleanT (updAll [(2, some (.mp 151 152 StL230)),
  (co_ 3 149 ((ag_ [(i6_ 169), (.map (some 1)), (.map (some 2)), (sl_ 1701 155 484), (.map none), (i6_ 0), (i6_ 121), bf_]))),
  (1687, none),
  (1701, some (.cells true (.row 155) (.agg StL231)))] Stt240)
noncomputable def Stt242 : T8 AO := cleanT (updAll [(co_ 1702 41 ((pv_ 256 0)))] Stt241)
noncomputable def Stt243 : T8 AO := cleanT (updAll [(2, some (.mp 151 152 StL232)),
  (co_ 3 149 ((ag_ [(i6_ 169), (.map (some 1)), (.map (some 2)), (sl_ 1715 155 488), (.map none), (i6_ 0), (i6_ 122), bf_]))),
  (1701, none),
  (1715, some (.cells true (.row 155) (.agg StL233)))] Stt242)
noncomputable def Stt244 : T8 AO := cleanT (updAll [(co_ 1716 41 ((pv_ 256 0)))] Stt243)
noncomputable def Stt245 : T8 AO := cleanT (updAll [(2, some (.mp 151 152 StL234)),
  (co_ 3 149 ((ag_ [(i6_ 169), (.map (some 1)), (.map (some 2)), (sl_ 1729 155 492), (.map none), (i6_ 0), (i6_ 123), bf_]))),
  (1715, none),
  (1729, some (.cells true (.row 155) (.agg StL235)))] Stt244)
noncomputable def Stt246 : T8 AO := cleanT (updAll [(co_ 1730 41 ((pv_ 256 0)))] Stt245)
noncomputable def Stt247 : T8 AO := cleanT (updAll [(2, some (.mp 151 152 StL236)),
  (co_ 3 149 ((ag_ [(i6_ 169), (.map (some 1)), (.map (some 2)), (sl_ 1743 155 496), (.map none), (i6_ 0), (i6_ 124), bf_]))),
  (1729, none),
  (1743, some (.cells true (.row 155) (.agg StL237)))] Stt246)
noncomputable def Stt248 : T8 AO := cleanT (updAll [(co_ 1744 41 ((pv_ 256 0)))] Stt247)
noncomputable def Stt249 : T8 AO := cleanT (updAll [(2, some (.mp 151 152 StL238)),
  (co_ 3 149 ((ag_ [(i6_ 169), (.map (some 1)), (.map (some 2)), (sl_ 1757 155 500), (.map none), (i6_ 0), (i6_ 125), bf_]))),
  (1743, none),
  (1757, some (.cells true (.row 155) (.agg StL239)))] Stt248)
noncomputable def Stt250 : T8 AO := cleanT (updAll [(co_ 1758 41 ((pv_ 256 0)))] Stt249)
noncomputable def Stt251 : T8 AO := cleanT (updAll [(2, some (.mp 151 152 StL240)),
  (co_ 3 149 ((ag_ [(i6_ 169), (.map (some 1)), (.map (some 2)), (sl_ 1771 155 504), (.map none), (i6_ 0), (i6_ 126), bf_]))),
  (1757, none),
  (1771, some (.cells true (.row 155) (.agg StL241)))] Stt250)
noncomputable def Stt252 : T8 AO := cleanT (updAll [(co_ 1772 41 ((pv_ 256 0)))] Stt251)
noncomputable def Stt253 : T8 AO := cleanT (updAll [(2, some (.mp 151 152 StL242)),
  (co_ 3 149 ((ag_ [(i6_ 169), (.map (some 1)), (.map (some 2)), (sl_ 1785 155 508), (.map none), (i6_ 0), (i6_ 127), bf_]))),
  (1771, none),
  (1785, some (.cells true (.row 155) (.agg StL243)))] Stt252)
noncomputable def Stt254 : T8 AO := cleanT (updAll [(co_ 1786 41 ((pv_ 256 0)))] Stt253)
noncomputable def Stt255 : T8 AO := cleanT (updAll [(2, some (.mp 151 152 StL244)),
  (co_ 3 149 ((ag_ [(i6_ 169), (.map (some 1)), (.map (some 2)), (sl_ 1799 155 512), (.map none), (i6_ 0), (i6_ 128), bf_]))),
  (1785, none),
  (1799, some (.cells true (.row 155) (.agg StL245)))] Stt254)
noncomputable def Stt256 : T8 AO := cleanT (updAll [(co_ 1800 41 ((pv_ 256 0)))] Stt255)
noncomputable def Stt257 : T8 AO := cleanT (updAll [(2, some (.mp 151 152 StL246)),
  (co_ 3 149 ((ag_ [(i6_ 169), (.map (some 1)), (.map (some 2)), (sl_ 1813 155 516), (.map none), (i6_ 0), (i6_ 129), bf_]))),
  (1799, none),
  (1813, some (.cells true (.row 155) (.agg StL247)))] Stt256)
noncomputable def Stt258 : T8 AO := cleanT (updAll [(co_ 1814 41 ((pv_ 256 0)))] Stt257)
noncomputable def Stt259 : T8 AO := cleanT (updAll [(2, some (.mp 151 152 StL248)),
  (co_ 3 149 ((ag_ [(i6_ 169), (.map (some 1)), (.map (some 2)), (sl_ 1827 155 520), (.map none), (i6_ 0), (i6_ 130), bf_]))),
  (1813, none),
  (1827, some (.cells true (.row 155) (.agg StL249)))] Stt258)
noncomputable def Stt260 : T8 AO := cleanT (updAll [(co_ 1828 41 ((pv_ 256 0)))] Stt259)
noncomputable def Stt261 : T8 AO := cleanT (updAll [(2, some (.mp 151 152 StL250)),
  (co_ 3 149 ((ag_ [(i6_ 169), (.map (some 1)), (.map (some 2)), (sl_ 1841 155 524), (.map none), (i6_ 0), (i6_ 131), bf_]))),
  (1827, none),
  (1841, some (.cells true (.row 155) (.agg StL251)))] Stt260)
noncomputable def Stt262 : T8 AO := cleanT (updAll [(co_ 1842 41 ((pv_ 256 0)))] Stt261)
noncomputable def Stt263 : T8 AO := cleanT (updAll [(2, some (.mp 151 152 StL252)),
  (co_ 3 149 ((ag_ [(i6_ 169), (.map (some 1)), (.map (some 2)), (sl_ 1855 155 528), (.map none), (i6_ 0), (i6_ 132), bf_]))),
  (1841, none),
  (1855, some (.cells true (.row 155) (.agg StL253)))] Stt262)
noncomputable def Stt264 : T8 AO := cleanT (updAll [(co_ 1856 41 ((pv_ 256 0)))] Stt263)
noncomputable def Stt265 : T8 AO := cleanT (updAll [(2, some (.mp 151 152 StL254)),
  (co_ 3 149 ((ag_ [(i6_ 169), (.map (some 1)), (.map (some 2)), (sl_ 1869 155 532), (.map none), (i6_ 0), (i6_ 133), bf_]))),
  (1855, none),
  (1869, some (.cells true (.row 155) (.agg StL255)))] Stt264)
noncomputable def Stt266 : T8 AO := cleanT (updAll [(co_ 1870 41 ((pv_ 256 0)))] Stt265)
noncomputable def Stt267 : T8 AO := cleanT (updAll [(2, some (.mp 151 152 StL256)),
  (co_ 3 149 ((ag_ [(i6_ 169), (.map (some 1)), (.map (some 2)), (sl_ 1883 155 536), (.map none), (i6_ 0), (i6_ 134), bf_]))),
  (1869, none),
  (1883, some (.cells true (.row 155) (.agg StL257)))] Stt266)
noncomputable def Stt268 : T8 AO := cleanT (updAll [(co_ 1884 41 ((pv_ 256 0)))] Stt267)
noncomputable def Stt269 : T8 AO := cleanT (updAll [(2, some (.mp 151 152 StL258)),
  (co_ 3 149 ((ag_ [(i6_ 169), (.map (some 1)), (.map (some 2)), (sl_ 1897 155 540), (.map none), (i6_ 0), (i6_ 135), bf_]))),
  (1883, none),
  (1897, some (.cells true (.row 155) (.agg StL259)))] Stt268)
noncomputable def Stt270 : T8 AO := cleanT (updAll [(co_ 1898 41 ((pv_ 256 0)))] Stt269)
noncomputable def Stt271 : T8 AO := cleanT (updAll [(2, some (.mp 151 152 StL260)),
  (co_ 3 149 ((ag_ [(i6_ 169), (.map (some 1)), (.map (some 2)), (sl_ 1911 155 544), (.map none), (i6_ 0), (i6_ 136), bf_]))),
  (1897, none),
  (1911, some (.cells true (.row 155) (.agg StL261)))] Stt270)
noncomputable def Stt272 : T8 AO := cleanT (updAll [(co_ 1912 41 ((pv_ 256 0)))] Stt271)
noncomputable def Stt273 : T8 AO := cleanT (updAll [(2, some (.mp 151 152 StL262)),
  (co_ 3 149 ((ag_ [(i6_ 169), (.map (some 1)), (.map (some 2)), (sl_ 1925 155 548), (.map none), (i6_ 0), (i6_ 137), bf_]))),
  (1911, none),
  (1925, some (.cells true (.row 155) (.agg StL263)))] Stt272)
noncomputable def Stt274 : T8 AO := cleanT (updAll [(co_ 1926 41 ((pv_ 256 0)))] Stt273)
noncomputable def Stt275 : T8 AO := cleanT (updAll [(2, some (.mp 151 152 StL264)),
  (co_ 3 149 ((ag_ [(i6_ 169), (.map (some 1)), (.map (some 2)), (sl_ 1939 155 552), (.map none), (i6_ 0), (i6_ 138), bf_]))),
  (1925, none),
  (1939, some (.cells true (.row 155) (.agg StL265)))] Stt274)
noncomputable def Stt276 : T8 AO := cleanT (updAll [(co_ 1940 41 ((pv_ 256 0)))] Stt275)
noncomputable def Stt277 : T8 AO := cleanT (updAll [(2, some (.mp 151 152 StL266)),
  (co_ 3 149 ((ag_ [(i6_ 169), (.map (some 1)), (.map (some 2)), (sl_ 1953 155 556), (.map none), (i6_ 0), (i6_ 139), bf_]))),
  (1939, none),
  (1953, some (.cells true (.row 155) (.agg StL267)))] Stt276)
noncomputable def Stt278 : T8 AO := cleanT (updAll [(co_ 1954 41 ((pv_ 256 0)))] Stt277)
noncomputable def Stt279 : T8 AO := cleanT (updAll [(2, some (.mp 151 152 StL268)),
  (co_ 3 149 ((ag_ [(i6_ 169), (.map (some 1)), (.map (some 2)), (sl_ 1967 155 560), (.map none), (i6_ 0), (i6_ 140), bf_]))),
  (1953, none),
  (1967, some (.cells true (.row 155) (.agg StL269)))] Stt278)
noncomputable def Stt280 : T8 AO := cleanT (updAll [(co_ 1968 41 ((pv_ 256 0)))] Stt279)
noncomputable def Stt281 : T8 AO := cleanT (updAll [(2, some (.mp 151 152 StL270)),
  (co_ 3 149 ((ag_ [(i6_ 169), (.map (some 1)), (.map (some 2)), (sl_ 1981 155 564), (.map none), (i6_ 0), (i6_ 141), bf_]))),
  (1967, none),
  (1981, some (.cells true (.row 155) (.agg StL271)))] Stt280)
noncomputable def Stt282 : T8 AO := cleanT (updAll [(co_ 1982 41 ((pv_ 256 0)))] Stt281)
noncomputable def Stt283 : T8 AO := cleanT (updAll [(2, some (.mp 151 152 StL272)),
  (co_ 3 149 ((ag_ [(i6_ 169), (.map (some 1)), (.map (some 2)), (sl_ 1995 155 568), (.map none), (i6_ 0), (i6_ 142), bf_]))),
  (1981, none),
  (1995, some (.cells true (.row 155) (.agg StL273)))] Stt282)
noncomputable def Stt284 : T8 AO := cleanT (updAll [(co_ 1996 41 ((pv_ 256 0)))] Stt283)
noncomputable def Stt285 : T8 AO := cleanT (updAll [(2, some (.mp 151 152 StL274)),
  (co_ 3 149 ((ag_ [(i6_ 169), (.map (some 1)), (.map (some 2)), (sl_ 2009 155 572), (.map none), (i6_ 0), (i6_ 143), bf_]))),
  (1995, none),
  (2009, some (.cells true (.row 155) (.agg StL275)))] Stt284)
noncomputable def Stt286 : T8 AO := cleanT (updAll [(co_ 2010 41 ((pv_ 256 0)))] Stt285)
noncomputable def Stt287 : T8 AO := cleanT (updAll [(2, some (.mp 151 152 StL276)),
  (co_ 3 149 ((ag_ [(i6_ 169), (.map (some 1)), (.map (some 2)), (sl_ 2023 155 576), (.map none), (i6_ 0), (i6_ 144), bf_]))),
  (2009, none),
  (2023, some (.cells true (.row 155) (.agg StL277)))] Stt286)
noncomputable def Stt288 : T8 AO := cleanT (updAll [(co_ 2024 41 ((pv_ 256 0)))] Stt287)
noncomputable def Stt289 : T8 AO := cleanT (updAll [(2, some (.mp 151 152 StL278)),
  (co_ 3 149 ((ag_ [(i6_ 169), (.map (some 1)), (.map (some 2)), (sl_ 2037 155 580), (.map none), (i6_ 0), (i6_ 145), bf_]))),
  (2023, none),
  (2037, some (.cells true (.row 155) (.agg StL279)))] Stt288)
noncomputable def Stt290 : T8 AO := cleanT (updAll [(co_ 2038 41 ((pv_ 256 0)))] Stt289)
noncomputable def Stt291 : T8 AO := cleanT (updAll [(2, some (.mp 151 152 StL280)),
  (co_ 3 149 ((ag_ [(i6_ 169), (.map (some 1)), (.map (some 2)), (sl_ 2051 155 584), (.map none), (i6_ 0), (i6_ 146), bf_]))),
  (2037, none),
  (2051, some (.cells true (.row 155) (.agg StL281)))] Stt290)
noncomputable def Stt292 : T8 AO := cleanT (updAll [(co_ 2052 41 ((pv_ 256 0)))] Stt291)
noncomputable def Stt293 : T8 AO := cleanT (updAll [(2, some (.mp 151 152 StL282)),
  (co_ 3 149 ((ag_ [(i6_ 169), (.map (some 1)), (.map (some 2)), (sl_ 2065 155 588), (.map none), (i6_ 0), (i6_ 147), bf_]))),
  (2051, none),
  (2065, some (.cells true (.row 155) (.agg StL283)))] Stt292)
noncomputable def Stt294 : T8 AO := cleanT (updAll [(co_ 2066 41 ((pv_ 256 0)))] Stt293)
noncomputable def Stt295 : T8 AO := cleanT (updAll [(2, some (.mp 151 152 StL284)),
  (co_ 3 149 ((ag_ [(i6_ 169), (.map (some 1)), (.map (some 2)), (sl_ 2079 155 592), (.map none), (i6_ 0), (i6_ 148), bf_]))),
  (2065, none),
  (2079, some (.cells true (.row 155) (.agg StL285)))] Stt294)
noncomputable def Stt296 : T8 AO := cleanT (updAll [(co_ 2080 41 ((pv_ 256 0)))] Stt295)
noncomputable def Stt297 : T8 AO := cleanT (updAll [(2, some (.mp 151 152 StL286)),
  (co_ 3 149 ((ag_ [(i6_ 169), (.map (some 1)), (.map (some 2)), (sl_ 2093 155 596), (.map none), (i6_ 0), (i6_ 149), bf_]))),
  (2079, none),
  (2093, some (.cells true (.row 155) (.agg StL287)))] Stt296)
noncomputable def Stt298 : T8 AO := cleanT (updAll [(co_ 2094 41 ((pv_ 256 0)))] Stt297)
noncomputable def Stt299 : T8 AO := cleanT (updAll [(2, some (.mp 151 152 StL288)),
  (co_ 3 149 ((ag_ [(i6_ 169), (.map (some 1)), (.map (some 2)), (sl_ 2107 155 600), (.map none), (i6_ 0), (i6_ 150), bf_]))),
  (2093, none),
  (2107, some (.cells true (.row 155) (.agg StL289)))] Stt298)
noncomputable def Stt300 : T8 AO := cleanT (updAll [(co_ 2108 41 ((pv_ 256 0)))] Stt299)
noncomputable def Stt301 : T8 AO := cleanT (updAll [(2, some (.mp 151 152 StL290)),
  (co_ 3 149 ((ag_ [(i6_ 169), (.map (some 1)), (.map (some 2)), (sl_ 2121 155 604), (.map none), (i6_ 0), (i6_ 151), bf_]))),
  (2107, none),
  (2121, some (.cells true (.row 155) (.agg StL291)))] Stt300)
noncomputable def Stt302 : T8 AO := cleanT (updAll [(co_ 2122 41 ((pv_ 256 0)))] Stt301)
noncomputable def Stt303 : T8 AO := cleanT (updAll [(2, some (.mp 151 152 StL292)),
  (co_ 3 149 ((ag_ [(i6_ 169), (.map (some 1)), (.map (some 2)), (sl_ 2135 155 608), (.map none), (i6_ 0), (i6_ 152), bf_]))),
  (2121, none),
  (2135, some (.cells true (.row 155) (.agg StL293)))] Stt302)
noncomputable def Stt304 : T8 AO := cleanT (updAll [(co_ 2136 41 ((pv_ 256 0)))] Stt303)
noncomputable def Stt305 : T8 AO := cleanT (updAll [(2, some (.mp 151 152 StL294)),
  (co_ 3 149 ((ag_ [(i6_ 169), (.map (some 1)), (.map (some 2)), (sl_ 2149 155 612), (.map none), (i6_ 0), (i6_ 153), bf_]))),
  (2135, none),
  (2149, some (.cells true (.row 155) (.agg StL295)))] Stt304)
noncomputable def Stt306 : T8 AO := cleanT (updAll [(co_ 2150 41 ((pv_ 256 0)))] Stt305)
noncomputable def Stt307 : T8 AO := cleanT (updAll [(2, some (.mp 151 152 StL296)),
  (co_ 3 149 ((ag_ [(i6_ 169), (.map (some 1)), (.map (some 2)), (sl_ 2163 155 616), (.map none), (i6_ 0), (i6_ 154), bf_]))),
  (2149, none),
  (2163, some (.cells true (.row 155) (.agg StL297)))] Stt306)
noncomputable def Stt308 : T8 AO := cleanT (updAll [(co_ 2164 41 ((pv_ 256 0)))] Stt307)
noncomputable def Stt309 : T8 AO := cleanT (updAll [(2, some (.mp 151 152 StL298)),
  (co_ 3 149 ((ag_ [(i6_ 169), (.map (some 1)), (.map (some 2)), (sl_ 2177 155 620), (.map none), (i6_ 0), (i6_ 155), bf_]))),
  (2163, none),
  (2177, some (.cells true (.row 155) (.agg StL299)))] Stt308)
noncomputable def Stt310 : T8 AO := cleanT (updAll [(co_ 2178 41 ((pv_ 256 0)))] Stt309)
noncomputable def Stt311 : T8 AO := cleanT (updAll [(2, some (.mp 151 152 StL300)),
  (co_ 3 149 ((ag_ [(i6_ 169), (.map (some 1)), (.map (some 2)), (sl_ 2191 155 624), (.map none), (i6_ 0), (i6_ 156), bf_]))),
  (2177, none),
  (2191, some (.cells true (.row 155) (.agg StL301)))] Stt310)
noncomputable def Stt312 : T8 AO := cleanT (updAll [(co_ 2192 41 ((pv_ 256 0)))] Stt311)
noncomputable def Stt313 : T8 AO := cleanT (updAll [(2, some (.mp 151 152 StL302)),
  (co_ 3 149 ((ag_ [(i6_ 169), (.map (some 1)), (.map (some 2)), (sl_ 2205 155 628), (.map none), (i6_ 0), (i6_ 157), bf_]))),
  (2191, none),
  (2205, some (.cells true (.row 155) (.agg StL303)))] Stt312)
noncomputable def Stt314 : T8 AO := cleanT (updAll [(co_ 2206 41 ((pv_ 256 0)))] Stt313)
noncomputable def Stt315 : T8 AO := cleanT (updAll [(2, some (.mp 151 152 StL304)),
  (co_ 3 149 ((ag_ [(i6_ 169), (.map (some 1)), (.map (some 2)), (sl_ 2219 155 632), (.map none), (i6_ 0), (i6_ 158), bf_]))),
  (2205, none),
  (2219, some (.cells true (.row 155) (.agg StL305)))] Stt314)
noncomputable def Stt316 : T8 AO := cleanT (updAll [(co_ 2220 41 ((pv_ 256 0)))] Stt315)
noncomputable def Stt317 : T8 AO := cleanT (updAll [(2, some (.mp 151 152 StL306)),
  (co_ 3 149 ((ag_ [(i6_ 169), (.map (some 1)), (.map (some 2)), (sl_ 2233 155 636), (.map none), (i6_ 0), (i6_ 159), bf_]))),
  (2219, none),
  (2233, some (.cells true (.row 155) (.agg StL307)))] Stt316)
noncomputable def Stt318 : T8 AO := cleanT (updAll [(co_ 2234 41 ((pv_ 256 0)))] Stt317)
noncomputable def Stt319 : T8 AO := cleanT (updAll [(2, some (.mp 151 152 StL308)),
  (co_ 3 149 ((ag_ [(i6_ 169), (.map (some 1)), (.map (some 2)), (sl_ 2247 155 640), (.map none), (i6_ 0), (i6_ 160), bf_]))),
  (2233, none),
  (2247, some (.cells true (.row 155) (.agg StL309)))] Stt318)
noncomputable def Stt320 : T8 AO := cleanT (updAll [(co_ 2248 41 ((pv_ 256 0)))] Stt319)
noncomputable def Stt321 : T8 AO := cleanT (updAll [(2, some (.mp 151 152 StL310)),
  (co_ 3 149 ((ag_ [(i6_ 169), (.map (some 1)), (.map (some 2)), (sl_ 2261 155 644), (.map none), (i6_ 0), (i6_ 161), bf_]))),
  (2247, none),
  (2261, some (.cells true (.row 155) (.agg StL311)))] Stt320)
noncomputable def Stt322 : T8 AO := cleanT (updAll [(co_ 2262 41 ((pv_ 256 0)))] Stt321)
noncomputable def Stt323 : T8 AO := cleanT (updAll [(2, some (.mp 151 152 StL312)),
  (co_ 3 149 ((ag_ [(i6_ 169), (.map (some 1)), (.map (some 2)), (sl_ 2275 155 648), (.map none), (i6_ 0), (i6_ 162), bf_]))),
  (2261, none),
  (2275, some (.cells true (.row 155) (.agg StL313)))] Stt322)
noncomputable def Stt324 : T8 AO := cleanT (updAll [(co_ 2276 41 ((pv_ 256 0)))] Stt323)
noncomputable def Stt325 : T8 AO := cleanT (updAll [(2, some (.mp 151 152 StL314)),
  (co_ 3 149 ((ag_ [(i6_ 169), (.map (some 1)), (.map (some 2)), (sl_ 2289 155 652), (.map none), (i6_ 0), (i6_ 163), bf_]))),
  (2275, none),
  (2289, some (.cells true (.row 155) (.agg StL315)))] Stt324)
noncomputable def Stt326 : T8 AO := cleanT (updAll [(co_ 2290 41 ((pv_ 256 0)))] Stt325)
noncomputable def Stt327 : T8 AO := cleanT (updAll [(2, some (.mp 151 152 StL316)),
  (co_ 3 149 ((ag_ [(i6_ 169), (.map (some 1)), (.map (some 2)), (sl_ 2303 155 656), (.map none), (i6_ 0), (i6_ 164), bf_]))),
  (2289, none),
  (2303, some (.cells true (.row 155) (.agg StL317)))] Stt326)
noncomputable def Stt328 : T8 AO := cleanT (updAll [(co_ 2304 41 ((pv_ 256 0)))] Stt327)
noncomputable def Stt329 : T8 AO := cleanT (updAll [(2, some (.mp 151 152 StL318)),
  (co_ 3 149 ((ag_ [(i6_ 169), (.map (some 1)), (.map (some 2)), (sl_ 2317 155 660), (.map none), (i6_ 0), (i6_ 165), bf_]))),
  (2303, none),
  (2317, some (.cells true (.row 155) (.agg StL319)))] Stt328)
noncomputable def Stt330 : T8 AO := cleanT (updAll [(co_ 2318 41 ((pv_ 256 0)))] Stt329)
noncomputable def Stt331 : T8 AO := cleanT (updAll [(2, some (.mp 151 152 StL320)),
  (co_ 3 149 ((ag_ [(i6_ 169), (.map (some 1)), (.map (some 2)), (sl_ 2331 155 664), (.map none), (i6_ 0), (i6_ 166), bf_]))),
  (2317, none),
  (2331, some (.cells true (.row 155) (.agg StL321)))] Stt330)
noncomputable def Stt332 : T8 AO := cleanT (updAll [(co_ 2332 41 ((pv_ 256 0)))] Stt331)
noncomputable def Stt333 : T8 AO := cleanT (updAll [(2, some (.mp 151 152 StL322)),
  (co_ 3 149 ((ag_ [(i6_ 169), (.map (some 1)), (.map (some 2)), (sl_ 2345 155 668), (.map none), (i6_ 0), (i6_ 167), bf_]))),
  (2331, none),
  (2345, some (.cells true (.row 155) (.agg StL323)))] Stt332)
noncomputable def Stt334 : T8 AO := cleanT (updAll [(co_ 2346 41 ((pv_ 256 0)))] Stt333)
noncomputable def Stt335 : T8 AO := cleanT (updAll [(2, some (.mp 151 152 StL324)),
  (co_ 3 149 ((ag_ [(i6_ 169), (.map (some 1)), (.map (some 2)), (sl_ 2359 155 672), (.map none), (i6_ 0), (i6_ 168), bf_]))),
  (2345, none),
  (2359, some (.cells true (.row 155) (.agg StL325)))] Stt334)
noncomputable def Stt336 : T8 AO := cleanT (updAll [(co_ 2360 41 ((pv_ 256 0)))] Stt335)
noncomputable def Stt337 : T8 AO := cleanT (updAll [(2, some (.mp 151 152 StL326)),
  (co_ 3 149 ((ag_ [(i6_ 169), (.map (some 1)), (.map (some 2)), (sl_ 2373 155 676), (.map none), (i6_ 0), (i6_ 169), bf_]))),
  (2359, none),
  (2373, some (.cells true (.row 155) (.agg StL327)))] Stt336)
noncomputable def Stt338 : T8 AO := cleanT (updAll [(1, some (.mp 151 152 StL326)),
  (co_ 3 149 ((ag_ [(i6_ 169), (.map (some 1)), (.map (some 2)), sn_, (.map none), (i6_ 0), (i6_ 170), bf_])))] Stt337)
noncomputable def Stt339 : T8 AO := cleanT (updAll [(co_ 3050 53 ((ag_ [(u6_ 1), (u3_ 0), (u3_ 0), (u6_ 1), (u3_ 0), (ag_ [(i6_ 3), (i6_ 4), (i6_ 160), (u3_ 100)])]))),
  (co_ 3051 53 ((ag_ [(u6_ 1), (u3_ 0), (u3_ 0), (u6_ 1), (u3_ 0), (ag_ [(i6_ 3), (i6_ 4), (i6_ 160), (u3_ 100)])]))),
  (co_ 3052 41 ((pv_ 256 1751908409537131537220509645351687597690304110853111572994449976845956819751541616602568796259317428464425605223064365804210081422215355425149431390635152085911253638465843522959981857508604293008851875670734285318939096220059161268362455799216914068289430882977843213673511900600724019059761922151704880101565941158560442611560766016760316542411190684676242985483475064780129911850738607849848280361139887424817377373644101272953211783384016475793068915461693618056008394695187698253025940892099119423684626968677571141402247813503730482930776683213338248182129694911234444470261079384052460577142))),
  (co_ 3053 53 ((ag_ [(u6_ 1), (u3_ 0), (u3_ 0), (u6_ 1), (u3_ 0), (ag_ [(i6_ 3), (i6_ 4), (i6_ 160), (u3_ 100)])]))),
  (co_ 3054 51 ((ag_ [(i6_ 3), (i6_ 4), (i6_ 160), (u3_ 100)]))),
  (co_ 3055 53 ((ag_ [(u6_ 1), (u3_ 0), (u3_ 0), (u6_ 1), (u3_ 0), (ag_ [(i6_ 3), (i6_ 4), (i6_ 160), (u3_ 100)])]))),
  (co_ 3056 111 ((pv_ 224 28707456653425954921877521344719271559914539246299067133975390193519045051682732787740101915426600289738990709530998))),
  (co_ 3057 41 ((pv_ 256 1751908409537131537220509645351687597690304110853111572994449976845956819751541616602568796259317428464425605223064365804210081422215355425149431390635152085911253638465843522959981857508604293008851875670734285318939096220059161268362455799216914068289430882977843213673511900600724019059761922151704880101565941158560442611560766016760316542411190684676242985483475064780129911850738607849848280361139887424817377373644101272953211783384016475793068915461693618056008394695187698253025940892099119423684626968677571141402247813503730482930776683213338248182129694911234444470261079384052460577142)))] Stt338)
noncomputable def Stt340 : T8 AO := cleanT (updAll [(2, some (.mp 151 152 StL328)),
  (co_ 3 149 ((ag_ [(i6_ 169), (.map (some 1)), (.map (some 2)), (sl_ 3070 155 4), (.map none), (i6_ 0), (i6_ 171), bf_]))),
  (cr_ 3070 155 (([(ag_ [(k2_ 0 0), (pv_ 64 726838724295606890578031264541430489275518882032037331841404738426938355247373313519710095765446298348502623521692778223273592338145654)]), (ag_ [(k2_ 0 1), (pv_ 64 726838724295606890549323807888004534353641360687318060281490199180639288113397923326191050713763565560762521606266177933534601628614656)]), (ag_ [(k2_ 0 2), (pv_ 64 726838724295606890549323807888004534353641360687318060281490199180639288113397923326191050713763565560762521606266177933534601628614656)]), (ag_ [(k2_ 0 3), (pv_ 64 726838724295606890549323807888004534353641360687318060281490199180639288113397923326191050713763565560762521606266177933534601628614656)])])))] Stt339)
noncomputable def Stt341 : T8 AO := cleanT (updAll [(1, some (.mp 151 152 StL328)),
  (co_ 3 149 ((ag_ [(i6_ 169), (.map (some 1)), (.map (some 2)), sn_, (.map none), (i6_ 0), (i6_ 172), bf_])))] Stt340)
noncomputable def Stt342 : T8 AO := cleanT (updAll [(3050, none),
  (3051, none),
  (3052, none),
  (3053, none),
  (3054, none),
  (3055, none),
  (3056, none),
  (3057, none),
  (3070, none)] Stt341)
noncomputable def Stt343 : T8 AO := cleanT (updAll [(co_ 0 51 ((ag_ [(i6_ 3), (i6_ 4), (i6_ 160), (u3_ 100)]))),
  (1, some (.mp 151 152 [])),
  (2, some (.mp 151 152 [])),
  (co_ 3 149 ((ag_ [(i6_ 169), (.map (some 1)), (.map (some 2)), sn_, (.map none), (i6_ 0), (i6_ 0), bf_])))] .nil)
noncomputable def Stt344 : T8 AO := cleanT (updAll [(1, some (.mp 151 152 StL328)),
  (2, some (.mp 151 152 StL328)),
  (co_ 3 149 ((ag_ [(i6_ 169), (.map (some 1)), (.map (some 2)), sn_, (.map none), (i6_ 0), (i6_ 172), bf_])))] Stt343)
noncomputable def Stt345 : T8 AO := cleanT (updAll [(co_ 3 149 ((ag_ [(i6_ 169), (.map (some 1)), (.map (some 2)), sn_, (.map none), (i6_ 0), (i6_ 173), bf_])))] Stt344)
noncomputable def Stt346 : T8 AO := cleanT (updAll [(co_ 3 149 ((ag_ [(i6_ 169), (.map (some 1)), (.map (some 2)), sn_, (.map none), (i6_ 0), (i6_ 175), bf_])))] Stt344)
noncomputable def Stt347 : T8 AO := cleanT (updAll [(co_ 3109 53 ((ag_ [(u6_ 2), (u3_ 1), (u3_ 0), (u6_ 1), (u3_ 0), (ag_ [(i6_ 3), (i6_ 4), (i6_ 160), (u3_ 100)])]))),
  (co_ 3110 51 ((ag_ [(i6_ 3), (i6_ 4), (i6_ 160), (u3_ 100)]))),
  (co_ 3111 53 ((ag_ [(u6_ 0), (u3_ 0), (u3_ 0), (u6_ 0), (u3_ 0), (ag_ [(i6_ 3), (i6_ 4), (i6_ 160), (u3_ 100)])]))),
  (co_ 3112 51 ((ag_ [(i6_ 3), (i6_ 4), (i6_ 160), (u3_ 100)]))),
  (co_ 3113 53 ((ag_ [(u6_ 2), (u3_ 1), (u3_ 0), (u6_ 1), (u3_ 0), (ag_ [(i6_ 3), (i6_ 4), (i6_ 160), (u3_ 100)])]))),
  (co_ 3114 53 ((ag_ [(u6_ 2), (u3_ 1), (u3_ 0), (u6_ 1), (u3_ 0), (ag_ [(i6_ 3), (i6_ 4), (i6_ 160), (u3_ 100)])]))),
  (co_ 3115 41 ((pv_ 256 3503816819074263074441019290703375195380608221706223145988899953691913639503083233205137592518634856928851210446128731608420162844430710850298862781270304171822507276931687045919963715017208586017703751341468570637878192440118322536724911598433828136578861765955686427347023801201448038119523844303409760203131882317120885223121532033520633084822381369352485970966950129560259823701477215699696560722279774849634754747288202545906423566768032951586137830923387236112016789390375396479889336230213690855819301448142166544176994374039645875153537460385811269606904223796847681464053830070077494550902))),
  (co_ 3116 53 ((ag_ [(u6_ 2), (u3_ 1), (u3_ 0), (u6_ 1), (u3_ 0), (ag_ [(i6_ 3), (i6_ 4), (i6_ 160), (u3_ 100)])]))),
  (co_ 3117 51 ((ag_ [(i6_ 3), (i6_ 4), (i6_ 160), (u3_ 100)]))),
  (co_ 3118 53 ((ag_ [(u6_ 2), (u3_ 1), (u3_ 0), (u6_ 1), (u3_ 0), (ag_ [(i6_ 3), (i6_ 4), (i6_ 160), (u3_ 100)])]))),
  (co_ 3119 111 ((pv_ 224 31252367752867361852205090200225567381201577239630319177242764480997224876608110409454582623376732250779953992458614))),
  (co_ 3120 41 ((pv_ 256 3503816819074263074441019290703375195380608221706223145988899953691913639503083233205137592518634856928851210446128731608420162844430710850298862781270304171822507276931687045919963715017208586017703751341468570637878192440118322536724911598433828136578861765955686427347023801201448038119523844303409760203131882317120885223121532033520633084822381369352485970966950129560259823701477215699696560722279774849634754747288202545906423566768032951586137830923387236112016789390375396479889336230213690855819301448142166544176994374039645875153537460385811269606904223796847681464053830070077494550902)))] Stt346)
noncomputable def Stt348 : T8 AO := cleanT (updAll [(2, some (.mp 151 152 StL329)),
  (co_ 3 149 ((ag_ [(i6_ 169), (.map (some 1)), (.map (some 2)), (sl_ 3133 155 4), (.map none), (i6_ 0), (i6_ 176), bf_]))),
  (cr_ 3133 155 (([(ag_ [(k2_ 1 0), (pv_ 64 1453677448591213781129899983528876430559487811574861687944181975600908895404038611133379326304135241530979625835909088117849157249687926)]), (ag_ [(k2_ 1 1), (pv_ 64 1453677448591213781098647615776009068707282721374636120562980398361278576226795846652382101427527131121525043212532355867069203257229312)]), (ag_ [(k2_ 1 2), (pv_ 64 1453677448591213781098647615776009068707282721374636120562980398361278576226795846652382101427527131121525043212532355867069203257229312)]), (ag_ [(k2_ 1 3), (pv_ 64 1453677448591213781098647615776009068707282721374636120562980398361278576226795846652382101427527131121525043212532355867069203257229312)])])))] Stt347)
noncomputable def Stt349 : T8 AO := cleanT (updAll [(1, some (.mp 151 152 StL329)),
  (co_ 3 149 ((ag_ [(i6_ 169), (.map (some 1)), (.map (some 2)), sn_, (.map none), (i6_ 0), (i6_ 177), bf_])))] Stt348)
noncomputable def Stt350 : T8 AO := cleanT (updAll [(co_ 3109 53 ((ag_ [(u6_ 2), (u3_ 1), (u3_ 0), (u6_ 1), (u3_ 0), (ag_ [(i6_ 3), (i6_ 4), (i6_ 160), (u3_ 100)])]))),
  (co_ 3110 51 ((ag_ [(i6_ 3), (i6_ 4), (i6_ 160), (u3_ 100)]))),
  (co_ 3111 53 ((ag_ [(u6_ 0), (u3_ 0), (u3_ 0), (u6_ 0), (u3_ 0), (ag_ [(i6_ 3), (i6_ 4), (i6_ 160), (u3_ 100)])]))),
  (co_ 3112 51 ((ag_ [(i6_ 3), (i6_ 4), (i6_ 160), (u3_ 100)])))] Stt346)
noncomputable def Stt351 : T8 AO := cleanT (updAll [(3113, none),
  (3114, none),
  (3115, none),
  (3116, none),
  (3117, none),
  (3118, none),
  (3119, none),
  (3120, none),
  (3133, none)] Stt349)
noncomputable def Stt352 : T8 AO := cleanT (updAll [(co_ 3138 161 ((ag_ [pn_, (ag_ [(u6_ 2), (u3_ 1), (u3_ 0), (u6_ 1), (u3_ 0), (ag_ [(i6_ 3), (i6_ 4), (i6_ 160), (u3_ 100)])]), (u6_ 2), (i6_ 1)]))),
  (co_ 3139 51 ((ag_ [(i6_ 3), (i6_ 4), (i6_ 160), (u3_ 100)])))] Stt351)
noncomputable def Stt353 : T8 AO := cleanT (updAll [(co_ 3 149 ((ag_ [(i6_ 169), (.map (some 1)), (.map (some 2)), sn_, (.map none), (i6_ 0), (i6_ 178), bf_])))] Stt352)
noncomputable def Stt354 : T8 AO := cleanT (updAll [(co_ 3 149 ((ag_ [(i6_ 169), (.map (some 1)), (.map (some 2)), sn_, (.map none), (i6_ 0), (i6_ 182), bf_]))),
  (co_ 3138 161 ((ag_ [(pt_ 3155 137), (ag_ [(u6_ 2), (u3_ 1), (u3_ 0), (u6_ 1), (u3_ 0), (ag_ [(i6_ 3), (i6_ 4), (i6_ 160), (u3_ 100)])]), (u6_ 2), (i6_ 1)]))),
  (co_ 3145 51 ((ag_ [(i6_ 3), (i6_ 4), (i6_ 160), (u3_ 100)]))),
  (co_ 3146 304 ((ag_ [(pt_ 3 149), (i6_ 9), (i6_ 160), (u3_ 1), sn_, sn_, s0_, (u3_ 0), (u6_ 1), (u6_ 1), bt_]))),
  (cr_ 3147 4 (([bt_, bt_, bt_, bt_, bf_]))),
  (cr_ 3148 4 (([bt_, bt_, bt_, bt_, bf_]))),
  (cr_ 3149 3 (([(i6_ 0), (i6_ 0), (i6_ 0), (i6_ 0), (i6_ 0)]))),
  (co_ 3150 415 ((ag_ [(i6_ 0), (sl_ 3147 4 5), (sl_ 3148 4 5), (sl_ 3149 3 5)]))),
  (3151, some (.mp 108 3 [((ag_ [bt_, (u1_ 0)]), (i6_ 0)), ((ag_ [bt_, (u1_ 1)]), (i6_ 1)), ((ag_ [bt_, (u1_ 2)]), (i6_ 2)), ((ag_ [bt_, (u1_ 3)]), (i6_ 3))])),
  (co_ 3152 293 ((ag_ [(pt_ 3 149), (.ifc 135 (pt_ 3146 304)), (pt_ 3150 415), (i6_ 3), (i6_ 4), (sl_ 3244 295 4), (i6_ 5), (.map (some 3151))]))),
  (cr_ 3153 128 (([(ag_ [(u6_ 0), sn_]), (ag_ [(u6_ 0), sn_]), (ag_ [(u6_ 0), sn_]), (ag_ [(u6_ 0), sn_])]))),
  (co_ 3154 140 ((ag_ [(sl_ 3153 128 4), (i6_ 0)]))),
  (co_ 3155 137 ((ag_ [(pt_ 3 149), (pt_ 3146 304), (pt_ 3152 293), (pt_ 3154 140), (ag_ [(i6_ 3), (i6_ 4), (i6_ 160), (u3_ 100)])]))),
  (co_ 3156 108 ((ag_ [bt_, (u1_ 0)]))),
  (co_ 3157 108 ((ag_ [bt_, (u1_ 0)]))),
  (co_ 3158 111 ((pv_ 224 47692561942315010))),
  (co_ 3159 108 ((ag_ [bt_, (u1_ 0)]))),
  (co_ 3160 108 ((ag_ [bt_, (u1_ 0)]))),
  (co_ 3161 41 ((pv_ 256 47692561942315010))),
  (co_ 3162 41 ((pv_ 256 47692561942315010))),
  (co_ 3163 41 ((pv_ 256 47692561942315010))),
  (co_ 3164 41 ((pv_ 256 47692561942315010))),
  (cr_ 3165 295 (([(ag_ [(ag_ [bf_, (u1_ 0)]), (pv_ 224 0), bf_, (u6_ 0), bf_])]))),
  (co_ 3167 111 ((pv_ 224 47692561942315010))),
  (co_ 3168 111 ((pv_ 224 47692561942315010))),
  (co_ 3169 108 ((ag_ [bt_, (u1_ 0)]))),
  (co_ 3170 108 ((ag_ [bt_, (u1_ 0)]))),
  (co_ 3171 108 ((ag_ [bt_, (u1_ 0)]))),
  (co_ 3172 111 ((pv_ 224 47692561942315010))),
  (co_ 3173 111 ((pv_ 224 47692561942315010))),
  (co_ 3174 128 ((ag_ [(u6_ 0), sn_]))),
  (co_ 3175 128 ((ag_ [(u6_ 0), sn_]))),
  (co_ 3176 128 ((ag_ [(u6_ 0), sn_]))),
  (co_ 3177 128 ((ag_ [(u6_ 0), sn_]))),
  (co_ 3178 128 ((ag_ [(u6_ 0), sn_]))),
  (co_ 3179 128 ((ag_ [(u6_ 0), sn_]))),
  (co_ 3180 108 ((ag_ [bt_, (u1_ 0)]))),
  (co_ 3181 108 ((ag_ [bt_, (u1_ 0)]))),
  (co_ 3182 108 ((ag_ [bt_, (u1_ 1)]))),
  (co_ 3183 108 ((ag_ [bt_, (u1_ 1)]))),
  (co_ 3184 111 ((pv_ 224 26573149508206850))),
  (co_ 3185 108 ((ag_ [bt_, (u1_ 1)]))),
  (co_ 3186 108 ((ag_ [bt_, (u1_ 1)]))),
  (co_ 3187 41 ((pv_ 256 26573149508206850))),
  (co_ 3188 41 ((pv_ 256 26573149508206850))),
  (co_ 3189 41 ((pv_ 256 26573149508206850))),
  (co_ 3190 41 ((pv_ 256 26573149508206850))),
  (cr_ 3191 295 (([(ag_ [(ag_ [bf_, (u1_ 0)]), (pv_ 224 0), bf_, (u6_ 0), bf_])]))),
  (co_ 3193 111 ((pv_ 224 26573149508206850))),
  (co_ 3194 111 ((pv_ 224 26573149508206850))),
  (co_ 3195 108 ((ag_ [bt_, (u1_ 1)]))),
  (co_ 3196 108 ((ag_ [bt_, (u1_ 1)]))),
  (co_ 3197 108 ((ag_ [bt_, (u1_ 1)]))),
  (co_ 3198 111 ((pv_ 224 26573149508206850))),
  (co_ 3199 111 ((pv_ 224 26573149508206850))),
  (co_ 3200 128 ((ag_ [(u6_ 0), sn_]))),
  (co_ 3201 128 ((ag_ [(u6_ 0), sn_]))),
  (co_ 3202 128 ((ag_ [(u6_ 0), sn_]))),
  (co_ 3203 128 ((ag_ [(u6_ 0), sn_]))),
  (co_ 3204 128 ((ag_ [(u6_ 0), sn_]))),
  (co_ 3205 128 ((ag_ [(u6_ 0), sn_]))),
  (co_ 3206 108 ((ag_ [bt_, (u1_ 1)]))),
  (co_ 3207 108 ((ag_ [bt_, (u1_ 1)]))),
  (co_ 3208 108 ((ag_ [bt_, (u1_ 2)]))),
  (co_ 3209 108 ((ag_ [bt_, (u1_ 2)]))),
  (co_ 3210 111 ((pv_ 224 43964124572418562))),
  (co_ 3211 108 ((ag_ [bt_, (u1_ 2)]))),
  (co_ 3212 108 ((ag_ [bt_, (u1_ 2)]))),
  (co_ 3213 41 ((pv_ 256 43964124572418562))),
  (co_ 3214 41 ((pv_ 256 43964124572418562))),
  (co_ 3215 41 ((pv_ 256 43964124572418562))),
  (co_ 3216 41 ((pv_ 256 43964124572418562))),
  (cr_ 3217 295 (([(ag_ [(ag_ [bf_, (u1_ 0)]), (pv_ 224 0), bf_, (u6_ 0), bf_])]))),
  (co_ 3219 111 ((pv_ 224 43964124572418562))),
  (co_ 3220 111 ((pv_ 224 43964124572418562))),
  (co_ 3221 108 ((ag_ [bt_, (u1_ 2)]))),
  (co_ 3222 108 ((ag_ [bt_, (u1_ 2)]))),
  (co_ 3223 108 ((ag_ [bt_, (u1_ 2)]))),
  (co_ 3224 111 ((pv_ 224 43964124572418562))),
  (co_ 3225 111 ((pv_ 224 43964124572418562))),
  (co_ 3226 128 ((ag_ [(u6_ 0), sn_]))),
  (co_ 3227 128 ((ag_ [(u6_ 0), sn_]))),
  (co_ 3228 128 ((ag_ [(u6_ 0), sn_]))),
  (co_ 3229 128 ((ag_ [(u6_ 0), sn_]))),
  (co_ 3230 128 ((ag_ [(u6_ 0), sn_]))),
  (co_ 3231 128 ((ag_ [(u6_ 0), sn_]))),
  (co_ 3232 108 ((ag_ [bt_, (u1_ 2)]))),
  (co_ 3233 108 ((ag_ [bt_, (u1_ 2)]))),
  (co_ 3234 108 ((ag_ [bt_, (u1_ 3)]))),
  (co_ 3235 108 ((ag_ [bt_, (u1_ 3)]))),
  (co_ 3236 111 ((pv_ 224 30163044352918274))),
  (co_ 3237 108 ((ag_ [bt_, (u1_ 3)]))),
  (co_ 3238 108 ((ag_ [bt_, (u1_ 3)]))),
  (co_ 3239 41 ((pv_ 256 30163044352918274))),
  (co_ 3240 41 ((pv_ 256 30163044352918274))),
  (co_ 3241 41 ((pv_ 256 30163044352918274))),
  (co_ 3242 41 ((pv_ 256 30163044352918274))),
  (cr_ 3243 295 (([(ag_ [(ag_ [bf_, (u1_ 0)]), (pv_ 224 0), bf_, (u6_ 0), bf_])]))),
  (cr_ 3244 295 (([(ag_ [(ag_ [bt_, (u1_ 0)]), (pv_ 224 47692561942315010), bf_, (u6_ 0), bf_]), (ag_ [(ag_ [bt_, (u1_ 1)]), (pv_ 224 26573149508206850), bf_, (u6_ 0), bf_]), (ag_ [(ag_ [bt_, (u1_ 2)]), (pv_ 224 43964124572418562), bf_, (u6_ 0), bf_]), (ag_ [(ag_ [bt_, (u1_ 3)]), (pv_ 224 30163044352918274), bf_, (u6_ 0), bf_])]))),
  (co_ 3245 111 ((pv_ 224 30163044352918274))),
  (co_ 3246 111 ((pv_ 224 30163044352918274))),
  (co_ 3247 108 ((ag_ [bt_, (u1_ 3)]))),
  (co_ 3248 108 ((ag_ [bt_, (u1_ 3)]))),
  (co_ 3249 108 ((ag_ [bt_, (u1_ 3)]))),
  (co_ 3250 111 ((pv_ 224 30163044352918274))),
  (co_ 3251 111 ((pv_ 224 30163044352918274))),
  (co_ 3252 128 ((ag_ [(u6_ 0), sn_]))),
  (co_ 3253 128 ((ag_ [(u6_ 0), sn_]))),
  (co_ 3254 128 ((ag_ [(u6_ 0), sn_]))),
  (co_ 3255 128 ((ag_ [(u6_ 0), sn_]))),
  (co_ 3256 128 ((ag_ [(u6_ 0), sn_]))),
  (co_ 3257 128 ((ag_ [(u6_ 0), sn_]))),
  (co_ 3258 108 ((ag_ [bt_, (u1_ 3)]))),
  (co_ 3259 108 ((ag_ [bt_, (u1_ 3)])))] Stt352)
noncomputable def Stt355 : T8 AO := cleanT (updAll [(co_ 3 149 ((ag_ [(i6_ 169), (.map (some 1)), (.map (some 2)), sn_, (.map none), (i6_ 0), (i6_ 183), bf_]))),
  (cr_ 3147 4 (([bt_, bt_, bt_, bt_, bt_]))),
  (3151, some (.mp 108 3 [((ag_ [bt_, (u1_ 0)]), (i6_ 0)), ((ag_ [bt_, (u1_ 1)]), (i6_ 1)), ((ag_ [bt_, (u1_ 2)]), (i6_ 2)), ((ag_ [bt_, (u1_ 3)]), (i6_ 3)), ((ag_ [bf_, (u1_ 0)]), (i6_ 4))])),
  (co_ 3152 293 ((ag_ [(pt_ 3 149), (.ifc 135 (pt_ 3146 304)), (pt_ 3150 415), (i6_ 3), (i6_ 4), (sl_ 3271 295 5), (i6_ 5), (.map (some 3151))]))),
  (3244, none),
  (cr_ 3271 295 (([(ag_ [(ag_ [bt_, (u1_ 0)]), (pv_ 224 47692561942315010), bf_, (u6_ 0), bf_]), (ag_ [(ag_ [bt_, (u1_ 1)]), (pv_ 224 26573149508206850), bf_, (u6_ 0), bf_]), (ag_ [(ag_ [bt_, (u1_ 2)]), (pv_ 224 43964124572418562), bf_, (u6_ 0), bf_]), (ag_ [(ag_ [bt_, (u1_ 3)]), (pv_ 224 30163044352918274), bf_, (u6_ 0), bf_]), (ag_ [(ag_ [bf_, (u1_ 0)]), (pv_ 224 33506406212567041), bf_, (u6_ 0), bf_])])))] Stt354)
noncomputable def Stt356 : T8 AO := cleanT (updAll [(co_ 3276 116 ((ag_ [(u6_ 0), (u3_ 0), (ag_ [(u1_ 0), (u8_ 0)]), p0_])))] Stt355)
noncomputable def Stt357 : T8 AO := cleanT (updAll [(co_ 3 149 ((ag_ [(i6_ 169), (.map (some 1)), (.map (some 2)), sn_, (.map none), (i6_ 0), (i6_ 184), bf_]))),
  (cr_ 3148 4 (([bf_, bt_, bt_, bt_, bf_]))),
  (co_ 3150 415 ((ag_ [(i6_ 1), (sl_ 3147 4 5), (sl_ 3148 4 5), (sl_ 3149 3 5)]))),
  (3151, some (.mp 108 3 [((ag_ [bt_, (u1_ 1)]), (i6_ 1)), ((ag_ [bt_, (u1_ 2)]), (i6_ 2)), ((ag_ [bt_, (u1_ 3)]), (i6_ 3)), ((ag_ [bf_, (u1_ 0)]), (i6_ 4)), ((ag_ [bf_, (u1_ 1)]), (i6_ 0))])),
  (cr_ 3271 295 (([(ag_ [(ag_ [bf_, (u1_ 1)]), (pv_ 224 36048469110030593), bf_, (u6_ 0), bf_]), (ag_ [(ag_ [bt_, (u1_ 1)]), (pv_ 224 26573149508206850), bf_, (u6_ 0), bf_]), (ag_ [(ag_ [bt_, (u1_ 2)]), (pv_ 224 43964124572418562), bf_, (u6_ 0), bf_]), (ag_ [(ag_ [bt_, (u1_ 3)]), (pv_ 224 30163044352918274), bf_, (u6_ 0), bf_]), (ag_ [(ag_ [bf_, (u1_ 0)]), (pv_ 224 33506406212567041), bf_, (u6_ 0), bf_])])))] Stt356)
noncomputable def Stt358 : T8 AO := cleanT (updAll [(co_ 3291 116 ((ag_ [(u6_ 0), (u3_ 0), (ag_ [(u1_ 0), (u8_ 0)]), p0_])))] Stt357)
noncomputable def Stt359 : T8 AO := cleanT (updAll [(co_ 3 149 ((ag_ [(i6_ 169), (.map (some 1)), (.map (some 2)), sn_, (.map none), (i6_ 0), (i6_ 185), bf_]))),
  (cr_ 3148 4 (([bf_, bf_, bt_, bt_, bf_]))),
  (co_ 3150 415 ((ag_ [(i6_ 2), (sl_ 3147 4 5), (sl_ 3148 4 5), (sl_ 3149 3 5)]))),
  (3151, some (.mp 108 3 [((ag_ [bt_, (u1_ 2)]), (i6_ 2)), ((ag_ [bt_, (u1_ 3)]), (i6_ 3)), ((ag_ [bf_, (u1_ 0)]), (i6_ 4)), ((ag_ [bf_, (u1_ 1)]), (i6_ 0)), ((ag_ [bf_, (u1_ 2)]), (i6_ 1))])),
  (cr_ 3271 295 (([(ag_ [(ag_ [bf_, (u1_ 1)]), (pv_ 224 36048469110030593), bf_, (u6_ 0), bf_]), (ag_ [(ag_ [bf_, (u1_ 2)]), (pv_ 224 18657495387996673), bf_, (u6_ 0), bf_]), (ag_ [(ag_ [bt_, (u1_ 2)]), (pv_ 224 43964124572418562), bf_, (u6_ 0), bf_]), (ag_ [(ag_ [bt_, (u1_ 3)]), (pv_ 224 30163044352918274), bf_, (u6_ 0), bf_]), (ag_ [(ag_ [bf_, (u1_ 0)]), (pv_ 224 33506406212567041), bf_, (u6_ 0), bf_])])))] Stt358)
noncomputable def Stt360 : T8 AO := cleanT (updAll [(co_ 3138 161 ((ag_ [(pt_ 3155 137), (ag_ [(u6_ 2), (u3_ 1), (u3_ 0), (u6_ 1), (u3_ 0), (ag_ [(i6_ 3), (i6_ 4), (i6_ 160), (u3_ 100)])]), (u6_ 2), (i6_ 1)]))),
  (co_ 3145 51 ((ag_ [(i6_ 3), (i6_ 4), (i6_ 160), (u3_ 100)]))),
  (co_ 3146 304 ((ag_ [(pt_ 3 149), (i6_ 9), (i6_ 160), (u3_ 1), sn_, sn_, s0_, (u3_ 0), (u6_ 1), (u6_ 1), bt_]))),
  (cr_ 3147 4 (([bf_, bf_, bf_, bf_, bf_]))),
  (cr_ 3148 4 (([bf_, bf_, bf_, bf_, bf_]))),
  (cr_ 3149 3 (([(i6_ 0), (i6_ 0), (i6_ 0), (i6_ 0), (i6_ 0)]))),
  (co_ 3150 415 ((ag_ [(i6_ 0), (sl_ 3147 4 5), (sl_ 3148 4 5), (sl_ 3149 3 5)]))),
  (3151, some (.mp 108 3 [])),
  (co_ 3152 293 ((ag_ [(pt_ 3 149), (.ifc 135 (pt_ 3146 304)), (pt_ 3150 415), (i6_ 3), (i6_ 4), sn_, (i6_ 5), (.map (some 3151))]))),
  (cr_ 3153 128 (([(ag_ [(u6_ 0), sn_]), (ag_ [(u6_ 0), sn_]), (ag_ [(u6_ 0), sn_]), (ag_ [(u6_ 0), sn_])]))),
  (co_ 3154 140 ((ag_ [(sl_ 3153 128 4), (i6_ 0)]))),
  (co_ 3155 137 ((ag_ [(pt_ 3 149), (pt_ 3146 304), (pt_ 3152 293), (pt_ 3154 140), (ag_ [(i6_ 3), (i6_ 4), (i6_ 160), (u3_ 100)])])))] Stt353)
noncomputable def Stt361 : T8 AO := cleanT (updAll [(co_ 3 149 ((ag_ [(i6_ 169), (.map (some 1)), (.map (some 2)), sn_, (.map none), (i6_ 0), (i6_ 185), bf_]))),
  (cr_ 3147 4 (([bt_, bt_, bt_, bt_, bt_]))),
  (cr_ 3148 4 (([bf_, bf_, bt_, bt_, bf_]))),
  (co_ 3150 415 ((ag_ [(i6_ 2), (sl_ 3147 4 5), (sl_ 3148 4 5), (sl_ 3149 3 5)]))),
  (3151, some (.mp 108 3 [((ag_ [bt_, (u1_ 2)]), (i6_ 2)), ((ag_ [bt_, (u1_ 3)]), (i6_ 3)), ((ag_ [bf_, (u1_ 0)]), (i6_ 4)), ((ag_ [bf_, (u1_ 1)]), (i6_ 0)), ((ag_ [bf_, (u1_ 2)]), (i6_ 1))])),
  (co_ 3152 293 ((ag_ [(pt_ 3 149), (.ifc 135 (pt_ 3146 304)), (pt_ 3150 415), (i6_ 3), (i6_ 4), (sl_ 3271 295 5), (i6_ 5), (.map (some 3151))]))),
  (cr_ 3271 295 (([(ag_ [(ag_ [bf_, (u1_ 1)]), (pv_ 224 36048469110030593), bf_, (u6_ 0), bf_]), (ag_ [(ag_ [bf_, (u1_ 2)]), (pv_ 224 18657495387996673), bf_, (u6_ 0), bf_]), (ag_ [(ag_ [bt_, (u1_ 2)]), (pv_ 224 43964124572418562), bf_, (u6_ 0), bf_]), (ag_ [(ag_ [bt_, (u1_ 3)]), (pv_ 224 30163044352918274), bf_, (u6_ 0), bf_]), (ag_ [(ag_ [bf_, (u1_ 0)]), (pv_ 224 33506406212567041), bf_, (u6_ 0), bf_])])))] Stt360)
noncomputable def Stt362 : T8 AO := cleanT (updAll [(co_ 3138 161 ((ag_ [(pt_ 3155 137), (ag_ [(u6_ 2), (u3_ 1), (u3_ 0), (u6_ 1), (u3_ 0), (ag_ [(i6_ 3), (i6_ 4), (i6_ 160), (u3_ 100)])]), (u6_ 3), (i6_ 1)]))),
  (co_ 3307 119 ((pt_ 3152 293))),
  (co_ 3308 167 (sn_)),
  (co_ 3309 295 ((ag_ [(ag_ [bf_, (u1_ 1)]), (pv_ 224 36048469110030593), bf_, (u6_ 0), bf_]))),
  (co_ 3310 295 ((ag_ [(ag_ [bf_, (u1_ 2)]), (pv_ 224 18657495387996673), bf_, (u6_ 0), bf_]))),
  (co_ 3311 295 ((ag_ [(ag_ [bt_, (u1_ 2)]), (pv_ 224 43964124572418562), bf_, (u6_ 0), bf_]))),
  (co_ 3312 295 ((ag_ [(ag_ [bt_, (u1_ 3)]), (pv_ 224 30163044352918274), bf_, (u6_ 0), bf_]))),
  (co_ 3313 295 ((ag_ [(ag_ [bf_, (u1_ 0)]), (pv_ 224 33506406212567041), bf_, (u6_ 0), bf_]))),
  (co_ 3314 119 ((pt_ 3152 293))),
  (co_ 3315 167 (sn_)),
  (co_ 3316 295 ((ag_ [(ag_ [bf_, (u1_ 1)]), (pv_ 224 36048469110030593), bf_, (u6_ 0), bf_]))),
  (co_ 3317 295 ((ag_ [(ag_ [bf_, (u1_ 2)]), (pv_ 224 18657495387996673), bf_, (u6_ 0), bf_]))),
  (co_ 3318 295 ((ag_ [(ag_ [bt_, (u1_ 2)]), (pv_ 224 43964124572418562), bf_, (u6_ 0), bf_]))),
  (co_ 3319 295 ((ag_ [(ag_ [bt_, (u1_ 3)]), (pv_ 224 30163044352918274), bf_, (u6_ 0), bf_]))),
  (co_ 3320 295 ((ag_ [(ag_ [bf_, (u1_ 0)]), (pv_ 224 33506406212567041), bf_, (u6_ 0), bf_]))),
  (co_ 3321 53 ((ag_ [(u6_ 3), (u3_ 1), (u3_ 0), (u6_ 1), (u3_ 0), (ag_ [(i6_ 3), (i6_ 4), (i6_ 160), (u3_ 100)])]))),
  (co_ 3322 53 ((ag_ [(u6_ 3), (u3_ 1), (u3_ 0), (u6_ 1), (u3_ 0), (ag_ [(i6_ 3), (i6_ 4), (i6_ 160), (u3_ 100)])]))),
  (co_ 3323 53 ((ag_ [(u6_ 3), (u3_ 1), (u3_ 0), (u6_ 1), (u3_ 0), (ag_ [(i6_ 3), (i6_ 4), (i6_ 160), (u3_ 100)])]))),
  (co_ 3324 41 ((pv_ 256 5255725228611394611661528936055062793070912332559334718983349930537870459254624849807706388777952285393276815669193097412630244266646066275448294171905456257733760915397530568879945572525812879026555627012202855956817288660177483805087367397650742204868292648933529641020535701802172057179285766455114640304697823475681327834682298050280949627233572054028728956450425194340389735552215823549544841083419662274452132120932303818859635350152049427379206746385080854168025184085563094683808803782069364535884594052934512617463398527714519479075792085882359164120590508484512876609048489427206671589750))),
  (co_ 3325 53 ((ag_ [(u6_ 3), (u3_ 1), (u3_ 0), (u6_ 1), (u3_ 0), (ag_ [(i6_ 3), (i6_ 4), (i6_ 160), (u3_ 100)])]))),
  (co_ 3326 51 ((ag_ [(i6_ 3), (i6_ 4), (i6_ 160), (u3_ 100)]))),
  (co_ 3327 53 ((ag_ [(u6_ 3), (u3_ 1), (u3_ 0), (u6_ 1), (u3_ 0), (ag_ [(i6_ 3), (i6_ 4), (i6_ 160), (u3_ 100)])]))),
  (co_ 3328 111 ((pv_ 224 10853351066049871030463277181059613873000272826100529432209632616799479574622399786971115289478066120492021418451318))),
  (co_ 3329 41 ((pv_ 256 5255725228611394611661528936055062793070912332559334718983349930537870459254624849807706388777952285393276815669193097412630244266646066275448294171905456257733760915397530568879945572525812879026555627012202855956817288660177483805087367397650742204868292648933529641020535701802172057179285766455114640304697823475681327834682298050280949627233572054028728956450425194340389735552215823549544841083419662274452132120932303818859635350152049427379206746385080854168025184085563094683808803782069364535884594052934512617463398527714519479075792085882359164120590508484512876609048489427206671589750)))] Stt361)
noncomputable def Stt363 : T8 AO := cleanT (updAll [(2, some (.mp 151 152 StL330)),
  (co_ 3 149 ((ag_ [(i6_ 169), (.map (some 1)), (.map (some 2)), (sl_ 3342 155 4), (.map none), (i6_ 0), (i6_ 186), bf_]))),
  (cr_ 3342 155 (([(ag_ [(k2_ 0 0), (pv_ 64 2180516172886820671658824774730063474091387359243013794717470870368018393772403402595372631715913096469258680108276599921095826304295286)]), (ag_ [(k2_ 0 1), (pv_ 64 2180516172886820671647971423664013603060924082061954180844470597541917864340193769978573152141290696682287564818798533800603804885843968)]), (ag_ [(k2_ 0 2), (pv_ 64 2180516172886820671647971423664013603060924082061954180844470597541917864340193769978573152141290696682287564818798533800603804885843968)]), (ag_ [(k2_ 0 3), (pv_ 64 2180516172886820671647971423664013603060924082061954180844470597541917864340193769978573152141290696682287564818798533800603804885843968)])])))] Stt362)
noncomputable def Stt364 : T8 AO := cleanT (updAll [(1, some (.mp 151 152 StL330)),
  (co_ 3 149 ((ag_ [(i6_ 169), (.map (some 1)), (.map (some 2)), sn_, (.map none), (i6_ 0), (i6_ 187), bf_])))] Stt363)
noncomputable def Stt365 : T8 AO := cleanT (updAll [(co_ 3138 161 ((ag_ [(pt_ 3155 137), (ag_ [(u6_ 2), (u3_ 1), (u3_ 0), (u6_ 1), (u3_ 0), (ag_ [(i6_ 3), (i6_ 4), (i6_ 160), (u3_ 100)])]), (u6_ 3), (i6_ 1)]))),
  (co_ 3307 119 ((pt_ 3152 293))),
  (co_ 3308 167 (sn_)),
  (co_ 3309 295 ((ag_ [(ag_ [bf_, (u1_ 1)]), (pv_ 224 36048469110030593), bf_, (u6_ 0), bf_]))),
  (co_ 3310 295 ((ag_ [(ag_ [bf_, (u1_ 2)]), (pv_ 224 18657495387996673), bf_, (u6_ 0), bf_]))),
  (co_ 3311 295 ((ag_ [(ag_ [bt_, (u1_ 2)]), (pv_ 224 43964124572418562), bf_, (u6_ 0), bf_]))),
  (co_ 3312 295 ((ag_ [(ag_ [bt_, (u1_ 3)]), (pv_ 224 30163044352918274), bf_, (u6_ 0), bf_]))),
  (co_ 3313 295 ((ag_ [(ag_ [bf_, (u1_ 0)]), (pv_ 224 33506406212567041), bf_, (u6_ 0), bf_]))),
  (co_ 3314 119 ((pt_ 3152 293))),
  (co_ 3315 167 (sn_)),
  (co_ 3316 295 ((ag_ [(ag_ [bf_, (u1_ 1)]), (pv_ 224 36048469110030593), bf_, (u6_ 0), bf_]))),
  (co_ 3317 295 ((ag_ [(ag_ [bf_, (u1_ 2)]), (pv_ 224 18657495387996673), bf_, (u6_ 0), bf_]))),
  (co_ 3318 295 ((ag_ [(ag_ [bt_, (u1_ 2)]), (pv_ 224 43964124572418562), bf_, (u6_ 0), bf_]))),
  (co_ 3319 295 ((ag_ [(ag_ [bt_, (u1_ 3)]), (pv_ 224 30163044352918274), bf_, (u6_ 0), bf_]))),
  (co_ 3320 295 ((ag_ [(ag_ [bf_, (u1_ 0)]), (pv_ 224 33506406212567041), bf_, (u6_ 0), bf_]))),
  (co_ 3321 53 ((ag_ [(u6_ 3), (u3_ 1), (u3_ 0), (u6_ 1), (u3_ 0), (ag_ [(i6_ 3), (i6_ 4), (i6_ 160), (u3_ 100)])])))] Stt361)
noncomputable def Stt366 : T8 AO := cleanT (updAll [(3322, none),
  (3323, none),
  (3324, none),
  (3325, none),
  (3326, none),
  (3327, none),
  (3328, none),
  (3329, none),
  (3342, none)] Stt364)
noncomputable def Stt367 : T8 AO := cleanT (updAll [(co_ 3307 119 ((pt_ 3152 293))),
  (co_ 3308 167 (sn_)),
  (co_ 3309 295 ((ag_ [(ag_ [bf_, (u1_ 1)]), (pv_ 224 36048469110030593), bf_, (u6_ 0), bf_]))),
  (co_ 3310 295 ((ag_ [(ag_ [bf_, (u1_ 2)]), (pv_ 224 18657495387996673), bf_, (u6_ 0), bf_]))),
  (co_ 3311 295 ((ag_ [(ag_ [bt_, (u1_ 2)]), (pv_ 224 43964124572418562), bf_, (u6_ 0), bf_]))),
  (co_ 3312 295 ((ag_ [(ag_ [bt_, (u1_ 3)]), (pv_ 224 30163044352918274), bf_, (u6_ 0), bf_]))),
  (co_ 3313 295 ((ag_ [(ag_ [bf_, (u1_ 0)]), (pv_ 224 33506406212567041), bf_, (u6_ 0), bf_])))] Stt361)
noncomputable def Stt368 : T8 AO := cleanT (updAll [(co_ 3138 161 ((ag_ [(pt_ 3155 137), (ag_ [(u6_ 3), (u3_ 1), (u3_ 0), (u6_ 1), (u3_ 0), (ag_ [(i6_ 3), (i6_ 4), (i6_ 160), (u3_ 100)])]), (u6_ 3), (i6_ 0)]))),
  (3314, none),
  (3315, none),
  (3316, none),
  (3317, none),
  (3318, none),
  (3319, none),
  (3320, none),
  (3321, none)] Stt366)
noncomputable def Stt369 : T8 AO := cleanT (updAll [(3109, none),
  (3110, none),
  (3111, none),
  (3112, none),
  (3139, none),
  (3145, none),
  (3307, none),
  (3308, none),
  (3309, none),
  (3310, none),
  (3311, none),
  (3312, none),
  (3313, none)] Stt368)
noncomputable def Stt370 : T8 AO := cleanT (updAll [(3349, some (.mp 49 31 [])),
  (co_ 3350 327 ((ag_ [(u3_ 0), (u3_ 100), (u6_ 0), (.map (some 3349))]))),
  (co_ 3351 329 ((ag_ [sn_]))),
  (3352, some (.mp 49 313 [])),
  (3353, some (.mp 49 4 [])),
  (co_ 3354 189 ((ag_ [(pt_ 3138 161), (pt_ 3350 327), (pt_ 3351 329), (.map (some 3352)), (.map (some 3353)), (ag_ [pn_, pn_, pn_, pn_, pn_, pn_, pn_, pn_, pn_, pn_]), bf_])))] Stt369)
noncomputable def Stt371 : T8 AO := cleanT (updAll [(co_ 3355 57 ((ag_ [(u8_ 0), (u6_ 0), (u1_ 0), (i6_ 0), s0_]))),
  (co_ 3356 60 ((ag_ [(i6_ 0), (u6_ 0), (u3_ 0), p0_])))] Stt370)
noncomputable def Stt372 : T8 AO := cleanT (updAll [(co_ 3354 189 ((ag_ [(pt_ 3138 161), (pt_ 3350 327), (pt_ 3351 329), (.map (some 3352)), (.map (some 3353)), (ag_ [(pt_ 3358 197), pn_, pn_, pn_, pn_, pn_, pn_, pn_, pn_, pn_]), bf_]))),
  (co_ 3358 197 ((ag_ [(ag_ [(u8_ 0), (u6_ 0), (u1_ 0), (i6_ 0), s0_]), (i6_ 0), (i6_ 0), (u3_ 0), (ag_ [(u6_ 0), (u3_ 0), (ag_ [(u1_ 0), (u8_ 0)]), p0_]), sn_, (i6_ 0), (i6_ 0), sn_, sn_])))] Stt371)
noncomputable def Stt373 : T8 AO := cleanT (updAll [(3349, some (.mp 49 31 [((u6_ 1), (u3_ 0))])),
  (co_ 3350 327 ((ag_ [(u3_ 0), (u3_ 100), (u6_ 1), (.map (some 3349))]))),
  (3352, some (.mp 49 313 [((u6_ 1), (pt_ 3363 397))])),
  (co_ 3358 197 ((ag_ [(ag_ [(u8_ 0), (u6_ 0), (u1_ 0), (i6_ 0), s0_]), (i6_ 0), (i6_ 0), (u3_ 0), (ag_ [(u6_ 0), (u3_ 0), (ag_ [(u1_ 0), (u8_ 0)]), p0_]), sn_, (i6_ 0), (i6_ 0), sn_, sn_]))),
  (3362, some (.mp 22 399 [])),
  (co_ 3363 397 ((ag_ [(.map (some 3362))])))] Stt371)
noncomputable def Stt374 : T8 AO := cleanT (updAll [(co_ 3356 60 ((ag_ [(i6_ 0), (u6_ 1), (u3_ 0), p0_]))),
  (co_ 3366 60 ((ag_ [(i6_ 0), (u6_ 1), (u3_ 0), p0_]))),
  (co_ 3367 60 ((ag_ [(i6_ 0), (u6_ 1), (u3_ 0), p0_]))),
  (co_ 3368 57 ((ag_ [(u8_ 2), (u6_ 1), (u1_ 2), (i6_ 0), (.str (pkS 2 26984))]))),
  (co_ 3369 60 ((ag_ [(i6_ 0), (u6_ 0), (u3_ 0), p0_])))] Stt373)
noncomputable def Stt375 : T8 AO := cleanT (updAll [(3353, some (.mp 49 4 [((u6_ 1), bt_)])),
  (co_ 3354 189 ((ag_ [(pt_ 3138 161), (pt_ 3350 327), (pt_ 3351 329), (.map (some 3352)), (.map (some 3353)), (ag_ [(pt_ 3371 197), pn_, pn_, pn_, pn_, pn_, pn_, pn_, pn_, pn_]), bf_]))),
  (co_ 3371 197 ((ag_ [(ag_ [(u8_ 2), (u6_ 1), (u1_ 2), (i6_ 0), (.str (pkS 2 26984))]), (i6_ 0), (i6_ 0), (u3_ 0), (ag_ [(u6_ 0), (u3_ 0), (ag_ [(u1_ 0), (u8_ 0)]), p0_]), sn_, (i6_ 0), (i6_ 0), sn_, sn_])))] Stt374)
noncomputable def Stt376 : T8 AO := cleanT (updAll [(co_ 3372 60 ((ag_ [(i6_ 0), (u6_ 0), (u3_ 0), p0_]))),
  (co_ 3373 192 ((ag_ [(.fn (.func 89) [(pt_ 3354 189)] []), (.fn (.func 90) [(pt_ 3354 189)] []), (.fn (.func 90) [(pt_ 3354 189)] []), (.fn (.func 91) [(pt_ 3354 189)] []), (.fn (.func 92) [(pt_ 3354 189)] []), (.fn (.func 93) [(pt_ 3354 189)] []), (.fn (.func 94) [(pt_ 3354 189)] []), (.fn (.func 94) [(pt_ 3354 189)] [])]))),
  (co_ 3374 60 ((ag_ [(i6_ 0), (u6_ 0), (u3_ 0), p0_]))),
  (co_ 3375 33 (p0_)),
  (co_ 3376 399 ((ag_ [p0_, p0_]))),
  (co_ 3377 33 (p0_)),
  (co_ 3378 116 ((ag_ [(u6_ 0), (u3_ 0), (ag_ [(u1_ 0), (u8_ 0)]), p0_])))] Stt375)
noncomputable def Stt377 : T8 AO := cleanT (updAll [] Stt376)
noncomputable def Stt378 : T8 AO := cleanT (updAll [(3362, some (.mp 22 399 [((u1_ 2), (ag_ [p0_, (pv_ 64 26984)]))])),
  (co_ 3371 197 ((ag_ [(ag_ [(u8_ 2), (u6_ 1), (u1_ 2), (i6_ 0), (.str (pkS 2 26984))]), (i6_ 0), (i6_ 0), (u3_ 0), (ag_ [(u6_ 0), (u3_ 0), (ag_ [(u1_ 0), (u8_ 0)]), p0_]), sn_, (i6_ 0), (i6_ 0), sn_, sn_])))] Stt374)
noncomputable def Stt379 : T8 AO := cleanT (updAll [(co_ 3394 60 ((ag_ [(i6_ 0), (u6_ 0), (u3_ 0), p0_]))),
  (co_ 3395 60 ((ag_ [(i6_ 0), (u6_ 0), (u3_ 0), p0_]))),
  (co_ 3396 57 ((ag_ [(u8_ 3), (u6_ 1), (u1_ 0), (i6_ 0), s0_]))),
  (co_ 3397 60 ((ag_ [(i6_ 0), (u6_ 0), (u3_ 0), p0_])))] Stt378)
noncomputable def Stt380 : T8 AO := cleanT (updAll [(3353, some (.mp 49 4 [((u6_ 1), bt_)])),
  (co_ 3354 189 ((ag_ [(pt_ 3138 161), (pt_ 3350 327), (pt_ 3351 329), (.map (some 3352)), (.map (some 3353)), (ag_ [(pt_ 3399 197), pn_, pn_, pn_, pn_, pn_, pn_, pn_, pn_, pn_]), bf_]))),
  (co_ 3399 197 ((ag_ [(ag_ [(u8_ 3), (u6_ 1), (u1_ 0), (i6_ 0), s0_]), (i6_ 0), (i6_ 0), (u3_ 0), (ag_ [(u6_ 0), (u3_ 0), (ag_ [(u1_ 0), (u8_ 0)]), p0_]), sn_, (i6_ 0), (i6_ 0), sn_, sn_])))] Stt379)
noncomputable def Stt381 : T8 AO := cleanT (updAll [(co_ 3351 329 ((ag_ [(sl_ 3408 3 1)]))),
  (co_ 3399 197 ((ag_ [(ag_ [(u8_ 3), (u6_ 1), (u1_ 0), (i6_ 0), s0_]), (i6_ 0), (i6_ 1), (u3_ 0), (ag_ [(u6_ 0), (u3_ 0), (ag_ [(u1_ 0), (u8_ 0)]), p0_]), (sl_ 3406 22 1), (i6_ 0), (i6_ 0), sn_, sn_]))),
  (cr_ 3406 22 (([(u1_ 2)]))),
  (cr_ 3408 3 (([(i6_ 0)])))] Stt380)
noncomputable def Stt382 : T8 AO := cleanT (updAll [(co_ 3409 60 ((ag_ [(i6_ 0), (u6_ 0), (u3_ 0), p0_])))] Stt381)
noncomputable def Stt383 : T8 AO := cleanT (updAll [(co_ 3399 197 ((ag_ [(ag_ [(u8_ 3), (u6_ 1), (u1_ 0), (i6_ 0), s0_]), (i6_ 0), (i6_ 2), (u3_ 0), (ag_ [(u6_ 0), (u3_ 0), (ag_ [(u1_ 0), (u8_ 0)]), p0_]), (sl_ 3406 22 1), (i6_ 0), (i6_ 0), sn_, sn_])))] Stt382)
noncomputable def Stt384 : T8 AO := cleanT (updAll [(cr_ 3149 3 (([(i6_ 0), (i6_ 1), (i6_ 0), (i6_ 0), (i6_ 0)]))),
  (co_ 3399 197 ((ag_ [(ag_ [(u8_ 3), (u6_ 1), (u1_ 0), (i6_ 0), s0_]), (i6_ 0), (i6_ 2), (u3_ 0), (ag_ [(u6_ 0), (u3_ 0), (ag_ [(u1_ 0), (u8_ 0)]), p0_]), (sl_ 3406 22 1), (i6_ 1), (i6_ 0), sn_, sn_]))),
  (co_ 3413 60 ((ag_ [(i6_ 0), (u6_ 0), (u3_ 0), p0_]))),
  (co_ 3414 60 ((ag_ [(i6_ 0), (u6_ 0), (u3_ 0), p0_]))),
  (co_ 3415 192 ((ag_ [(.fn (.func 89) [(pt_ 3354 189)] []), (.fn (.func 90) [(pt_ 3354 189)] []), (.fn (.func 90) [(pt_ 3354 189)] []), (.fn (.func 91) [(pt_ 3354 189)] []), (.fn (.func 92) [(pt_ 3354 189)] []), (.fn (.func 93) [(pt_ 3354 189)] []), (.fn (.func 94) [(pt_ 3354 189)] []), (.fn (.func 94) [(pt_ 3354 189)] [])]))),
  (co_ 3416 60 ((ag_ [(i6_ 0), (u6_ 0), (u3_ 0), p0_]))),
  (co_ 3417 108 ((ag_ [bf_, (u1_ 2)]))),
  (co_ 3418 111 ((pv_ 224 18657495387996673))),
  (co_ 3419 108 ((ag_ [bf_, (u1_ 2)]))),
  (co_ 3420 108 ((ag_ [bf_, (u1_ 2)]))),
  (co_ 3421 111 ((pv_ 224 18657495387996673)))] Stt382)
noncomputable def Stt385 : T8 AO := cleanT (updAll [] Stt384)
noncomputable def Stt386 : T8 AO := cleanT (updAll [(co_ 3413 60 ((ag_ [(i6_ 0), (u6_ 0), (u3_ 0), p0_])))] Stt383)
noncomputable def Stt387 : T8 AO := cleanT (updAll [(cr_ 3149 3 (([(i6_ 0), (i6_ 1), (i6_ 0), (i6_ 0), (i6_ 0)]))),
  (co_ 3399 197 ((ag_ [(ag_ [(u8_ 3), (u6_ 1), (u1_ 0), (i6_ 0), s0_]), (i6_ 0), (i6_ 3), (u3_ 0), (ag_ [(u6_ 0), (u3_ 0), (ag_ [(u1_ 0), (u8_ 0)]), p0_]), (sl_ 3406 22 1), (i6_ 1), (i6_ 0), sn_, sn_])))] Stt386)
noncomputable def Stt388 : T8 AO := cleanT (updAll [(co_ 3432 60 ((ag_ [(i6_ 0), (u6_ 0), (u3_ 0), p0_]))),
  (co_ 3433 60 ((ag_ [(i6_ 0), (u6_ 0), (u3_ 0), p0_]))),
  (co_ 3434 192 ((ag_ [(.fn (.func 89) [(pt_ 3354 189)] []), (.fn (.func 90) [(pt_ 3354 189)] []), (.fn (.func 90) [(pt_ 3354 189)] []), (.fn (.func 91) [(pt_ 3354 189)] []), (.fn (.func 92) [(pt_ 3354 189)] []), (.fn (.func 93) [(pt_ 3354 189)] []), (.fn (.func 94) [(pt_ 3354 189)] []), (.fn (.func 94) [(pt_ 3354 189)] [])]))),
  (co_ 3435 60 ((ag_ [(i6_ 0), (u6_ 0), (u3_ 0), p0_]))),
  (co_ 3436 33 ((pv_ 64 26984))),
  (co_ 3437 399 ((ag_ [p0_, (pv_ 64 26984)]))),
  (co_ 3438 33 ((pv_ 64 26984))),
  (co_ 3439 33 ((pv_ 64 26984)))] Stt387)
noncomputable def Stt389 : T8 AO := cleanT (updAll [] Stt388)
noncomputable def Stt390 : T8 AO := cleanT (updAll [(co_ 3432 60 ((ag_ [(i6_ 0), (u6_ 0), (u3_ 0), p0_])))] Stt387)
noncomputable def Stt391 : T8 AO := cleanT (updAll [(co_ 3 149 ((ag_ [(i6_ 169), (.map (some 1)), (.map (some 2)), sn_, (.map none), (i6_ 0), (i6_ 188), bf_]))),
  (co_ 3146 304 ((ag_ [(pt_ 3 149), (i6_ 9), (i6_ 160), (u3_ 1), sn_, sn_, (.str (pkS 75 1708534669661438665680381842414443175258939912830275088012422221056510533373799501724231417217403530503884761460658270876054839838742052797865716541439374526989985699579300119642146)), (u3_ 0), (u6_ 76), (u6_ 1), bt_]))),
  (cr_ 3148 4 (([bf_, bf_, bf_, bt_, bf_]))),
  (co_ 3150 415 ((ag_ [(i6_ 3), (sl_ 3147 4 5), (sl_ 3148 4 5), (sl_ 3149 3 5)]))),
  (3151, some (.mp 108 3 [((ag_ [bt_, (u1_ 3)]), (i6_ 3)), ((ag_ [bf_, (u1_ 0)]), (i6_ 4)), ((ag_ [bf_, (u1_ 1)]), (i6_ 0)), ((ag_ [bf_, (u1_ 2)]), (i6_ 1)), ((ag_ [bt_, (u1_ 0)]), (i6_ 2))])),
  (cr_ 3153 128 (([(ag_ [(u6_ 1), (sl_ 3542 123 1)]), (ag_ [(u6_ 0), sn_]), (ag_ [(u6_ 0), sn_]), (ag_ [(u6_ 0), sn_])]))),
  (cr_ 3271 295 (([(ag_ [(ag_ [bf_, (u1_ 1)]), (pv_ 224 36048469110030593), bf_, (u6_ 0), bf_]), (ag_ [(ag_ [bf_, (u1_ 2)]), (pv_ 224 2584553729676030550393505328809014497926715612437493580289), bt_, (u6_ 41), bf_]), (ag_ [(ag_ [bt_, (u1_ 0)]), (pv_ 224 53921538838858600795376185317788002156216488253530945946985059844098), bt_, (u6_ 1), bf_]), (ag_ [(ag_ [bt_, (u1_ 3)]), (pv_ 224 30163044352918274), bf_, (u6_ 0), bf_]), (ag_ [(ag_ [bf_, (u1_ 0)]), (pv_ 224 33506406212567041), bf_, (u6_ 0), bf_])]))),
  (co_ 3399 197 ((ag_ [(ag_ [(u8_ 3), (u6_ 1), (u1_ 0), (i6_ 0), s0_]), (i6_ 0), (i6_ 4), (u3_ 0), (ag_ [(u6_ 0), (u3_ 0), (ag_ [(u1_ 0), (u8_ 0)]), p0_]), (sl_ 3406 22 1), (i6_ 1), (i6_ 1), sn_, sn_]))),
  (cr_ 3542 123 (([(ag_ [bt_, (u1_ 2), (u3_ 0), (ag_ [(u1_ 0), (u8_ 0)]), (.str (pkS 4 512))])])))] Stt390)
noncomputable def Stt392 : T8 AO := cleanT (updAll [(co_ 3146 304 ((ag_ [(pt_ 3 149), (i6_ 9), (i6_ 160), (u3_ 1), sn_, (sl_ 3579 307 1), s0_, (u3_ 1), (u6_ 87), (u6_ 1), bt_]))),
  (co_ 3573 60 ((ag_ [(i6_ 0), (u6_ 0), (u3_ 0), p0_]))),
  (co_ 3574 60 ((ag_ [(i6_ 0), (u6_ 0), (u3_ 0), p0_]))),
  (co_ 3575 192 ((ag_ [(.fn (.func 89) [(pt_ 3354 189)] []), (.fn (.func 90) [(pt_ 3354 189)] []), (.fn (.func 90) [(pt_ 3354 189)] []), (.fn (.func 91) [(pt_ 3354 189)] []), (.fn (.func 92) [(pt_ 3354 189)] []), (.fn (.func 93) [(pt_ 3354 189)] []), (.fn (.func 94) [(pt_ 3354 189)] []), (.fn (.func 94) [(pt_ 3354 189)] [])]))),
  (co_ 3576 60 ((ag_ [(i6_ 0), (u6_ 0), (u3_ 0), p0_]))),
  (co_ 3577 307 ((ag_ [(u3_ 1), (u3_ 0), (u6_ 1), (.str (pkS 86 307115528875564774799922783833800171689154927714689078412951325591149789533102499900943722522880235677314820489780385998673085565656687657305683887638251439399575909519376422001915094458757432541218))]))),
  (cr_ 3578 307 (([(ag_ [(u3_ 1), (u3_ 0), (u6_ 1), (.str (pkS 86 307115528875564774799922783833800171689154927714689078412951325591149789533102499900943722522880235677314820489780385998673085565656687657305683887638251439399575909519376422001915094458757432541218))])]))),
  (cr_ 3579 307 (([(ag_ [(u3_ 1), (u3_ 0), (u6_ 1), (.str (pkS 86 307115528875564774799922783833800171689154927714689078412951325591149789533102499900943722522880235677314820489780385998673085565656687657305683887638251439399575909519376422001915094458757432541218))])]))),
  (co_ 3580 307 ((ag_ [(u3_ 1), (u3_ 0), (u6_ 1), (.str (pkS 86 307115528875564774799922783833800171689154927714689078412951325591149789533102499900943722522880235677314820489780385998673085565656687657305683887638251439399575909519376422001915094458757432541218))]))),
  (co_ 3581 41 ((pv_ 256 7524389324549354450012295667238056650488661292408472865850279440061341770661038088891003609523855490537527473858068236032063038821912119420032983735773778876975016735571805544166547194752787477078220244514061819750776347680951316832806627131882188333345416304842239695343273634546912415783358125187670410679826875663477451455938321558693747420263860975104311970800935000567295367974383057844879181122368881239977235223222078707496060827556224023801900967306379973912754891476899394845007984030582181670993715044948538385542224883338527392176139101599076603195550939242728810508754814389071382426143097356289)))] Stt391)
noncomputable def Stt393 : T8 AO := cleanT (updAll [(2, some (.mp 151 152 StL331)),
  (co_ 3 149 ((ag_ [(i6_ 169), (.map (some 1)), (.map (some 2)), (sl_ 3594 155 4), (.map none), (i6_ 0), (i6_ 189), bf_]))),
  (cr_ 3594 155 (([(ag_ [(k2_ 9 0), (pv_ 64 3121748550691542017179732009118156391725576645438467498085349918340208830021591583667541217211514783238965551803503845172601407262843294871191553)]), (ag_ [(k2_ 9 1), (pv_ 64 3121748550315992231381597229793166305748598142664971150859667774308260417874872107616978556278374973865245608522964974216213361119729013129084929)]), (ag_ [(k2_ 9 2), (pv_ 64 3121748550315992231381597229793166305748598142664971150859156959625371738819765620120306103063491971159826931121406622895447975679288285306290176)]), (ag_ [(k2_ 9 3), (pv_ 64 3121748550315992231381597229793166305748598142664971150859156959625371738819765620120306103063491971159826931121406622895447975679288285306290176)])])))] Stt392)
noncomputable def Stt394 : T8 AO := cleanT (updAll [(1, some (.mp 151 152 StL331)),
  (co_ 3 149 ((ag_ [(i6_ 169), (.map (some 1)), (.map (some 2)), sn_, (.map none), (i6_ 0), (i6_ 190), bf_])))] Stt393)
noncomputable def Stt395 : T8 AO := cleanT (updAll [(co_ 3573 60 ((ag_ [(i6_ 0), (u6_ 0), (u3_ 0), p0_])))] Stt391)
noncomputable def Stt396 : T8 AO := cleanT (updAll [(co_ 3146 304 ((ag_ [(pt_ 3 149), (i6_ 9), (i6_ 160), (u3_ 1), (sl_ 3601 309 1), sn_, s0_, (u3_ 1), (u6_ 87), (u6_ 87), bf_]))),
  (cr_ 3149 3 (([(i6_ 0), (i6_ 0), (i6_ 0), (i6_ 0), (i6_ 0)]))),
  (3349, some (.mp 49 31 [])),
  (co_ 3350 327 ((ag_ [(u3_ 1), (u3_ 100), (u6_ 1), (.map (some 3349))]))),
  (co_ 3351 329 ((ag_ [sn_]))),
  (3352, some (.mp 49 313 [])),
  (3353, some (.mp 49 4 [])),
  (co_ 3354 189 ((ag_ [(pt_ 3138 161), (pt_ 3350 327), (pt_ 3351 329), (.map (some 3352)), (.map (some 3353)), (ag_ [pn_, pn_, pn_, pn_, pn_, pn_, pn_, pn_, pn_, pn_]), bf_]))),
  (co_ 3399 197 ((ag_ [(ag_ [(u8_ 3), (u6_ 1), (u1_ 0), (i6_ 0), s0_]), (i6_ 0), (i6_ 4), (u3_ 0), (ag_ [(u6_ 0), (u3_ 0), (ag_ [(u1_ 0), (u8_ 0)]), p0_]), (sl_ 3406 22 1), (i6_ 0), (i6_ 1), sn_, sn_]))),
  (3574, none),
  (3575, none),
  (3576, none),
  (3577, none),
  (3578, none),
  (3579, none),
  (3580, none),
  (3581, none),
  (3594, none),
  (cr_ 3601 309 (([(ag_ [(u3_ 0), (u6_ 1)])])))] Stt394)
noncomputable def Stt397 : T8 AO := cleanT (updAll [(co_ 3397 60 ((ag_ [(i6_ 0), (u6_ 0), (u3_ 1), p0_]))),
  (co_ 3606 60 ((ag_ [(i6_ 0), (u6_ 0), (u3_ 1), p0_]))),
  (co_ 3607 60 ((ag_ [(i6_ 0), (u6_ 0), (u3_ 1), p0_]))),
  (co_ 3608 57 ((ag_ [(u8_ 0), (u6_ 0), (u1_ 0), (i6_ 0), s0_]))),
  (co_ 3609 60 ((ag_ [(i6_ 0), (u6_ 0), (u3_ 0), p0_])))] Stt396)
noncomputable def Stt398 : T8 AO := cleanT (updAll [(co_ 3354 189 ((ag_ [(pt_ 3138 161), (pt_ 3350 327), (pt_ 3351 329), (.map (some 3352)), (.map (some 3353)), (ag_ [(pt_ 3611 197), pn_, pn_, pn_, pn_, pn_, pn_, pn_, pn_, pn_]), bf_]))),
  (co_ 3611 197 ((ag_ [(ag_ [(u8_ 0), (u6_ 0), (u1_ 0), (i6_ 0), s0_]), (i6_ 0), (i6_ 0), (u3_ 0), (ag_ [(u6_ 0), (u3_ 0), (ag_ [(u1_ 0), (u8_ 0)]), p0_]), sn_, (i6_ 0), (i6_ 0), sn_, sn_])))] Stt397)
noncomputable def Stt399 : T8 AO := cleanT (updAll [(3349, some (.mp 49 31 [((u6_ 2), (u3_ 1))])),
  (co_ 3350 327 ((ag_ [(u3_ 1), (u3_ 100), (u6_ 2), (.map (some 3349))]))),
  (3352, some (.mp 49 313 [((u6_ 2), (pt_ 3616 397))])),
  (co_ 3611 197 ((ag_ [(ag_ [(u8_ 0), (u6_ 0), (u1_ 0), (i6_ 0), s0_]), (i6_ 0), (i6_ 0), (u3_ 0), (ag_ [(u6_ 0), (u3_ 0), (ag_ [(u1_ 0), (u8_ 0)]), p0_]), sn_, (i6_ 0), (i6_ 0), sn_, sn_]))),
  (3615, some (.mp 22 399 [])),
  (co_ 3616 397 ((ag_ [(.map (some 3615))])))] Stt397)
noncomputable def Stt400 : T8 AO := cleanT (updAll [(co_ 3609 60 ((ag_ [(i6_ 0), (u6_ 2), (u3_ 1), p0_]))),
  (co_ 3619 60 ((ag_ [(i6_ 0), (u6_ 2), (u3_ 1), p0_]))),
  (co_ 3620 57 ((ag_ [(u8_ 1), (u6_ 2), (u1_ 2), (i6_ 0), s0_]))),
  (co_ 3621 60 ((ag_ [(i6_ 0), (u6_ 0), (u3_ 0), p0_])))] Stt399)
noncomputable def Stt401 : T8 AO := cleanT (updAll [(3353, some (.mp 49 4 [((u6_ 2), bt_)])),
  (co_ 3354 189 ((ag_ [(pt_ 3138 161), (pt_ 3350 327), (pt_ 3351 329), (.map (some 3352)), (.map (some 3353)), (ag_ [(pt_ 3623 197), pn_, pn_, pn_, pn_, pn_, pn_, pn_, pn_, pn_]), bf_]))),
  (co_ 3623 197 ((ag_ [(ag_ [(u8_ 1), (u6_ 2), (u1_ 2), (i6_ 0), s0_]), (i6_ 0), (i6_ 0), (u3_ 1), (ag_ [(u6_ 0), (u3_ 0), (ag_ [(u1_ 0), (u8_ 0)]), p0_]), sn_, (i6_ 0), (i6_ 0), sn_, sn_])))] Stt400)
noncomputable def Stt402 : T8 AO := cleanT (updAll [(co_ 3624 60 ((ag_ [(i6_ 0), (u6_ 0), (u3_ 0), p0_]))),
  (co_ 3625 192 ((ag_ [(.fn (.func 89) [(pt_ 3354 189)] []), (.fn (.func 90) [(pt_ 3354 189)] []), (.fn (.func 90) [(pt_ 3354 189)] []), (.fn (.func 91) [(pt_ 3354 189)] []), (.fn (.func 92) [(pt_ 3354 189)] []), (.fn (.func 93) [(pt_ 3354 189)] []), (.fn (.func 94) [(pt_ 3354 189)] []), (.fn (.func 94) [(pt_ 3354 189)] [])]))),
  (co_ 3626 60 ((ag_ [(i6_ 0), (u6_ 0), (u3_ 0), p0_]))),
  (co_ 3627 33 (p0_)),
  (co_ 3628 399 ((ag_ [p0_, p0_]))),
  (co_ 3629 33 (p0_)),
  (co_ 3630 116 ((ag_ [(u6_ 0), (u3_ 0), (ag_ [(u1_ 0), (u8_ 0)]), p0_])))] Stt401)
noncomputable def Stt403 : T8 AO := cleanT (updAll [] Stt402)
noncomputable def Stt404 : T8 AO := cleanT (updAll [(co_ 3623 197 ((ag_ [(ag_ [(u8_ 1), (u6_ 2), (u1_ 2), (i6_ 0), s0_]), (i6_ 0), (i6_ 0), (u3_ 1), (ag_ [(u6_ 0), (u3_ 0), (ag_ [(u1_ 0), (u8_ 0)]), p0_]), sn_, (i6_ 0), (i6_ 0), sn_, sn_])))] Stt400)
noncomputable def Stt405 : T8 AO := cleanT (updAll [] .nil)
noncomputable def Stt406 : T8 AO := cleanT (updAll [] .nil)
noncomputable def Stm0 : Memo := ⟨20, [(pt_ 3 149), (i6_ 0), (pv_ 256 0)], ⟨9, 9, Stt0⟩, (i6_ 0), ⟨2, 22, Stt1⟩⟩
noncomputable def Stm1 : Memo := ⟨20, [(pt_ 3 149), (i6_ 1), (pv_ 256 0)], ⟨23, 23, Stt2⟩, (i6_ 0), ⟨2, 36, Stt3⟩⟩
noncomputable def Stm2 : Memo := ⟨20, [(pt_ 3 149), (i6_ 2), (pv_ 256 33506406212567041)], ⟨37, 37, Stt4⟩, (i6_ 0), ⟨2, 50, Stt5⟩⟩
noncomputable def Stm3 : Memo := ⟨20, [(pt_ 3 149), (i6_ 3), (pv_ 256 36048469110030593)], ⟨51, 51, Stt6⟩, (i6_ 0), ⟨2, 64, Stt7⟩⟩
noncomputable def Stm4 : Memo := ⟨20, [(pt_ 3 149), (i6_ 4), (pv_ 256 18657495387996673)], ⟨65, 65, Stt8⟩, (i6_ 0), ⟨2, 78, Stt9⟩⟩
noncomputable def Stm5 : Memo := ⟨20, [(pt_ 3 149), (i6_ 5), (pv_ 256 47692561942315010)], ⟨79, 79, Stt10⟩, (i6_ 0), ⟨2, 92, Stt11⟩⟩
noncomputable def Stm6 : Memo := ⟨20, [(pt_ 3 149), (i6_ 6), (pv_ 256 26573149508206850)], ⟨93, 93, Stt12⟩, (i6_ 0), ⟨2, 106, Stt13⟩⟩
noncomputable def Stm7 : Memo := ⟨20, [(pt_ 3 149), (i6_ 7), (pv_ 256 43964124572418562)], ⟨107, 107, Stt14⟩, (i6_ 0), ⟨2, 120, Stt15⟩⟩
noncomputable def Stm8 : Memo := ⟨20, [(pt_ 3 149), (i6_ 8), (pv_ 256 30163044352918274)], ⟨121, 121, Stt16⟩, (i6_ 0), ⟨2, 134, Stt17⟩⟩
noncomputable def Stm9 : Memo := ⟨20, [(pt_ 3 149), (i6_ 9), (pv_ 256 0)], ⟨135, 135, Stt18⟩, (i6_ 0), ⟨2, 148, Stt19⟩⟩
noncomputable def Stm10 : Memo := ⟨20, [(pt_ 3 149), (i6_ 10), (pv_ 256 0)], ⟨149, 149, Stt20⟩, (i6_ 0), ⟨2, 162, Stt21⟩⟩
noncomputable def Stm11 : Memo := ⟨20, [(pt_ 3 149), (i6_ 11), (pv_ 256 0)], ⟨163, 163, Stt22⟩, (i6_ 0), ⟨2, 176, Stt23⟩⟩
noncomputable def Stm12 : Memo := ⟨20, [(pt_ 3 149), (i6_ 12), (pv_ 256 0)], ⟨177, 177, Stt24⟩, (i6_ 0), ⟨2, 190, Stt25⟩⟩
noncomputable def Stm13 : Memo := ⟨20, [(pt_ 3 149), (i6_ 13), (pv_ 256 0)], ⟨191, 191, Stt26⟩, (i6_ 0), ⟨2, 204, Stt27⟩⟩
noncomputable def Stm14 : Memo := ⟨20, [(pt_ 3 149), (i6_ 14), (pv_ 256 0)], ⟨205, 205, Stt28⟩, (i6_ 0), ⟨2, 218, Stt29⟩⟩
noncomputable def Stm15 : Memo := ⟨20, [(pt_ 3 149), (i6_ 15), (pv_ 256 0)], ⟨219, 219, Stt30⟩, (i6_ 0), ⟨2, 232, Stt31⟩⟩
noncomputable def Stm16 : Memo := ⟨20, [(pt_ 3 149), (i6_ 16), (pv_ 256 0)], ⟨233, 233, Stt32⟩, (i6_ 0), ⟨2, 246, Stt33⟩⟩
noncomputable def Stm17 : Memo := ⟨20, [(pt_ 3 149), (i6_ 17), (pv_ 256 0)], ⟨247, 247, Stt34⟩, (i6_ 0), ⟨2, 260, Stt35⟩⟩
noncomputable def Stm18 : Memo := ⟨20, [(pt_ 3 149), (i6_ 18), (pv_ 256 0)], ⟨261, 261, Stt36⟩, (i6_ 0), ⟨2, 274, Stt37⟩⟩
noncomputable def Stm19 : Memo := ⟨20, [(pt_ 3 149), (i6_ 19), (pv_ 256 0)], ⟨275, 275, Stt38⟩, (i6_ 0), ⟨2, 288, Stt39⟩⟩
noncomputable def Stm20 : Memo := ⟨20, [(pt_ 3 149), (i6_ 20), (pv_ 256 0)], ⟨289, 289, Stt40⟩, (i6_ 0), ⟨2, 302, Stt41⟩⟩
noncomputable def Stm21 : Memo := ⟨20, [(pt_ 3 149), (i6_ 21), (pv_ 256 0)], ⟨303, 303, Stt42⟩, (i6_ 0), ⟨2, 316, Stt43⟩⟩
noncomputable def Stm22 : Memo := ⟨20, [(pt_ 3 149), (i6_ 22), (pv_ 256 0)], ⟨317, 317, Stt44⟩, (i6_ 0), ⟨2, 330, Stt45⟩⟩
noncomputable def Stm23 : Memo := ⟨20, [(pt_ 3 149), (i6_ 23), (pv_ 256 0)], ⟨331, 331, Stt46⟩, (i6_ 0), ⟨2, 344, Stt47⟩⟩
noncomputable def Stm24 : Memo := ⟨20, [(pt_ 3 149), (i6_ 24), (pv_ 256 0)], ⟨345, 345, Stt48⟩, (i6_ 0), ⟨2, 358, Stt49⟩⟩
noncomputable def Stm25 : Memo := ⟨20, [(pt_ 3 149), (i6_ 25), (pv_ 256 0)], ⟨359, 359, Stt50⟩, (i6_ 0), ⟨2, 372, Stt51⟩⟩
noncomputable def Stm26 : Memo := ⟨20, [(pt_ 3 149), (i6_ 26), (pv_ 256 0)], ⟨373, 373, Stt52⟩, (i6_ 0), ⟨2, 386, Stt53⟩⟩
noncomputable def Stm27 : Memo := ⟨20, [(pt_ 3 149), (i6_ 27), (pv_ 256 0)], ⟨387, 387, Stt54⟩, (i6_ 0), ⟨2, 400, Stt55⟩⟩
noncomputable def Stm28 : Memo := ⟨20, [(pt_ 3 149), (i6_ 28), (pv_ 256 0)], ⟨401, 401, Stt56⟩, (i6_ 0), ⟨2, 414, Stt57⟩⟩
noncomputable def Stm29 : Memo := ⟨20, [(pt_ 3 149), (i6_ 29), (pv_ 256 0)], ⟨415, 415, Stt58⟩, (i6_ 0), ⟨2, 428, Stt59⟩⟩
noncomputable def Stm30 : Memo := ⟨20, [(pt_ 3 149), (i6_ 30), (pv_ 256 0)], ⟨429, 429, Stt60⟩, (i6_ 0), ⟨2, 442, Stt61⟩⟩
noncomputable def Stm31 : Memo := ⟨20, [(pt_ 3 149), (i6_ 31), (pv_ 256 0)], ⟨443, 443, Stt62⟩, (i6_ 0), ⟨2, 456, Stt63⟩⟩
noncomputable def Stm32 : Memo := ⟨20, [(pt_ 3 149), (i6_ 32), (pv_ 256 0)], ⟨457, 457, Stt64⟩, (i6_ 0), ⟨2, 470, Stt65⟩⟩
noncomputable def Stm33 : Memo := ⟨20, [(pt_ 3 149), (i6_ 33), (pv_ 256 0)], ⟨471, 471, Stt66⟩, (i6_ 0), ⟨2, 484, Stt67⟩⟩
noncomputable def Stm34 : Memo := ⟨20, [(pt_ 3 149), (i6_ 34), (pv_ 256 0)], ⟨485, 485, Stt68⟩, (i6_ 0), ⟨2, 498, Stt69⟩⟩
noncomputable def Stm35 : Memo := ⟨20, [(pt_ 3 149), (i6_ 35), (pv_ 256 0)], ⟨499, 499, Stt70⟩, (i6_ 0), ⟨2, 512, Stt71⟩⟩
noncomputable def Stm36 : Memo := ⟨20, [(pt_ 3 149), (i6_ 36), (pv_ 256 0)], ⟨513, 513, Stt72⟩, (i6_ 0), ⟨2, 526, Stt73⟩⟩
noncomputable def Stm37 : Memo := ⟨20, [(pt_ 3 149), (i6_ 37), (pv_ 256 0)], ⟨527, 527, Stt74⟩, (i6_ 0), ⟨2, 540, Stt75⟩⟩
noncomputable def Stm38 : Memo := ⟨20, [(pt_ 3 149), (i6_ 38), (pv_ 256 0)], ⟨541, 541, Stt76⟩, (i6_ 0), ⟨2, 554, Stt77⟩⟩
noncomputable def Stm39 : Memo := ⟨20, [(pt_ 3 149), (i6_ 39), (pv_ 256 0)], ⟨555, 555, Stt78⟩, (i6_ 0), ⟨2, 568, Stt79⟩⟩
noncomputable def Stm40 : Memo := ⟨20, [(pt_ 3 149), (i6_ 40), (pv_ 256 0)], ⟨569, 569, Stt80⟩, (i6_ 0), ⟨2, 582, Stt81⟩⟩
noncomputable def Stm41 : Memo := ⟨20, [(pt_ 3 149), (i6_ 41), (pv_ 256 0)], ⟨583, 583, Stt82⟩, (i6_ 0), ⟨2, 596, Stt83⟩⟩
noncomputable def Stm42 : Memo := ⟨20, [(pt_ 3 149), (i6_ 42), (pv_ 256 0)], ⟨597, 597, Stt84⟩, (i6_ 0), ⟨2, 610, Stt85⟩⟩
noncomputable def Stm43 : Memo := ⟨20, [(pt_ 3 149), (i6_ 43), (pv_ 256 0)], ⟨611, 611, Stt86⟩, (i6_ 0), ⟨2, 624, Stt87⟩⟩
noncomputable def Stm44 : Memo := ⟨20, [(pt_ 3 149), (i6_ 44), (pv_ 256 0)], ⟨625, 625, Stt88⟩, (i6_ 0), ⟨2, 638, Stt89⟩⟩
noncomputable def Stm45 : Memo := ⟨20, [(pt_ 3 149), (i6_ 45), (pv_ 256 0)], ⟨639, 639, Stt90⟩, (i6_ 0), ⟨2, 652, Stt91⟩⟩
noncomputable def Stm46 : Memo := ⟨20, [(pt_ 3 149), (i6_ 46), (pv_ 256 0)], ⟨653, 653, Stt92⟩, (i6_ 0), ⟨2, 666, Stt93⟩⟩
noncomputable def Stm47 : Memo := ⟨20, [(pt_ 3 149), (i6_ 47), (pv_ 256 0)], ⟨667, 667, Stt94⟩, (i6_ 0), ⟨2, 680, Stt95⟩⟩
noncomputable def Stm48 : Memo := ⟨20, [(pt_ 3 149), (i6_ 48), (pv_ 256 0)], ⟨681, 681, Stt96⟩, (i6_ 0), ⟨2, 694, Stt97⟩⟩
noncomputable def Stm49 : Memo := ⟨20, [(pt_ 3 149), (i6_ 49), (pv_ 256 0)], ⟨695, 695, Stt98⟩, (i6_ 0), ⟨2, 708, Stt99⟩⟩
noncomputable def Stm50 : Memo := ⟨20, [(pt_ 3 149), (i6_ 50), (pv_ 256 0)], ⟨709, 709, Stt100⟩, (i6_ 0), ⟨2, 722, Stt101⟩⟩
noncomputable def Stm51 : Memo := ⟨20, [(pt_ 3 149), (i6_ 51), (pv_ 256 0)], ⟨723, 723, Stt102⟩, (i6_ 0), ⟨2, 736, Stt103⟩⟩
noncomputable def Stm52 : Memo := ⟨20, [(pt_ 3 149), (i6_ 52), (pv_ 256 0)], ⟨737, 737, Stt104⟩, (i6_ 0), ⟨2, 750, Stt105⟩⟩
noncomputable def Stm53 : Memo := ⟨20, [(pt_ 3 149), (i6_ 53), (pv_ 256 0)], ⟨751, 751, Stt106⟩, (i6_ 0), ⟨2, 764, Stt107⟩⟩
noncomputable def Stm54 : Memo := ⟨20, [(pt_ 3 149), (i6_ 54), (pv_ 256 0)], ⟨765, 765, Stt108⟩, (i6_ 0), ⟨2, 778, Stt109⟩⟩
noncomputable def Stm55 : Memo := ⟨20, [(pt_ 3 149), (i6_ 55), (pv_ 256 0)], ⟨779, 779, Stt110⟩, (i6_ 0), ⟨2, 792, Stt111⟩⟩
noncomputable def Stm56 : Memo := ⟨20, [(pt_ 3 149), (i6_ 56), (pv_ 256 0)], ⟨793, 793, Stt112⟩, (i6_ 0), ⟨2, 806, Stt113⟩⟩
noncomputable def Stm57 : Memo := ⟨20, [(pt_ 3 149), (i6_ 57), (pv_ 256 0)], ⟨807, 807, Stt114⟩, (i6_ 0), ⟨2, 820, Stt115⟩⟩
noncomputable def Stm58 : Memo := ⟨20, [(pt_ 3 149), (i6_ 58), (pv_ 256 0)], ⟨821, 821, Stt116⟩, (i6_ 0), ⟨2, 834, Stt117⟩⟩
noncomputable def Stm59 : Memo := ⟨20, [(pt_ 3 149), (i6_ 59), (pv_ 256 0)], ⟨835, 835, Stt118⟩, (i6_ 0), ⟨2, 848, Stt119⟩⟩
noncomputable def Stm60 : Memo := ⟨20, [(pt_ 3 149), (i6_ 60), (pv_ 256 0)], ⟨849, 849, Stt120⟩, (i6_ 0), ⟨2, 862, Stt121⟩⟩
noncomputable def Stm61 : Memo := ⟨20, [(pt_ 3 149), (i6_ 61), (pv_ 256 0)], ⟨863, 863, Stt122⟩, (i6_ 0), ⟨2, 876, Stt123⟩⟩
noncomputable def Stm62 : Memo := ⟨20, [(pt_ 3 149), (i6_ 62), (pv_ 256 0)], ⟨877, 877, Stt124⟩, (i6_ 0), ⟨2, 890, Stt125⟩⟩
noncomputable def Stm63 : Memo := ⟨20, [(pt_ 3 149), (i6_ 63), (pv_ 256 0)], ⟨891, 891, Stt126⟩, (i6_ 0), ⟨2, 904, Stt127⟩⟩
noncomputable def Stm64 : Memo := ⟨20, [(pt_ 3 149), (i6_ 64), (pv_ 256 0)], ⟨905, 905, Stt128⟩, (i6_ 0), ⟨2, 918, Stt129⟩⟩
noncomputable def Stm65 : Memo := ⟨20, [(pt_ 3 149), (i6_ 65), (pv_ 256 0)], ⟨919, 919, Stt130⟩, (i6_ 0), ⟨2, 932, Stt131⟩⟩
noncomputable def Stm66 : Memo := ⟨20, [(pt_ 3 149), (i6_ 66), (pv_ 256 0)], ⟨933, 933, Stt132⟩, (i6_ 0), ⟨2, 946, Stt133⟩⟩
noncomputable def Stm67 : Memo := ⟨20, [(pt_ 3 149), (i6_ 67), (pv_ 256 0)], ⟨947, 947, Stt134⟩, (i6_ 0), ⟨2, 960, Stt135⟩⟩
noncomputable def Stm68 : Memo := ⟨20, [(pt_ 3 149), (i6_ 68), (pv_ 256 0)], ⟨961, 961, Stt136⟩, (i6_ 0), ⟨2, 974, Stt137⟩⟩
noncomputable def Stm69 : Memo := ⟨20, [(pt_ 3 149), (i6_ 69), (pv_ 256 0)], ⟨975, 975, Stt138⟩, (i6_ 0), ⟨2, 988, Stt139⟩⟩
noncomputable def Stm70 : Memo := ⟨20, [(pt_ 3 149), (i6_ 70), (pv_ 256 0)], ⟨989, 989, Stt140⟩, (i6_ 0), ⟨2, 1002, Stt141⟩⟩
noncomputable def Stm71 : Memo := ⟨20, [(pt_ 3 149), (i6_ 71), (pv_ 256 0)], ⟨1003, 1003, Stt142⟩, (i6_ 0), ⟨2, 1016, Stt143⟩⟩
noncomputable def Stm72 : Memo := ⟨20, [(pt_ 3 149), (i6_ 72), (pv_ 256 0)], ⟨1017, 1017, Stt144⟩, (i6_ 0), ⟨2, 1030, Stt145⟩⟩
noncomputable def Stm73 : Memo := ⟨20, [(pt_ 3 149), (i6_ 73), (pv_ 256 0)], ⟨1031, 1031, Stt146⟩, (i6_ 0), ⟨2, 1044, Stt147⟩⟩
noncomputable def Stm74 : Memo := ⟨20, [(pt_ 3 149), (i6_ 74), (pv_ 256 0)], ⟨1045, 1045, Stt148⟩, (i6_ 0), ⟨2, 1058, Stt149⟩⟩
noncomputable def Stm75 : Memo := ⟨20, [(pt_ 3 149), (i6_ 75), (pv_ 256 0)], ⟨1059, 1059, Stt150⟩, (i6_ 0), ⟨2, 1072, Stt151⟩⟩
noncomputable def Stm76 : Memo := ⟨20, [(pt_ 3 149), (i6_ 76), (pv_ 256 0)], ⟨1073, 1073, Stt152⟩, (i6_ 0), ⟨2, 1086, Stt153⟩⟩
noncomputable def Stm77 : Memo := ⟨20, [(pt_ 3 149), (i6_ 77), (pv_ 256 0)], ⟨1087, 1087, Stt154⟩, (i6_ 0), ⟨2, 1100, Stt155⟩⟩
noncomputable def Stm78 : Memo := ⟨20, [(pt_ 3 149), (i6_ 78), (pv_ 256 0)], ⟨1101, 1101, Stt156⟩, (i6_ 0), ⟨2, 1114, Stt157⟩⟩
noncomputable def Stm79 : Memo := ⟨20, [(pt_ 3 149), (i6_ 79), (pv_ 256 0)], ⟨1115, 1115, Stt158⟩, (i6_ 0), ⟨2, 1128, Stt159⟩⟩
noncomputable def Stm80 : Memo := ⟨20, [(pt_ 3 149), (i6_ 80), (pv_ 256 0)], ⟨1129, 1129, Stt160⟩, (i6_ 0), ⟨2, 1142, Stt161⟩⟩
noncomputable def Stm81 : Memo := ⟨20, [(pt_ 3 149), (i6_ 81), (pv_ 256 0)], ⟨1143, 1143, Stt162⟩, (i6_ 0), ⟨2, 1156, Stt163⟩⟩
noncomputable def Stm82 : Memo := ⟨20, [(pt_ 3 149), (i6_ 82), (pv_ 256 0)], ⟨1157, 1157, Stt164⟩, (i6_ 0), ⟨2, 1170, Stt165⟩⟩
noncomputable def Stm83 : Memo := ⟨20, [(pt_ 3 149), (i6_ 83), (pv_ 256 0)], ⟨1171, 1171, Stt166⟩, (i6_ 0), ⟨2, 1184, Stt167⟩⟩
noncomputable def Stm84 : Memo := ⟨20, [(pt_ 3 149), (i6_ 84), (pv_ 256 0)], ⟨1185, 1185, Stt168⟩, (i6_ 0), ⟨2, 1198, Stt169⟩⟩
noncomputable def Stm85 : Memo := ⟨20, [(pt_ 3 149), (i6_ 85), (pv_ 256 0)], ⟨1199, 1199, Stt170⟩, (i6_ 0), ⟨2, 1212, Stt171⟩⟩
noncomputable def Stm86 : Memo := ⟨20, [(pt_ 3 149), (i6_ 86), (pv_ 256 0)], ⟨1213, 1213, Stt172⟩, (i6_ 0), ⟨2, 1226, Stt173⟩⟩
noncomputable def Stm87 : Memo := ⟨20, [(pt_ 3 149), (i6_ 87), (pv_ 256 0)], ⟨1227, 1227, Stt174⟩, (i6_ 0), ⟨2, 1240, Stt175⟩⟩
noncomputable def Stm88 : Memo := ⟨20, [(pt_ 3 149), (i6_ 88), (pv_ 256 0)], ⟨1241, 1241, Stt176⟩, (i6_ 0), ⟨2, 1254, Stt177⟩⟩
noncomputable def Stm89 : Memo := ⟨20, [(pt_ 3 149), (i6_ 89), (pv_ 256 0)], ⟨1255, 1255, Stt178⟩, (i6_ 0), ⟨2, 1268, Stt179⟩⟩
noncomputable def Stm90 : Memo := ⟨20, [(pt_ 3 149), (i6_ 90), (pv_ 256 0)], ⟨1269, 1269, Stt180⟩, (i6_ 0), ⟨2, 1282, Stt181⟩⟩
noncomputable def Stm91 : Memo := ⟨20, [(pt_ 3 149), (i6_ 91), (pv_ 256 0)], ⟨1283, 1283, Stt182⟩, (i6_ 0), ⟨2, 1296, Stt183⟩⟩
noncomputable def Stm92 : Memo := ⟨20, [(pt_ 3 149), (i6_ 92), (pv_ 256 0)], ⟨1297, 1297, Stt184⟩, (i6_ 0), ⟨2, 1310, Stt185⟩⟩
noncomputable def Stm93 : Memo := ⟨20, [(pt_ 3 149), (i6_ 93), (pv_ 256 0)], ⟨1311, 1311, Stt186⟩, (i6_ 0), ⟨2, 1324, Stt187⟩⟩
noncomputable def Stm94 : Memo := ⟨20, [(pt_ 3 149), (i6_ 94), (pv_ 256 0)], ⟨1325, 1325, Stt188⟩, (i6_ 0), ⟨2, 1338, Stt189⟩⟩
noncomputable def Stm95 : Memo := ⟨20, [(pt_ 3 149), (i6_ 95), (pv_ 256 0)], ⟨1339, 1339, Stt190⟩, (i6_ 0), ⟨2, 1352, Stt191⟩⟩
noncomputable def Stm96 : Memo := ⟨20, [(pt_ 3 149), (i6_ 96), (pv_ 256 0)], ⟨1353, 1353, Stt192⟩, (i6_ 0), ⟨2, 1366, Stt193⟩⟩
noncomputable def Stm97 : Memo := ⟨20, [(pt_ 3 149), (i6_ 97), (pv_ 256 0)], ⟨1367, 1367, Stt194⟩, (i6_ 0), ⟨2, 1380, Stt195⟩⟩
noncomputable def Stm98 : Memo := ⟨20, [(pt_ 3 149), (i6_ 98), (pv_ 256 0)], ⟨1381, 1381, Stt196⟩, (i6_ 0), ⟨2, 1394, Stt197⟩⟩
noncomputable def Stm99 : Memo := ⟨20, [(pt_ 3 149), (i6_ 99), (pv_ 256 0)], ⟨1395, 1395, Stt198⟩, (i6_ 0), ⟨2, 1408, Stt199⟩⟩
noncomputable def Stm100 : Memo := ⟨20, [(pt_ 3 149), (i6_ 100), (pv_ 256 0)], ⟨1409, 1409, Stt200⟩, (i6_ 0), ⟨2, 1422, Stt201⟩⟩
noncomputable def Stm101 : Memo := ⟨20, [(pt_ 3 149), (i6_ 101), (pv_ 256 0)], ⟨1423, 1423, Stt202⟩, (i6_ 0), ⟨2, 1436, Stt203⟩⟩
noncomputable def Stm102 : Memo := ⟨20, [(pt_ 3 149), (i6_ 102), (pv_ 256 0)], ⟨1437, 1437, Stt204⟩, (i6_ 0), ⟨2, 1450, Stt205⟩⟩
noncomputable def Stm103 : Memo := ⟨20, [(pt_ 3 149), (i6_ 103), (pv_ 256 0)], ⟨1451, 1451, Stt206⟩, (i6_ 0), ⟨2, 1464, Stt207⟩⟩
noncomputable def Stm104 : Memo := ⟨20, [(pt_ 3 149), (i6_ 104), (pv_ 256 0)], ⟨1465, 1465, Stt208⟩, (i6_ 0), ⟨2, 1478, Stt209⟩⟩
noncomputable def Stm105 : Memo := ⟨20, [(pt_ 3 149), (i6_ 105), (pv_ 256 0)], ⟨1479, 1479, Stt210⟩, (i6_ 0), ⟨2, 1492, Stt211⟩⟩
noncomputable def Stm106 : Memo := ⟨20, [(pt_ 3 149), (i6_ 106), (pv_ 256 0)], ⟨1493, 1493, Stt212⟩, (i6_ 0), ⟨2, 1506, Stt213⟩⟩
noncomputable def Stm107 : Memo := ⟨20, [(pt_ 3 149), (i6_ 107), (pv_ 256 0)], ⟨1507, 1507, Stt214⟩, (i6_ 0), ⟨2, 1520, Stt215⟩⟩
noncomputable def Stm108 : Memo := ⟨20, [(pt_ 3 149), (i6_ 108), (pv_ 256 0)], ⟨1521, 1521, Stt216⟩, (i6_ 0), ⟨2, 1534, Stt217⟩⟩
noncomputable def Stm109 : Memo := ⟨20, [(pt_ 3 149), (i6_ 109), (pv_ 256 0)], ⟨1535, 1535, Stt218⟩, (i6_ 0), ⟨2, 1548, Stt219⟩⟩
noncomputable def Stm110 : Memo := ⟨20, [(pt_ 3 149), (i6_ 110), (pv_ 256 0)], ⟨1549, 1549, Stt220⟩, (i6_ 0), ⟨2, 1562, Stt221⟩⟩
noncomputable def Stm111 : Memo := ⟨20, [(pt_ 3 149), (i6_ 111), (pv_ 256 0)], ⟨1563, 1563, Stt222⟩, (i6_ 0), ⟨2, 1576, Stt223⟩⟩
noncomputable def Stm112 : Memo := ⟨20, [(pt_ 3 149), (i6_ 112), (pv_ 256 0)], ⟨1577, 1577, Stt224⟩, (i6_ 0), ⟨2, 1590, Stt225⟩⟩
noncomputable def Stm113 : Memo := ⟨20, [(pt_ 3 149), (i6_ 113), (pv_ 256 0)], ⟨1591, 1591, Stt226⟩, (i6_ 0), ⟨2, 1604, Stt227⟩⟩
noncomputable def Stm114 : Memo := ⟨20, [(pt_ 3 149), (i6_ 114), (pv_ 256 0)], ⟨1605, 1605, Stt228⟩, (i6_ 0), ⟨2, 1618, Stt229⟩⟩
noncomputable def Stm115 : Memo := ⟨20, [(pt_ 3 149), (i6_ 115), (pv_ 256 0)], ⟨1619, 1619, Stt230⟩, (i6_ 0), ⟨2, 1632, Stt231⟩⟩
noncomputable def Stm116 : Memo := ⟨20, [(pt_ 3 149), (i6_ 116), (pv_ 256 0)], ⟨1633, 1633, Stt232⟩, (i6_ 0), ⟨2, 1646, Stt233⟩⟩
noncomputable def Stm117 : Memo := ⟨20, [(pt_ 3 149), (i6_ 117), (pv_ 256 0)], ⟨1647, 1647, Stt234⟩, (i6_ 0), ⟨2, 1660, Stt235⟩⟩
noncomputable def Stm118 : Memo := ⟨20, [(pt_ 3 149), (i6_ 118), (pv_ 256 0)], ⟨1661, 1661, Stt236⟩, (i6_ 0), ⟨2, 1674, Stt237⟩⟩
noncomputable def Stm119 : Memo := ⟨20, [(pt_ 3 149), (i6_ 119), (pv_ 256 0)], ⟨1675, 1675, Stt238⟩, (i6_ 0), ⟨2, 1688, Stt239⟩⟩
noncomputable def Stm120 : Memo := ⟨20, [(pt_ 3 149), (i6_ 120), (pv_ 256 0)], ⟨1689, 1689, Stt240⟩, (i6_ 0), ⟨2, 1702, Stt241⟩⟩
noncomputable def Stm121 : Memo := ⟨20, [(pt_ 3 149), (i6_ 121), (pv_ 256 0)], ⟨1703, 1703, Stt242⟩, (i6_ 0), ⟨2, 1716, Stt243⟩⟩
noncomputable def Stm122 : Memo := ⟨20, [(pt_ 3 149), (i6_ 122), (pv_ 256 0)], ⟨1717, 1717, Stt244⟩, (i6_ 0), ⟨2, 1730, Stt245⟩⟩
noncomputable def Stm123 : Memo := ⟨20, [(pt_ 3 149), (i6_ 123), (pv_ 256 0)], ⟨1731, 1731, Stt246⟩, (i6_ 0), ⟨2, 1744, Stt247⟩⟩
noncomputable def Stm124 : Memo := ⟨20, [(pt_ 3 149), (i6_ 124), (pv_ 256 0)], ⟨1745, 1745, Stt248⟩, (i6_ 0), ⟨2, 1758, Stt249⟩⟩
noncomputable def Stm125 : Memo := ⟨20, [(pt_ 3 149), (i6_ 125), (pv_ 256 0)], ⟨1759, 1759, Stt250⟩, (i6_ 0), ⟨2, 1772, Stt251⟩⟩
noncomputable def Stm126 : Memo := ⟨20, [(pt_ 3 149), (i6_ 126), (pv_ 256 0)], ⟨1773, 1773, Stt252⟩, (i6_ 0), ⟨2, 1786, Stt253⟩⟩
noncomputable def Stm127 : Memo := ⟨20, [(pt_ 3 149), (i6_ 127), (pv_ 256 0)], ⟨1787, 1787, Stt254⟩, (i6_ 0), ⟨2, 1800, Stt255⟩⟩
noncomputable def Stm128 : Memo := ⟨20, [(pt_ 3 149), (i6_ 128), (pv_ 256 0)], ⟨1801, 1801, Stt256⟩, (i6_ 0), ⟨2, 1814, Stt257⟩⟩
noncomputable def Stm129 : Memo := ⟨20, [(pt_ 3 149), (i6_ 129), (pv_ 256 0)], ⟨1815, 1815, Stt258⟩, (i6_ 0), ⟨2, 1828, Stt259⟩⟩
noncomputable def Stm130 : Memo := ⟨20, [(pt_ 3 149), (i6_ 130), (pv_ 256 0)], ⟨1829, 1829, Stt260⟩, (i6_ 0), ⟨2, 1842, Stt261⟩⟩
noncomputable def Stm131 : Memo := ⟨20, [(pt_ 3 149), (i6_ 131), (pv_ 256 0)], ⟨1843, 1843, Stt262⟩, (i6_ 0), ⟨2, 1856, Stt263⟩⟩
noncomputable def Stm132 : Memo := ⟨20, [(pt_ 3 149), (i6_ 132), (pv_ 256 0)], ⟨1857, 1857, Stt264⟩, (i6_ 0), ⟨2, 1870, Stt265⟩⟩
noncomputable def Stm133 : Memo := ⟨20, [(pt_ 3 149), (i6_ 133), (pv_ 256 0)], ⟨1871, 1871, Stt266⟩, (i6_ 0), ⟨2, 1884, Stt267⟩⟩
noncomputable def Stm134 : Memo := ⟨20, [(pt_ 3 149), (i6_ 134), (pv_ 256 0)], ⟨1885, 1885, Stt268⟩, (i6_ 0), ⟨2, 1898, Stt269⟩⟩
noncomputable def Stm135 : Memo := ⟨20, [(pt_ 3 149), (i6_ 135), (pv_ 256 0)], ⟨1899, 1899, Stt270⟩, (i6_ 0), ⟨2, 1912, Stt271⟩⟩
noncomputable def Stm136 : Memo := ⟨20, [(pt_ 3 149), (i6_ 136), (pv_ 256 0)], ⟨1913, 1913, Stt272⟩, (i6_ 0), ⟨2, 1926, Stt273⟩⟩
noncomputable def Stm137 : Memo := ⟨20, [(pt_ 3 149), (i6_ 137), (pv_ 256 0)], ⟨1927, 1927, Stt274⟩, (i6_ 0), ⟨2, 1940, Stt275⟩⟩
noncomputable def Stm138 : Memo := ⟨20, [(pt_ 3 149), (i6_ 138), (pv_ 256 0)], ⟨1941, 1941, Stt276⟩, (i6_ 0), ⟨2, 1954, Stt277⟩⟩
noncomputable def Stm139 : Memo := ⟨20, [(pt_ 3 149), (i6_ 139), (pv_ 256 0)], ⟨1955, 1955, Stt278⟩, (i6_ 0), ⟨2, 1968, Stt279⟩⟩
noncomputable def Stm140 : Memo := ⟨20, [(pt_ 3 149), (i6_ 140), (pv_ 256 0)], ⟨1969, 1969, Stt280⟩, (i6_ 0), ⟨2, 1982, Stt281⟩⟩
noncomputable def Stm141 : Memo := ⟨20, [(pt_ 3 149), (i6_ 141), (pv_ 256 0)], ⟨1983, 1983, Stt282⟩, (i6_ 0), ⟨2, 1996, Stt283⟩⟩
noncomputable def Stm142 : Memo := ⟨20, [(pt_ 3 149), (i6_ 142), (pv_ 256 0)], ⟨1997, 1997, Stt284⟩, (i6_ 0), ⟨2, 2010, Stt285⟩⟩
noncomputable def Stm143 : Memo := ⟨20, [(pt_ 3 149), (i6_ 143), (pv_ 256 0)], ⟨2011, 2011, Stt286⟩, (i6_ 0), ⟨2, 2024, Stt287⟩⟩
noncomputable def Stm144 : Memo := ⟨20, [(pt_ 3 149), (i6_ 144), (pv_ 256 0)], ⟨2025, 2025, Stt288⟩, (i6_ 0), ⟨2, 2038, Stt289⟩⟩
noncomputable def Stm145 : Memo := ⟨20, [(pt_ 3 149), (i6_ 145), (pv_ 256 0)], ⟨2039, 2039, Stt290⟩, (i6_ 0), ⟨2, 2052, Stt291⟩⟩
noncomputable def Stm146 : Memo := ⟨20, [(pt_ 3 149), (i6_ 146), (pv_ 256 0)], ⟨2053, 2053, Stt292⟩, (i6_ 0), ⟨2, 2066, Stt293⟩⟩
noncomputable def Stm147 : Memo := ⟨20, [(pt_ 3 149), (i6_ 147), (pv_ 256 0)], ⟨2067, 2067, Stt294⟩, (i6_ 0), ⟨2, 2080, Stt295⟩⟩
noncomputable def Stm148 : Memo := ⟨20, [(pt_ 3 149), (i6_ 148), (pv_ 256 0)], ⟨2081, 2081, Stt296⟩, (i6_ 0), ⟨2, 2094, Stt297⟩⟩
noncomputable def Stm149 : Memo := ⟨20, [(pt_ 3 149), (i6_ 149), (pv_ 256 0)], ⟨2095, 2095, Stt298⟩, (i6_ 0), ⟨2, 2108, Stt299⟩⟩
noncomputable def Stm150 : Memo := ⟨20, [(pt_ 3 149), (i6_ 150), (pv_ 256 0)], ⟨2109, 2109, Stt300⟩, (i6_ 0), ⟨2, 2122, Stt301⟩⟩
noncomputable def Stm151 : Memo := ⟨20, [(pt_ 3 149), (i6_ 151), (pv_ 256 0)], ⟨2123, 2123, Stt302⟩, (i6_ 0), ⟨2, 2136, Stt303⟩⟩
noncomputable def Stm152 : Memo := ⟨20, [(pt_ 3 149), (i6_ 152), (pv_ 256 0)], ⟨2137, 2137, Stt304⟩, (i6_ 0), ⟨2, 2150, Stt305⟩⟩
noncomputable def Stm153 : Memo := ⟨20, [(pt_ 3 149), (i6_ 153), (pv_ 256 0)], ⟨2151, 2151, Stt306⟩, (i6_ 0), ⟨2, 2164, Stt307⟩⟩
noncomputable def Stm154 : Memo := ⟨20, [(pt_ 3 149), (i6_ 154), (pv_ 256 0)], ⟨2165, 2165, Stt308⟩, (i6_ 0), ⟨2, 2178, Stt309⟩⟩
noncomputable def Stm155 : Memo := ⟨20, [(pt_ 3 149), (i6_ 155), (pv_ 256 0)], ⟨2179, 2179, Stt310⟩, (i6_ 0), ⟨2, 2192, Stt311⟩⟩
noncomputable def Stm156 : Memo := ⟨20, [(pt_ 3 149), (i6_ 156), (pv_ 256 0)], ⟨2193, 2193, Stt312⟩, (i6_ 0), ⟨2, 2206, Stt313⟩⟩
noncomputable def Stm157 : Memo := ⟨20, [(pt_ 3 149), (i6_ 157), (pv_ 256 0)], ⟨2207, 2207, Stt314⟩, (i6_ 0), ⟨2, 2220, Stt315⟩⟩
noncomputable def Stm158 : Memo := ⟨20, [(pt_ 3 149), (i6_ 158), (pv_ 256 0)], ⟨2221, 2221, Stt316⟩, (i6_ 0), ⟨2, 2234, Stt317⟩⟩
noncomputable def Stm159 : Memo := ⟨20, [(pt_ 3 149), (i6_ 159), (pv_ 256 0)], ⟨2235, 2235, Stt318⟩, (i6_ 0), ⟨2, 2248, Stt319⟩⟩
noncomputable def Stm160 : Memo := ⟨20, [(pt_ 3 149), (i6_ 160), (pv_ 256 0)], ⟨2249, 2249, Stt320⟩, (i6_ 0), ⟨2, 2262, Stt321⟩⟩
noncomputable def Stm161 : Memo := ⟨20, [(pt_ 3 149), (i6_ 161), (pv_ 256 0)], ⟨2263, 2263, Stt322⟩, (i6_ 0), ⟨2, 2276, Stt323⟩⟩
noncomputable def Stm162 : Memo := ⟨20, [(pt_ 3 149), (i6_ 162), (pv_ 256 0)], ⟨2277, 2277, Stt324⟩, (i6_ 0), ⟨2, 2290, Stt325⟩⟩
noncomputable def Stm163 : Memo := ⟨20, [(pt_ 3 149), (i6_ 163), (pv_ 256 0)], ⟨2291, 2291, Stt326⟩, (i6_ 0), ⟨2, 2304, Stt327⟩⟩
noncomputable def Stm164 : Memo := ⟨20, [(pt_ 3 149), (i6_ 164), (pv_ 256 0)], ⟨2305, 2305, Stt328⟩, (i6_ 0), ⟨2, 2318, Stt329⟩⟩
noncomputable def Stm165 : Memo := ⟨20, [(pt_ 3 149), (i6_ 165), (pv_ 256 0)], ⟨2319, 2319, Stt330⟩, (i6_ 0), ⟨2, 2332, Stt331⟩⟩
noncomputable def Stm166 : Memo := ⟨20, [(pt_ 3 149), (i6_ 166), (pv_ 256 0)], ⟨2333, 2333, Stt332⟩, (i6_ 0), ⟨2, 2346, Stt333⟩⟩
noncomputable def Stm167 : Memo := ⟨20, [(pt_ 3 149), (i6_ 167), (pv_ 256 0)], ⟨2347, 2347, Stt334⟩, (i6_ 0), ⟨2, 2360, Stt335⟩⟩
noncomputable def Stm168 : Memo := ⟨20, [(pt_ 3 149), (i6_ 168), (pv_ 256 0)], ⟨2361, 2361, Stt336⟩, (i6_ 0), ⟨2, 2374, Stt337⟩⟩
noncomputable def Stm169 : Memo := ⟨55, [(pt_ 3 149)], ⟨2374, 2374, Stt337⟩, (i6_ 0), ⟨1, 3050, Stt338⟩⟩
noncomputable def Stm170 : Memo := ⟨20, [(pt_ 3 149), (i6_ 0), (pv_ 256 1751908409537131537220509645351687597690304110853111572994449976845956819751541616602568796259317428464425605223064365804210081422215355425149431390635152085911253638465843522959981857508604293008851875670734285318939096220059161268362455799216914068289430882977843213673511900600724019059761922151704880101565941158560442611560766016760316542411190684676242985483475064780129911850738607849848280361139887424817377373644101272953211783384016475793068915461693618056008394695187698253025940892099119423684626968677571141402247813503730482930776683213338248182129694911234444470261079384052460577142)], ⟨3058, 3058, Stt339⟩, (i6_ 0), ⟨2, 3071, Stt340⟩⟩
noncomputable def Stm171 : Memo := ⟨55, [(pt_ 3 149)], ⟨3071, 3071, Stt340⟩, (i6_ 0), ⟨1, 3075, Stt341⟩⟩
noncomputable def Stm172 : Memo := ⟨71, [(pt_ 3 149), (i6_ 0), (ag_ [(u6_ 1), (u3_ 0), (u3_ 0), (u6_ 1), (u3_ 0), (ag_ [(i6_ 3), (i6_ 4), (i6_ 160), (u3_ 100)])])], ⟨3050, 3050, Stt338⟩, (i6_ 0), ⟨1, 3075, Stt342⟩⟩
noncomputable def Stm173 : Memo := ⟨83, [(pt_ 3 149), (ag_ [(i6_ 3), (i6_ 4), (i6_ 160), (u3_ 100)])], ⟨4, 4, Stt343⟩, (i6_ 0), ⟨1, 3075, Stt344⟩⟩
noncomputable def Stm174 : Memo := ⟨55, [(pt_ 3 149)], ⟨3075, 3075, Stt344⟩, (i6_ 0), ⟨3, 3075, Stt345⟩⟩
noncomputable def Stm175 : Memo := ⟨68, [(pt_ 3 149)], ⟨3075, 3075, Stt345⟩, (.tup [(ag_ [(u6_ 1), (u3_ 0), (u3_ 0), (u6_ 1), (u3_ 0), (ag_ [(i6_ 3), (i6_ 4), (i6_ 160), (u3_ 100)])]), (i6_ 0), (i6_ 0)]), ⟨3, 3109, Stt346⟩⟩
noncomputable def Stm176 : Memo := ⟨20, [(pt_ 3 149), (i6_ 1), (pv_ 256 3503816819074263074441019290703375195380608221706223145988899953691913639503083233205137592518634856928851210446128731608420162844430710850298862781270304171822507276931687045919963715017208586017703751341468570637878192440118322536724911598433828136578861765955686427347023801201448038119523844303409760203131882317120885223121532033520633084822381369352485970966950129560259823701477215699696560722279774849634754747288202545906423566768032951586137830923387236112016789390375396479889336230213690855819301448142166544176994374039645875153537460385811269606904223796847681464053830070077494550902)], ⟨3121, 3121, Stt347⟩, (i6_ 0), ⟨2, 3134, Stt348⟩⟩
noncomputable def Stm177 : Memo := ⟨55, [(pt_ 3 149)], ⟨3134, 3134, Stt348⟩, (i6_ 0), ⟨1, 3138, Stt349⟩⟩
noncomputable def Stm178 : Memo := ⟨71, [(pt_ 3 149), (i6_ 1), (ag_ [(u6_ 2), (u3_ 1), (u3_ 0), (u6_ 1), (u3_ 0), (ag_ [(i6_ 3), (i6_ 4), (i6_ 160), (u3_ 100)])])], ⟨3113, 3113, Stt350⟩, (i6_ 0), ⟨1, 3138, Stt351⟩⟩
noncomputable def Stm179 : Memo := ⟨153, [(pt_ 3 149), (i6_ 9), (i6_ 160), (u3_ 0)], ⟨3140, 3140, Stt352⟩, (.tup [sn_, (i6_ 0)]), ⟨3, 3145, Stt353⟩⟩
noncomputable def Stm180 : Memo := ⟨57, [(pt_ 3152 293), (u1_ 0)], ⟨3260, 3260, Stt354⟩, (.tup [(ag_ [(u6_ 0), (u3_ 0), (ag_ [(u1_ 0), (u8_ 0)]), p0_]), (i6_ 0)]), ⟨3, 3276, Stt355⟩⟩
noncomputable def Stm181 : Memo := ⟨57, [(pt_ 3152 293), (u1_ 1)], ⟨3277, 3277, Stt356⟩, (.tup [(ag_ [(u6_ 0), (u3_ 0), (ag_ [(u1_ 0), (u8_ 0)]), p0_]), (i6_ 0)]), ⟨3, 3291, Stt357⟩⟩
noncomputable def Stm182 : Memo := ⟨57, [(pt_ 3152 293), (u1_ 2)], ⟨3292, 3292, Stt358⟩, (.tup [(ag_ [(u6_ 0), (u3_ 0), (ag_ [(u1_ 0), (u8_ 0)]), p0_]), (i6_ 0)]), ⟨3, 3306, Stt359⟩⟩
noncomputable def Stm183 : Memo := ⟨74, [(pt_ 3138 161), (u3_ 0)], ⟨3156, 3156, Stt360⟩, (i6_ 0), ⟨3, 3307, Stt361⟩⟩
noncomputable def Stm184 : Memo := ⟨20, [(pt_ 3 149), (i6_ 0), (pv_ 256 5255725228611394611661528936055062793070912332559334718983349930537870459254624849807706388777952285393276815669193097412630244266646066275448294171905456257733760915397530568879945572525812879026555627012202855956817288660177483805087367397650742204868292648933529641020535701802172057179285766455114640304697823475681327834682298050280949627233572054028728956450425194340389735552215823549544841083419662274452132120932303818859635350152049427379206746385080854168025184085563094683808803782069364535884594052934512617463398527714519479075792085882359164120590508484512876609048489427206671589750)], ⟨3330, 3330, Stt362⟩, (i6_ 0), ⟨2, 3343, Stt363⟩⟩
noncomputable def Stm185 : Memo := ⟨55, [(pt_ 3 149)], ⟨3343, 3343, Stt363⟩, (i6_ 0), ⟨1, 3347, Stt364⟩⟩
noncomputable def Stm186 : Memo := ⟨71, [(pt_ 3 149), (i6_ 0), (ag_ [(u6_ 3), (u3_ 1), (u3_ 0), (u6_ 1), (u3_ 0), (ag_ [(i6_ 3), (i6_ 4), (i6_ 160), (u3_ 100)])])], ⟨3322, 3322, Stt365⟩, (i6_ 0), ⟨1, 3347, Stt366⟩⟩
noncomputable def Stm187 : Memo := ⟨22, [(pt_ 3138 161), (u3_ 0)], ⟨3314, 3314, Stt367⟩, (i6_ 0), ⟨1, 3347, Stt368⟩⟩
noncomputable def Stm188 : Memo := ⟨21, [(pt_ 3 149), (i6_ 5)], ⟨3075, 3075, Stt344⟩, (.tup [(pt_ 3138 161), (i6_ 0)]), ⟨1, 3347, Stt369⟩⟩
noncomputable def Stm189 : Memo := ⟨27, [(pt_ 3 149), (i6_ 5)], ⟨3075, 3075, Stt344⟩, (.tup [(pt_ 3354 189), (i6_ 0)]), ⟨1, 3355, Stt370⟩⟩
noncomputable def Stm190 : Memo := ⟨28, [(pt_ 3354 189), (i6_ 0), (ag_ [(u8_ 0), (u6_ 0), (u1_ 0), (i6_ 0), s0_])], ⟨3357, 3357, Stt371⟩, (i6_ 0), ⟨3354, 3359, Stt372⟩⟩
noncomputable def Stm191 : Memo := ⟨26, [(pt_ 3354 189), (i6_ 0)], ⟨3359, 3359, Stt372⟩, (.tup [(ag_ [(i6_ 0), (u6_ 1), (u3_ 0), p0_]), bt_]), ⟨3349, 3366, Stt373⟩⟩
noncomputable def Stm192 : Memo := ⟨28, [(pt_ 3354 189), (i6_ 0), (ag_ [(u8_ 2), (u6_ 1), (u1_ 2), (i6_ 0), (.str (pkS 2 26984))])], ⟨3370, 3370, Stt374⟩, (i6_ 0), ⟨3353, 3372, Stt375⟩⟩
noncomputable def Stm193 : Memo := ⟨57, [(pt_ 3152 293), (u1_ 2)], ⟨3379, 3379, Stt376⟩, (.tup [(ag_ [(u6_ 0), (u3_ 0), (ag_ [(u1_ 0), (u8_ 0)]), p0_]), (i6_ 0)]), ⟨3147, 3388, Stt377⟩⟩
noncomputable def Stm194 : Memo := ⟨26, [(pt_ 3354 189), (i6_ 0)], ⟨3372, 3372, Stt375⟩, (.tup [(ag_ [(i6_ 0), (u6_ 0), (u3_ 0), p0_]), bt_]), ⟨3147, 3394, Stt378⟩⟩
noncomputable def Stm195 : Memo := ⟨28, [(pt_ 3354 189), (i6_ 0), (ag_ [(u8_ 3), (u6_ 1), (u1_ 0), (i6_ 0), s0_])], ⟨3398, 3398, Stt379⟩, (i6_ 0), ⟨3353, 3400, Stt380⟩⟩
noncomputable def Stm196 : Memo := ⟨26, [(pt_ 3354 189), (i6_ 0)], ⟨3400, 3400, Stt380⟩, (.tup [(ag_ [(i6_ 0), (u6_ 0), (u3_ 0), p0_]), bf_]), ⟨3351, 3409, Stt381⟩⟩
noncomputable def Stm197 : Memo := ⟨26, [(pt_ 3354 189), (i6_ 0)], ⟨3410, 3410, Stt382⟩, (.tup [(ag_ [(i6_ 0), (u6_ 0), (u3_ 0), p0_]), bf_]), ⟨3399, 3413, Stt383⟩⟩
noncomputable def Stm198 : Memo := ⟨57, [(pt_ 3152 293), (u1_ 2)], ⟨3422, 3422, Stt384⟩, (.tup [(ag_ [(u6_ 0), (u3_ 0), (ag_ [(u1_ 0), (u8_ 0)]), p0_]), (i6_ 0)]), ⟨3147, 3431, Stt385⟩⟩
noncomputable def Stm199 : Memo := ⟨26, [(pt_ 3354 189), (i6_ 0)], ⟨3414, 3414, Stt386⟩, (.tup [(ag_ [(i6_ 0), (u6_ 0), (u3_ 0), p0_]), bf_]), ⟨3147, 3432, Stt387⟩⟩
noncomputable def Stm200 : Memo := ⟨57, [(pt_ 3152 293), (u1_ 2)], ⟨3440, 3440, Stt388⟩, (.tup [(ag_ [(u6_ 0), (u3_ 0), (ag_ [(u1_ 0), (u8_ 0)]), p0_]), (i6_ 0)]), ⟨3147, 3449, Stt389⟩⟩
noncomputable def Stm201 : Memo := ⟨26, [(pt_ 3354 189), (i6_ 0)], ⟨3433, 3433, Stt390⟩, (.tup [(ag_ [(i6_ 0), (u6_ 0), (u3_ 0), p0_]), bf_]), ⟨3, 3573, Stt391⟩⟩
noncomputable def Stm202 : Memo := ⟨20, [(pt_ 3 149), (i6_ 9), (pv_ 256 7524389324549354450012295667238056650488661292408472865850279440061341770661038088891003609523855490537527473858068236032063038821912119420032983735773778876975016735571805544166547194752787477078220244514061819750776347680951316832806627131882188333345416304842239695343273634546912415783358125187670410679826875663477451455938321558693747420263860975104311970800935000567295367974383057844879181122368881239977235223222078707496060827556224023801900967306379973912754891476899394845007984030582181670993715044948538385542224883338527392176139101599076603195550939242728810508754814389071382426143097356289)], ⟨3582, 3582, Stt392⟩, (i6_ 0), ⟨2, 3595, Stt393⟩⟩
noncomputable def Stm203 : Memo := ⟨55, [(pt_ 3 149)], ⟨3595, 3595, Stt393⟩, (i6_ 0), ⟨1, 3599, Stt394⟩⟩
noncomputable def Stm204 : Memo := ⟨26, [(pt_ 3354 189), (i6_ 0)], ⟨3574, 3574, Stt395⟩, (.tup [(ag_ [(i6_ 0), (u6_ 0), (u3_ 1), p0_]), bt_]), ⟨1, 3606, Stt396⟩⟩
noncomputable def Stm205 : Memo := ⟨28, [(pt_ 3354 189), (i6_ 0), (ag_ [(u8_ 0), (u6_ 0), (u1_ 0), (i6_ 0), s0_])], ⟨3610, 3610, Stt397⟩, (i6_ 0), ⟨3354, 3612, Stt398⟩⟩
noncomputable def Stm206 : Memo := ⟨26, [(pt_ 3354 189), (i6_ 0)], ⟨3612, 3612, Stt398⟩, (.tup [(ag_ [(i6_ 0), (u6_ 2), (u3_ 1), p0_]), bt_]), ⟨3349, 3619, Stt399⟩⟩
noncomputable def Stm207 : Memo := ⟨28, [(pt_ 3354 189), (i6_ 0), (ag_ [(u8_ 1), (u6_ 2), (u1_ 2), (i6_ 0), s0_])], ⟨3622, 3622, Stt400⟩, (i6_ 0), ⟨3353, 3624, Stt401⟩⟩
noncomputable def Stm208 : Memo := ⟨57, [(pt_ 3152 293), (u1_ 2)], ⟨3631, 3631, Stt402⟩, (.tup [(ag_ [(u6_ 41), (u3_ 1), (ag_ [(u1_ 1), (u8_ 0)]), (pv_ 64 26984)]), (i6_ 0)]), ⟨3147, 3640, Stt403⟩⟩
noncomputable def Stm209 : Memo := ⟨26, [(pt_ 3354 189), (i6_ 0)], ⟨3624, 3624, Stt401⟩, (.tup [(ag_ [(i6_ 0), (u6_ 0), (u3_ 1), (pv_ 64 26984)]), bt_]), ⟨3147, 3644, Stt404⟩⟩
noncomputable def Stm210 : Memo := ⟨34, [], ⟨0, 0, Stt405⟩, bt_, ⟨0, 3646, Stt406⟩⟩
theorem Stown0 : ownT Stt0 = true := by kernel_rfl
theorem Stown2 : ownT Stt2 = true := by kernel_rfl
theorem Stown4 : ownT Stt4 = true := by kernel_rfl
theorem Stown6 : ownT Stt6 = true := by kernel_rfl
theorem Stown8 : ownT Stt8 = true := by kernel_rfl
theorem Stown10 : ownT Stt10 = true := by kernel_rfl
theorem Stown12 : ownT Stt12 = true := by kernel_rfl
theorem Stown14 : ownT Stt14 = true := by kernel_rfl
theorem Stown16 : ownT Stt16 = true := by kernel_rfl
theorem Stown18 : ownT Stt18 = true := by kernel_rfl
theorem Stown20 : ownT Stt20 = true := by kernel_rfl
theorem Stown22 : ownT Stt22 = true := by kernel_rfl
theorem Stown24 : ownT Stt24 = true := by kernel_rfl
theorem Stown26 : ownT Stt26 = true := by kernel_rfl
theorem Stown28 : ownT Stt28 = true := by kernel_rfl
theorem Stown30 : ownT Stt30 = true := by kernel_rfl
theorem Stown32 : ownT Stt32 = true := by kernel_rfl
theorem Stown34 : ownT Stt34 = true := by kernel_rfl
theorem Stown36 : ownT Stt36 = true := by kernel_rfl
theorem Stown38 : ownT Stt38 = true := by kernel_rfl
theorem Stown40 : ownT Stt40 = true := by kernel_rfl
theorem Stown42 : ownT Stt42 = true := by kernel_rfl
theorem Stown44 : ownT Stt44 = true := by kernel_rfl
theorem Stown46 : ownT Stt46 = true := by kernel_rfl
theorem Stown48 : ownT Stt48 = true := by kernel_rfl
theorem Stown50 : ownT Stt50 = true := by kernel_rfl
theorem Stown52 : ownT Stt52 = true := by kernel_rfl
theorem Stown54 : ownT Stt54 = true := by kernel_rfl
theorem Stown56 : ownT Stt56 = true := by kernel_rfl
theorem Stown58 : ownT Stt58 = true := by kernel_rfl
theorem Stown60 : ownT Stt60 = true := by kernel_rfl
theorem Stown62 : ownT Stt62 = true := by kernel_rfl
theorem Stown64 : ownT Stt64 = true := by kernel_rfl
theorem Stown66 : ownT Stt66 = true := by kernel_rfl
theorem Stown68 : ownT Stt68 = true := by kernel_rfl
theorem Stown70 : ownT Stt70 = true := by kernel_rfl
theorem Stown72 : ownT Stt72 = true := by kernel_rfl
theorem Stown74 : ownT Stt74 = true := by kernel_rfl
theorem Stown76 : ownT Stt76 = true := by kernel_rfl
theorem Stown78 : ownT Stt78 = true := by kernel_rfl
theorem Stown80 : ownT Stt80 = true := by kernel_rfl
theorem Stown82 : ownT Stt82 = true := by kernel_rfl
theorem Stown84 : ownT Stt84 = true := by kernel_rfl
theorem Stown86 : ownT Stt86 = true := by kernel_rfl
theorem Stown88 : ownT Stt88 = true := by kernel_rfl
theorem Stown90 : ownT Stt90 = true := by kernel_rfl
theorem Stown92 : ownT Stt92 = true := by kernel_rfl
theorem Stown94 : ownT Stt94 = true := by kernel_rfl
theorem Stown96 : ownT Stt96 = true := by kernel_rfl
theorem Stown98 : ownT Stt98 = true := by kernel_rfl
theorem Stown100 : ownT Stt100 = true := by kernel_rfl
theorem Stown102 : ownT Stt102 = true := by kernel_rfl
theorem Stown104 : ownT Stt104 = true := by kernel_rfl
theorem Stown106 : ownT Stt106 = true := by kernel_rfl
theorem Stown108 : ownT Stt108 = true := by kernel_rfl
theorem Stown110 : ownT Stt110 = true := by kernel_rfl
theorem Stown112 : ownT Stt112 = true := by kernel_rfl
theorem Stown114 : ownT Stt114 = true := by kernel_rfl
theorem Stown116 : ownT Stt116 = true := by kernel_rfl
theorem Stown118 : ownT Stt118 = true := by kernel_rfl
theorem Stown120 : ownT Stt120 = true := by kernel_rfl
theorem Stown122 : ownT Stt122 = true := by kernel_rfl
theorem Stown124 : ownT Stt124 = true := by kernel_rfl
theorem Stown126 : ownT Stt126 = true := by kernel_rfl
theorem Stown128 : ownT Stt128 = true := by kernel_rfl
theorem Stown130 : ownT Stt130 = true := by kernel_rfl
theorem Stown132 : ownT Stt132 = true := by kernel_rfl
theorem Stown134 : ownT Stt134 = true := by kernel_rfl
theorem Stown136 : ownT Stt136 = true := by kernel_rfl
theorem Stown138 : ownT Stt138 = true := by kernel_rfl
theorem Stown140 : ownT Stt140 = true := by kernel_rfl
theorem Stown142 : ownT Stt142 = true := by kernel_rfl
theorem Stown144 : ownT Stt144 = true := by kernel_rfl
theorem Stown146 : ownT Stt146 = true := by kernel_rfl
theorem Stown148 : ownT Stt148 = true := by kernel_rfl
theorem Stown150 : ownT Stt150 = true := by kernel_rfl
theorem Stown152 : ownT Stt152 = true := by kernel_rfl
theorem Stown154 : ownT Stt154 = true := by kernel_rfl
theorem Stown156 : ownT Stt156 = true := by kernel_rfl
theorem Stown158 : ownT Stt158 = true := by kernel_rfl
theorem Stown160 : ownT Stt160 = true := by kernel_rfl
theorem Stown162 : ownT Stt162 = true := by kernel_rfl
theorem Stown164 : ownT Stt164 = true := by kernel_rfl
theorem Stown166 : ownT Stt166 = true := by kernel_rfl
theorem Stown168 : ownT Stt168 = true := by kernel_rfl
theorem Stown170 : ownT Stt170 = true := by kernel_rfl
theorem Stown172 : ownT Stt172 = true := by kernel_rfl
theorem Stown174 : ownT Stt174 = true := by kernel_rfl
theorem Stown176 : ownT Stt176 = true := by kernel_rfl
theorem Stown178 : ownT Stt178 = true := by kernel_rfl
theorem Stown180 : ownT Stt180 = true := by kernel_rfl
theorem Stown182 : ownT Stt182 = true := by kernel_rfl
theorem Stown184 : ownT Stt184 = true := by kernel_rfl
theorem Stown186 : ownT Stt186 = true := by kernel_rfl
theorem Stown188 : ownT Stt188 = true := by kernel_rfl
theorem Stown190 : ownT Stt190 = true := by kernel_rfl
theorem Stown192 : ownT Stt192 = true := by kernel_rfl
theorem Stown194 : ownT Stt194 = true := by kernel_rfl
theorem Stown196 : ownT Stt196 = true := by kernel_rfl
theorem Stown198 : ownT Stt198 = true := by kernel_rfl
theorem Stown200 : ownT Stt200 = true := by kernel_rfl
theorem Stown202 : ownT Stt202 = true := by kernel_rfl
theorem Stown204 : ownT Stt204 = true := by kernel_rfl
theorem Stown206 : ownT Stt206 = true := by kernel_rfl
theorem Stown208 : ownT Stt208 = true := by kernel_rfl
theorem Stown210 : ownT Stt210 = true := by kernel_rfl
theorem Stown212 : ownT Stt212 = true := by kernel_rfl
theorem Stown214 : ownT Stt214 = true := by kernel_rfl
theorem Stown216 : ownT Stt216 = true := by kernel_rfl
theorem Stown218 : ownT Stt218 = true := by kernel_rfl
theorem Stown220 : ownT Stt220 = true := by kernel_rfl
theorem Stown222 : ownT Stt222 = true := by kernel_rfl
theorem Stown224 : ownT Stt224 = true := by kernel_rfl
theorem Stown226 : ownT Stt226 = true := by kernel_rfl
theorem Stown228 : ownT Stt228 = true := by kernel_rfl
theorem Stown230 : ownT Stt230 = true := by kernel_rfl
theorem Stown232 : ownT Stt232 = true := by kernel_rfl
theorem Stown234 : ownT Stt234 = true := by kernel_rfl
theorem Stown236 : ownT Stt236 = true := by kernel_rfl
theorem Stown238 : ownT Stt238 = true := by kernel_rfl
theorem Stown240 : ownT Stt240 = true := by kernel_rfl
theorem Stown242 : ownT Stt242 = true := by kernel_rfl
theorem Stown244 : ownT Stt244 = true := by kernel_rfl
theorem Stown246 : ownT Stt246 = true := by kernel_rfl
theorem Stown248 : ownT Stt248 = true := by kernel_rfl
theorem Stown250 : ownT Stt250 = true := by kernel_rfl
theorem Stown252 : ownT Stt252 = true := by kernel_rfl
theorem Stown254 : ownT Stt254 = true := by kernel_rfl
theorem Stown256 : ownT Stt256 = true := by kernel_rfl
theorem Stown258 : ownT Stt258 = true := by kernel_rfl
theorem Stown260 : ownT Stt260 = true := by kernel_rfl
theorem Stown262 : ownT Stt262 = true := by kernel_rfl
theorem Stown264 : ownT Stt264 = true := by kernel_rfl
theorem Stown266 : ownT Stt266 = true := by kernel_rfl
theorem Stown268 : ownT Stt268 = true := by kernel_rfl
theorem Stown270 : ownT Stt270 = true := by kernel_rfl
theorem Stown272 : ownT Stt272 = true := by kernel_rfl
theorem Stown274 : ownT Stt274 = true := by kernel_rfl
theorem Stown276 : ownT Stt276 = true := by kernel_rfl
theorem Stown278 : ownT Stt278 = true := by kernel_rfl
theorem Stown280 : ownT Stt280 = true := by kernel_rfl
theorem Stown282 : ownT Stt282 = true := by kernel_rfl
theorem Stown284 : ownT Stt284 = true := by kernel_rfl
theorem Stown286 : ownT Stt286 = true := by kernel_rfl
theorem Stown288 : ownT Stt288 = true := by kernel_rfl
theorem Stown290 : ownT Stt290 = true := by kernel_rfl
theorem Stown292 : ownT Stt292 = true := by kernel_rfl
theorem Stown294 : ownT Stt294 = true := by kernel_rfl
theorem Stown296 : ownT Stt296 = true := by kernel_rfl
theorem Stown298 : ownT Stt298 = true := by kernel_rfl
theorem Stown300 : ownT Stt300 = true := by kernel_rfl
theorem Stown302 : ownT Stt302 = true := by kernel_rfl
theorem Stown304 : ownT Stt304 = true := by kernel_rfl
theorem Stown306 : ownT Stt306 = true := by kernel_rfl
theorem Stown308 : ownT Stt308 = true := by kernel_rfl
theorem Stown310 : ownT Stt310 = true := by kernel_rfl
theorem Stown312 : ownT Stt312 = true := by kernel_rfl
theorem Stown314 : ownT Stt314 = true := by kernel_rfl
theorem Stown316 : ownT Stt316 = true := by kernel_rfl
theorem Stown318 : ownT Stt318 = true := by kernel_rfl
theorem Stown320 : ownT Stt320 = true := by kernel_rfl
theorem Stown322 : ownT Stt322 = true := by kernel_rfl
theorem Stown324 : ownT Stt324 = true := by kernel_rfl
theorem Stown326 : ownT Stt326 = true := by kernel_rfl
theorem Stown328 : ownT Stt328 = true := by kernel_rfl
theorem Stown330 : ownT Stt330 = true := by kernel_rfl
theorem Stown332 : ownT Stt332 = true := by kernel_rfl
theorem Stown334 : ownT Stt334 = true := by kernel_rfl
theorem Stown336 : ownT Stt336 = true := by kernel_rfl
theorem Stown337 : ownT Stt337 = true := by kernel_rfl
theorem Stown338 : ownT Stt338 = true := by kernel_rfl
theorem Stown339 : ownT Stt339 = true := by kernel_rfl
theorem Stown340 : ownT Stt340 = true := by kernel_rfl
theorem Stown343 : ownT Stt343 = true := by kernel_rfl
theorem Stown344 : ownT Stt344 = true := by kernel_rfl
theorem Stown345 : ownT Stt345 = true := by kernel_rfl
theorem Stown347 : ownT Stt347 = true := by kernel_rfl
theorem Stown348 : ownT Stt348 = true := by kernel_rfl
theorem Stown350 : ownT Stt350 = true := by kernel_rfl
theorem Stown352 : ownT Stt352 = true := by kernel_rfl
theorem Stown354 : ownT Stt354 = true := by kernel_rfl
theorem Stown356 : ownT Stt356 = true := by kernel_rfl
theorem Stown358 : ownT Stt358 = true := by kernel_rfl
theorem Stown360 : ownT Stt360 = true := by kernel_rfl
theorem Stown362 : ownT Stt362 = true := by kernel_rfl
theorem Stown363 : ownT Stt363 = true := by kernel_rfl
theorem Stown365 : ownT Stt365 = true := by kernel_rfl
theorem Stown367 : ownT Stt367 = true := by kernel_rfl
theorem Stown371 : ownT Stt371 = true := by kernel_rfl
theorem Stown372 : ownT Stt372 = true := by kernel_rfl
theorem Stown374 : ownT Stt374 = true := by kernel_rfl
theorem Stown375 : ownT Stt375 = true := by kernel_rfl
theorem Stown376 : ownT Stt376 = true := by kernel_rfl
theorem Stown379 : ownT Stt379 = true := by kernel_rfl
theorem Stown380 : ownT Stt380 = true := by kernel_rfl
theorem Stown382 : ownT Stt382 = true := by kernel_rfl
theorem Stown384 : ownT Stt384 = true := by kernel_rfl
theorem Stown386 : ownT Stt386 = true := by kernel_rfl
theorem Stown388 : ownT Stt388 = true := by kernel_rfl
theorem Stown390 : ownT Stt390 = true := by kernel_rfl
theorem Stown392 : ownT Stt392 = true := by kernel_rfl
theorem Stown393 : ownT Stt393 = true := by kernel_rfl
theorem Stown395 : ownT Stt395 = true := by kernel_rfl
theorem Stown397 : ownT Stt397 = true := by kernel_rfl
theorem Stown398 : ownT Stt398 = true := by kernel_rfl
theorem Stown400 : ownT Stt400 = true := by kernel_rfl
theorem Stown401 : ownT Stt401 = true := by kernel_rfl
theorem Stown402 : ownT Stt402 = true := by kernel_rfl
theorem Stown405 : ownT Stt405 = true := by kernel_rfl
end Go.Proofs.YtcglbpjpbjaecaaGreat.Ru
