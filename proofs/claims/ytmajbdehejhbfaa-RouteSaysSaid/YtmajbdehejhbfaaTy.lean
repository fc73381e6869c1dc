/-
  Sizes of types and places of fields, by program.
-/
import Derived.Test.YtmajbdehejhbfaaProg
import Derived.Test.YtmajbdehejhbfaaOps
import Derived.Test.YtmajbdehejhbfaaOwn
import Derived.KernelRfl
namespace Go.Proofs.Ytmajbdehejhbfaa
open Go
theorem ts1 : (Try.prog.info? 1).map (·.size) = some 1 := by kernel_rfl
theorem ts2 : (Try.prog.info? 2).map (·.size) = some 1 := by kernel_rfl
theorem ts3 : (Try.prog.info? 3).map (·.size) = some 1 := by kernel_rfl
theorem ts4 : (Try.prog.info? 4).map (·.size) = some 1 := by kernel_rfl
theorem ts5 : (Try.prog.info? 5).map (·.size) = some 1 := by kernel_rfl
theorem ts6 : (Try.prog.info? 6).map (·.size) = some 1 := by kernel_rfl
theorem ts7 : (Try.prog.info? 7).map (·.size) = some 4 := by kernel_rfl
theorem ts8 : (Try.prog.info? 8).map (·.size) = some 4 := by kernel_rfl
theorem ts9 : (Try.prog.info? 9).map (·.size) = some 1 := by kernel_rfl
theorem ts10 : (Try.prog.info? 10).map (·.size) = some 1 := by kernel_rfl
theorem ts11 : (Try.prog.info? 11).map (·.size) = some 1 := by kernel_rfl
theorem ts12 : (Try.prog.info? 12).map (·.size) = some 1 := by kernel_rfl
theorem ts13 : (Try.prog.info? 13).map (·.size) = some 2 := by kernel_rfl
theorem ts14 : (Try.prog.info? 14).map (·.size) = some 2 := by kernel_rfl
theorem ts15 : (Try.prog.info? 15).map (·.size) = some 1 := by kernel_rfl
theorem ts16 : (Try.prog.info? 16).map (·.size) = some 1 := by kernel_rfl
theorem ts17 : (Try.prog.info? 17).map (·.size) = some 1 := by kernel_rfl
theorem ts18 : (Try.prog.info? 18).map (·.size) = some 1 := by kernel_rfl
theorem ts19 : (Try.prog.info? 19).map (·.size) = some 1 := by kernel_rfl
theorem ts20 : (Try.prog.info? 20).map (·.size) = some 1 := by kernel_rfl
theorem ts21 : (Try.prog.info? 21).map (·.size) = some 1 := by kernel_rfl
theorem ts22 : (Try.prog.info? 22).map (·.size) = some 1 := by kernel_rfl
theorem ts23 : (Try.prog.info? 23).map (·.size) = some 16 := by kernel_rfl
theorem ts24 : (Try.prog.info? 24).map (·.size) = some 16 := by kernel_rfl
theorem ts25 : (Try.prog.info? 25).map (·.size) = some 1 := by kernel_rfl
theorem ts26 : (Try.prog.info? 26).map (·.size) = some 1 := by kernel_rfl
theorem ts27 : (Try.prog.info? 27).map (·.size) = some 1 := by kernel_rfl
theorem ts28 : (Try.prog.info? 28).map (·.size) = some 1 := by kernel_rfl
theorem ts29 : (Try.prog.info? 29).map (·.size) = some 1 := by kernel_rfl
theorem ts31 : (Try.prog.info? 31).map (·.size) = some 1 := by kernel_rfl
theorem ts32 : (Try.prog.info? 32).map (·.size) = some 1 := by kernel_rfl
theorem ts34 : (Try.prog.info? 34).map (·.size) = some 1 := by kernel_rfl
theorem ts35 : (Try.prog.info? 35).map (·.size) = some 1 := by kernel_rfl
theorem ts36 : (Try.prog.info? 36).map (·.size) = some 1 := by kernel_rfl
theorem ts37 : (Try.prog.info? 37).map (·.size) = some 1 := by kernel_rfl
theorem ts38 : (Try.prog.info? 38).map (·.size) = some 1 := by kernel_rfl
theorem ts39 : (Try.prog.info? 39).map (·.size) = some 1 := by kernel_rfl
theorem ts40 : (Try.prog.info? 40).map (·.size) = some 1 := by kernel_rfl
theorem ts41 : (Try.prog.info? 41).map (·.size) = some 1 := by kernel_rfl
theorem ts42 : (Try.prog.info? 42).map (·.size) = some 1 := by kernel_rfl
theorem ts43 : (Try.prog.info? 43).map (·.size) = some 1 := by kernel_rfl
theorem ts44 : (Try.prog.info? 44).map (·.size) = some 1 := by kernel_rfl
theorem ts45 : (Try.prog.info? 45).map (·.size) = some 1 := by kernel_rfl
theorem ts46 : (Try.prog.info? 46).map (·.size) = some 1 := by kernel_rfl
theorem ts47 : (Try.prog.info? 47).map (·.size) = some 1 := by kernel_rfl
theorem ts48 : (Try.prog.info? 48).map (·.size) = some 1 := by kernel_rfl
theorem ts49 : (Try.prog.info? 49).map (·.size) = some 1 := by kernel_rfl
theorem ts50 : (Try.prog.info? 50).map (·.size) = some 2 := by kernel_rfl
theorem ts51 : (Try.prog.info? 51).map (·.size) = some 2 := by kernel_rfl
theorem ts52 : (Try.prog.info? 52).map (·.size) = some 6 := by kernel_rfl
theorem ts53 : (Try.prog.info? 53).map (·.size) = some 6 := by kernel_rfl
theorem ts54 : (Try.prog.info? 54).map (·.size) = some 7 := by kernel_rfl
theorem ts55 : (Try.prog.info? 55).map (·.size) = some 7 := by kernel_rfl
theorem ts56 : (Try.prog.info? 56).map (·.size) = some 1 := by kernel_rfl
theorem ts58 : (Try.prog.info? 58).map (·.size) = some 1 := by kernel_rfl
theorem ts59 : (Try.prog.info? 59).map (·.size) = some 1 := by kernel_rfl
theorem ts60 : (Try.prog.info? 60).map (·.size) = some 1 := by kernel_rfl
theorem ts62 : (Try.prog.info? 62).map (·.size) = some 1 := by kernel_rfl
theorem ts63 : (Try.prog.info? 63).map (·.size) = some 18 := by kernel_rfl
theorem ts64 : (Try.prog.info? 64).map (·.size) = some 18 := by kernel_rfl
theorem ts65 : (Try.prog.info? 65).map (·.size) = some 1 := by kernel_rfl
theorem ts66 : (Try.prog.info? 66).map (·.size) = some 1 := by kernel_rfl
theorem ts67 : (Try.prog.info? 67).map (·.size) = some 1 := by kernel_rfl
theorem ts69 : (Try.prog.info? 69).map (·.size) = some 1 := by kernel_rfl
theorem ts70 : (Try.prog.info? 70).map (·.size) = some 1 := by kernel_rfl
theorem ts71 : (Try.prog.info? 71).map (·.size) = some 1 := by kernel_rfl
theorem ts72 : (Try.prog.info? 72).map (·.size) = some 1 := by kernel_rfl
theorem ts73 : (Try.prog.info? 73).map (·.size) = some 1 := by kernel_rfl
theorem ts74 : (Try.prog.info? 74).map (·.size) = some 1 := by kernel_rfl
theorem ts75 : (Try.prog.info? 75).map (·.size) = some 1 := by kernel_rfl
theorem ts76 : (Try.prog.info? 76).map (·.size) = some 1 := by kernel_rfl
theorem ts77 : (Try.prog.info? 77).map (·.size) = some 6 := by kernel_rfl
theorem ts78 : (Try.prog.info? 78).map (·.size) = some 1 := by kernel_rfl
theorem ts79 : (Try.prog.info? 79).map (·.size) = some 1 := by kernel_rfl
theorem ts81 : (Try.prog.info? 81).map (·.size) = some 1 := by kernel_rfl
theorem ts82 : (Try.prog.info? 82).map (·.size) = some 1 := by kernel_rfl
theorem ts83 : (Try.prog.info? 83).map (·.size) = some 1 := by kernel_rfl
theorem ts84 : (Try.prog.info? 84).map (·.size) = some 1 := by kernel_rfl
theorem ts85 : (Try.prog.info? 85).map (·.size) = some 1 := by kernel_rfl
theorem ts86 : (Try.prog.info? 86).map (·.size) = some 1 := by kernel_rfl
theorem ts87 : (Try.prog.info? 87).map (·.size) = some 1 := by kernel_rfl
theorem ts88 : (Try.prog.info? 88).map (·.size) = some 1 := by kernel_rfl
theorem ts89 : (Try.prog.info? 89).map (·.size) = some 1 := by kernel_rfl
theorem ts90 : (Try.prog.info? 90).map (·.size) = some 9 := by kernel_rfl
theorem ts91 : (Try.prog.info? 91).map (·.size) = some 9 := by kernel_rfl
theorem ts92 : (Try.prog.info? 92).map (·.size) = some 16 := by kernel_rfl
theorem ts93 : (Try.prog.info? 93).map (·.size) = some 16 := by kernel_rfl
theorem ts94 : (Try.prog.info? 94).map (·.size) = some 1 := by kernel_rfl
theorem ts95 : (Try.prog.info? 95).map (·.size) = some 1 := by kernel_rfl
theorem ts96 : (Try.prog.info? 96).map (·.size) = some 1 := by kernel_rfl
theorem ts98 : (Try.prog.info? 98).map (·.size) = some 1 := by kernel_rfl
theorem ts100 : (Try.prog.info? 100).map (·.size) = some 1 := by kernel_rfl
theorem ts101 : (Try.prog.info? 101).map (·.size) = some 1 := by kernel_rfl
theorem ts102 : (Try.prog.info? 102).map (·.size) = some 1 := by kernel_rfl
theorem ts104 : (Try.prog.info? 104).map (·.size) = some 1 := by kernel_rfl
theorem ts105 : (Try.prog.info? 105).map (·.size) = some 1 := by kernel_rfl
theorem ts106 : (Try.prog.info? 106).map (·.size) = some 1 := by kernel_rfl
theorem ts107 : (Try.prog.info? 107).map (·.size) = some 1 := by kernel_rfl
theorem ts108 : (Try.prog.info? 108).map (·.size) = some 1 := by kernel_rfl
theorem ts109 : (Try.prog.info? 109).map (·.size) = some 1 := by kernel_rfl
theorem ts110 : (Try.prog.info? 110).map (·.size) = some 1 := by kernel_rfl
theorem ts111 : (Try.prog.info? 111).map (·.size) = some 1 := by kernel_rfl
theorem ts112 : (Try.prog.info? 112).map (·.size) = some 1 := by kernel_rfl
theorem ts113 : (Try.prog.info? 113).map (·.size) = some 1 := by kernel_rfl
theorem ts114 : (Try.prog.info? 114).map (·.size) = some 1 := by kernel_rfl
theorem ts115 : (Try.prog.info? 115).map (·.size) = some 1 := by kernel_rfl
theorem ts116 : (Try.prog.info? 116).map (·.size) = some 1 := by kernel_rfl
theorem ts117 : (Try.prog.info? 117).map (·.size) = some 9 := by kernel_rfl
theorem ts118 : (Try.prog.info? 118).map (·.size) = some 1 := by kernel_rfl
theorem ts120 : (Try.prog.info? 120).map (·.size) = some 1 := by kernel_rfl
theorem ts121 : (Try.prog.info? 121).map (·.size) = some 1 := by kernel_rfl
theorem ts122 : (Try.prog.info? 122).map (·.size) = some 1 := by kernel_rfl
theorem ts123 : (Try.prog.info? 123).map (·.size) = some 1 := by kernel_rfl
theorem ts125 : (Try.prog.info? 125).map (·.size) = some 1 := by kernel_rfl
theorem ts126 : (Try.prog.info? 126).map (·.size) = some 1 := by kernel_rfl
theorem ts127 : (Try.prog.info? 127).map (·.size) = some 1 := by kernel_rfl
theorem ts128 : (Try.prog.info? 128).map (·.size) = some 1 := by kernel_rfl
theorem ts129 : (Try.prog.info? 129).map (·.size) = some 1 := by kernel_rfl
theorem ts130 : (Try.prog.info? 130).map (·.size) = some 1 := by kernel_rfl
theorem ts131 : (Try.prog.info? 131).map (·.size) = some 1 := by kernel_rfl
theorem ts132 : (Try.prog.info? 132).map (·.size) = some 1 := by kernel_rfl
theorem ts133 : (Try.prog.info? 133).map (·.size) = some 1 := by kernel_rfl
theorem ts134 : (Try.prog.info? 134).map (·.size) = some 3 := by kernel_rfl
theorem ts135 : (Try.prog.info? 135).map (·.size) = some 3 := by kernel_rfl
theorem ts136 : (Try.prog.info? 136).map (·.size) = some 3 := by kernel_rfl
theorem ts137 : (Try.prog.info? 137).map (·.size) = some 3 := by kernel_rfl
theorem ts138 : (Try.prog.info? 138).map (·.size) = some 1 := by kernel_rfl
theorem ts139 : (Try.prog.info? 139).map (·.size) = some 1 := by kernel_rfl
theorem ts140 : (Try.prog.info? 140).map (·.size) = some 1 := by kernel_rfl
theorem ts141 : (Try.prog.info? 141).map (·.size) = some 1 := by kernel_rfl
theorem ts142 : (Try.prog.info? 142).map (·.size) = some 1 := by kernel_rfl
theorem ts143 : (Try.prog.info? 143).map (·.size) = some 1 := by kernel_rfl
theorem ts144 : (Try.prog.info? 144).map (·.size) = some 1 := by kernel_rfl
theorem ts145 : (Try.prog.info? 145).map (·.size) = some 1 := by kernel_rfl
theorem ts146 : (Try.prog.info? 146).map (·.size) = some 1 := by kernel_rfl
theorem ts147 : (Try.prog.info? 147).map (·.size) = some 1 := by kernel_rfl
theorem ts148 : (Try.prog.info? 148).map (·.size) = some 1 := by kernel_rfl
theorem ts149 : (Try.prog.info? 149).map (·.size) = some 1 := by kernel_rfl
theorem ts150 : (Try.prog.info? 150).map (·.size) = some 2 := by kernel_rfl
theorem ts151 : (Try.prog.info? 151).map (·.size) = some 2 := by kernel_rfl
theorem ts152 : (Try.prog.info? 152).map (·.size) = some 1 := by kernel_rfl
theorem ts153 : (Try.prog.info? 153).map (·.size) = some 1 := by kernel_rfl
theorem ts154 : (Try.prog.info? 154).map (·.size) = some 1 := by kernel_rfl
theorem ts155 : (Try.prog.info? 155).map (·.size) = some 1 := by kernel_rfl
theorem ts156 : (Try.prog.info? 156).map (·.size) = some 1 := by kernel_rfl
theorem ts157 : (Try.prog.info? 157).map (·.size) = some 1 := by kernel_rfl
theorem ts158 : (Try.prog.info? 158).map (·.size) = some 1 := by kernel_rfl
theorem ts160 : (Try.prog.info? 160).map (·.size) = some 1 := by kernel_rfl
theorem ts161 : (Try.prog.info? 161).map (·.size) = some 1 := by kernel_rfl
theorem ts162 : (Try.prog.info? 162).map (·.size) = some 1 := by kernel_rfl
theorem ts163 : (Try.prog.info? 163).map (·.size) = some 1 := by kernel_rfl
theorem ts164 : (Try.prog.info? 164).map (·.size) = some 1 := by kernel_rfl
theorem ts165 : (Try.prog.info? 165).map (·.size) = some 1 := by kernel_rfl
theorem ts166 : (Try.prog.info? 166).map (·.size) = some 1 := by kernel_rfl
theorem ts167 : (Try.prog.info? 167).map (·.size) = some 1 := by kernel_rfl
theorem ts168 : (Try.prog.info? 168).map (·.size) = some 1 := by kernel_rfl
theorem ts169 : (Try.prog.info? 169).map (·.size) = some 1 := by kernel_rfl
theorem ts170 : (Try.prog.info? 170).map (·.size) = some 1 := by kernel_rfl
theorem ts171 : (Try.prog.info? 171).map (·.size) = some 9 := by kernel_rfl
theorem ts172 : (Try.prog.info? 172).map (·.size) = some 9 := by kernel_rfl
theorem ts173 : (Try.prog.info? 173).map (·.size) = some 1 := by kernel_rfl
theorem ts174 : (Try.prog.info? 174).map (·.size) = some 1 := by kernel_rfl
theorem ts175 : (Try.prog.info? 175).map (·.size) = some 1 := by kernel_rfl
theorem ts176 : (Try.prog.info? 176).map (·.size) = some 1 := by kernel_rfl
theorem ts177 : (Try.prog.info? 177).map (·.size) = some 1 := by kernel_rfl
theorem ts178 : (Try.prog.info? 178).map (·.size) = some 1 := by kernel_rfl
theorem ts179 : (Try.prog.info? 179).map (·.size) = some 1 := by kernel_rfl
theorem ts180 : (Try.prog.info? 180).map (·.size) = some 9 := by kernel_rfl
theorem ts181 : (Try.prog.info? 181).map (·.size) = some 9 := by kernel_rfl
theorem ts182 : (Try.prog.info? 182).map (·.size) = some 1 := by kernel_rfl
theorem ts183 : (Try.prog.info? 183).map (·.size) = some 1 := by kernel_rfl
theorem ts184 : (Try.prog.info? 184).map (·.size) = some 1 := by kernel_rfl
theorem ts185 : (Try.prog.info? 185).map (·.size) = some 1 := by kernel_rfl
theorem ts186 : (Try.prog.info? 186).map (·.size) = some 3 := by kernel_rfl
theorem ts187 : (Try.prog.info? 187).map (·.size) = some 3 := by kernel_rfl
theorem ts188 : (Try.prog.info? 188).map (·.size) = some 1 := by kernel_rfl
theorem ts189 : (Try.prog.info? 189).map (·.size) = some 1 := by kernel_rfl
theorem ts190 : (Try.prog.info? 190).map (·.size) = some 1 := by kernel_rfl
theorem ts191 : (Try.prog.info? 191).map (·.size) = some 1 := by kernel_rfl
theorem ts192 : (Try.prog.info? 192).map (·.size) = some 2 := by kernel_rfl
theorem ts193 : (Try.prog.info? 193).map (·.size) = some 2 := by kernel_rfl
theorem ts195 : (Try.prog.info? 195).map (·.size) = some 1 := by kernel_rfl
theorem ts196 : (Try.prog.info? 196).map (·.size) = some 1 := by kernel_rfl
theorem ts197 : (Try.prog.info? 197).map (·.size) = some 1 := by kernel_rfl
theorem ts198 : (Try.prog.info? 198).map (·.size) = some 1 := by kernel_rfl
theorem ts199 : (Try.prog.info? 199).map (·.size) = some 1 := by kernel_rfl
theorem ts200 : (Try.prog.info? 200).map (·.size) = some 1 := by kernel_rfl
theorem ts201 : (Try.prog.info? 201).map (·.size) = some 1 := by kernel_rfl
theorem ts202 : (Try.prog.info? 202).map (·.size) = some 1 := by kernel_rfl
theorem ts203 : (Try.prog.info? 203).map (·.size) = some 1 := by kernel_rfl
theorem ts204 : (Try.prog.info? 204).map (·.size) = some 1 := by kernel_rfl
theorem ts205 : (Try.prog.info? 205).map (·.size) = some 1 := by kernel_rfl
theorem ts206 : (Try.prog.info? 206).map (·.size) = some 1 := by kernel_rfl
theorem ts207 : (Try.prog.info? 207).map (·.size) = some 1 := by kernel_rfl
theorem ts208 : (Try.prog.info? 208).map (·.size) = some 1 := by kernel_rfl
theorem ts209 : (Try.prog.info? 209).map (·.size) = some 1 := by kernel_rfl
theorem ts210 : (Try.prog.info? 210).map (·.size) = some 1 := by kernel_rfl
theorem ts211 : (Try.prog.info? 211).map (·.size) = some 1 := by kernel_rfl
theorem ts212 : (Try.prog.info? 212).map (·.size) = some 1 := by kernel_rfl
theorem ts213 : (Try.prog.info? 213).map (·.size) = some 1 := by kernel_rfl
theorem ts215 : (Try.prog.info? 215).map (·.size) = some 1 := by kernel_rfl
theorem ts216 : (Try.prog.info? 216).map (·.size) = some 1 := by kernel_rfl
theorem ts217 : (Try.prog.info? 217).map (·.size) = some 1 := by kernel_rfl
theorem ts218 : (Try.prog.info? 218).map (·.size) = some 1 := by kernel_rfl
theorem ts220 : (Try.prog.info? 220).map (·.size) = some 1 := by kernel_rfl
theorem ts221 : (Try.prog.info? 221).map (·.size) = some 1 := by kernel_rfl
theorem ts222 : (Try.prog.info? 222).map (·.size) = some 1 := by kernel_rfl
theorem ts223 : (Try.prog.info? 223).map (·.size) = some 1 := by kernel_rfl
theorem ts224 : (Try.prog.info? 224).map (·.size) = some 1 := by kernel_rfl
theorem ts225 : (Try.prog.info? 225).map (·.size) = some 1 := by kernel_rfl
theorem ts226 : (Try.prog.info? 226).map (·.size) = some 1 := by kernel_rfl
theorem ts227 : (Try.prog.info? 227).map (·.size) = some 1 := by kernel_rfl
theorem ts228 : (Try.prog.info? 228).map (·.size) = some 1 := by kernel_rfl
theorem ts229 : (Try.prog.info? 229).map (·.size) = some 1 := by kernel_rfl
theorem ts230 : (Try.prog.info? 230).map (·.size) = some 1 := by kernel_rfl
theorem ts231 : (Try.prog.info? 231).map (·.size) = some 1 := by kernel_rfl
theorem ts232 : (Try.prog.info? 232).map (·.size) = some 1 := by kernel_rfl
theorem ts233 : (Try.prog.info? 233).map (·.size) = some 1 := by kernel_rfl
theorem ts234 : (Try.prog.info? 234).map (·.size) = some 1 := by kernel_rfl
theorem ts235 : (Try.prog.info? 235).map (·.size) = some 1 := by kernel_rfl
theorem ts236 : (Try.prog.info? 236).map (·.size) = some 1 := by kernel_rfl
theorem ts237 : (Try.prog.info? 237).map (·.size) = some 1 := by kernel_rfl
theorem ts238 : (Try.prog.info? 238).map (·.size) = some 1 := by kernel_rfl
theorem ts239 : (Try.prog.info? 239).map (·.size) = some 1 := by kernel_rfl
theorem ts240 : (Try.prog.info? 240).map (·.size) = some 1 := by kernel_rfl
theorem ts241 : (Try.prog.info? 241).map (·.size) = some 1 := by kernel_rfl
theorem ts242 : (Try.prog.info? 242).map (·.size) = some 1 := by kernel_rfl
theorem ts243 : (Try.prog.info? 243).map (·.size) = some 1 := by kernel_rfl
theorem ts244 : (Try.prog.info? 244).map (·.size) = some 1 := by kernel_rfl
theorem ts245 : (Try.prog.info? 245).map (·.size) = some 1 := by kernel_rfl
theorem ts246 : (Try.prog.info? 246).map (·.size) = some 1 := by kernel_rfl
theorem ts247 : (Try.prog.info? 247).map (·.size) = some 1 := by kernel_rfl
theorem ts248 : (Try.prog.info? 248).map (·.size) = some 1 := by kernel_rfl
theorem ts249 : (Try.prog.info? 249).map (·.size) = some 1 := by kernel_rfl
theorem ts251 : (Try.prog.info? 251).map (·.size) = some 1 := by kernel_rfl
theorem ts252 : (Try.prog.info? 252).map (·.size) = some 1 := by kernel_rfl
theorem ts253 : (Try.prog.info? 253).map (·.size) = some 1 := by kernel_rfl
theorem ts254 : (Try.prog.info? 254).map (·.size) = some 1 := by kernel_rfl
theorem ts255 : (Try.prog.info? 255).map (·.size) = some 1 := by kernel_rfl
theorem ts256 : (Try.prog.info? 256).map (·.size) = some 1 := by kernel_rfl
theorem ts257 : (Try.prog.info? 257).map (·.size) = some 4 := by kernel_rfl
theorem ts258 : (Try.prog.info? 258).map (·.size) = some 4 := by kernel_rfl
theorem ts259 : (Try.prog.info? 259).map (·.size) = some 0 := by kernel_rfl
theorem ts260 : (Try.prog.info? 260).map (·.size) = some 0 := by kernel_rfl
theorem ts261 : (Try.prog.info? 261).map (·.size) = some 0 := by kernel_rfl
theorem ts262 : (Try.prog.info? 262).map (·.size) = some 1 := by kernel_rfl
theorem ts263 : (Try.prog.info? 263).map (·.size) = some 1 := by kernel_rfl
theorem ts264 : (Try.prog.info? 264).map (·.size) = some 1 := by kernel_rfl
theorem ts265 : (Try.prog.info? 265).map (·.size) = some 1 := by kernel_rfl
theorem ts266 : (Try.prog.info? 266).map (·.size) = some 1 := by kernel_rfl
theorem ts267 : (Try.prog.info? 267).map (·.size) = some 1 := by kernel_rfl
theorem ts268 : (Try.prog.info? 268).map (·.size) = some 11 := by kernel_rfl
theorem ts269 : (Try.prog.info? 269).map (·.size) = some 11 := by kernel_rfl
theorem ts270 : (Try.prog.info? 270).map (·.size) = some 1 := by kernel_rfl
theorem el2 : E.El Try.prog 2 1 := by unfold E.El; kernel_rfl
theorem el3 : E.El Try.prog 3 1 := by unfold E.El; kernel_rfl
theorem el4 : E.El Try.prog 4 1 := by unfold E.El; kernel_rfl
theorem el5 : E.El Try.prog 5 1 := by unfold E.El; kernel_rfl
theorem el24 : E.El Try.prog 24 16 := by unfold E.El; kernel_rfl
theorem el25 : E.El Try.prog 25 1 := by unfold E.El; kernel_rfl
theorem el53 : E.El Try.prog 53 6 := by unfold E.El; kernel_rfl
theorem el55 : E.El Try.prog 55 7 := by unfold E.El; kernel_rfl
theorem el64 : E.El Try.prog 64 18 := by unfold E.El; kernel_rfl
theorem el77 : E.El Try.prog 77 6 := by unfold E.El; kernel_rfl
theorem el93 : E.El Try.prog 93 16 := by unfold E.El; kernel_rfl
theorem el137 : E.El Try.prog 137 3 := by unfold E.El; kernel_rfl
theorem el181 : E.El Try.prog 181 9 := by unfold E.El; kernel_rfl
theorem el193 : E.El Try.prog 193 2 := by unfold E.El; kernel_rfl
theorem bl8 : E.Bld Try.prog 8 [.int .i64 0, .int .i64 0, .bool false, .int .u8 0] #[(0, 1), (1, 1), (2, 1), (3, 1)] := ⟨.agg #[.int .i64 0, .int .i64 0, .bool false, .int .u8 0], _, by kernel_rfl, rfl, Try.underlying8, by kernel_rfl⟩
theorem bl14 : E.Bld Try.prog 14 [.string ⟨#[]⟩, .int .u64 0] #[(0, 1), (1, 1)] := ⟨.agg #[.string ⟨#[]⟩, .int .u64 0], _, by kernel_rfl, rfl, Try.underlying14, by kernel_rfl⟩
theorem bl19 : E.Bld Try.prog 19 [.pointer none] #[(0, 1)] := ⟨.agg #[.pointer none], _, by kernel_rfl, rfl, Try.underlying19, by kernel_rfl⟩
theorem bl51 : E.Bld Try.prog 51 [.int .i64 0, .int .u8 0] #[(0, 1), (1, 1)] := ⟨.agg #[.int .i64 0, .int .u8 0], _, by kernel_rfl, rfl, Try.underlying51, by kernel_rfl⟩
theorem bl53 : E.Bld Try.prog 53 [.int .i64 0, .int .i64 0, .int .u8 0, .int .i64 0, .int .u8 0, .slice none 0 0] #[(0, 1), (1, 2), (3, 2), (5, 1)] := ⟨.agg #[.int .i64 0, .int .i64 0, .int .u8 0, .int .i64 0, .int .u8 0, .slice none 0 0], _, by kernel_rfl, rfl, Try.underlying53, by kernel_rfl⟩
theorem bl55 : E.Bld Try.prog 55 [.int .i64 0, .int .i64 0, .int .i64 0, .int .u8 0, .int .i64 0, .int .u8 0, .slice none 0 0] #[(0, 1), (1, 6)] := ⟨.agg #[.int .i64 0, .int .i64 0, .int .i64 0, .int .u8 0, .int .i64 0, .int .u8 0, .slice none 0 0], _, by kernel_rfl, rfl, Try.underlying55, by kernel_rfl⟩
theorem bl64 : E.Bld Try.prog 64 [.int .u8 0, .int .u8 0, .int .u8 0, .int .u8 0, .int .u8 0, .int .u8 0, .int .u8 0, .int .u8 0, .int .u8 0, .int .u8 0, .int .u8 0, .int .u8 0, .int .u8 0, .int .u8 0, .int .u8 0, .int .u8 0, .string ⟨#[]⟩, .bool false] #[(0, 16), (16, 1), (17, 1)] := ⟨.agg #[.int .u8 0, .int .u8 0, .int .u8 0, .int .u8 0, .int .u8 0, .int .u8 0, .int .u8 0, .int .u8 0, .int .u8 0, .int .u8 0, .int .u8 0, .int .u8 0, .int .u8 0, .int .u8 0, .int .u8 0, .int .u8 0, .string ⟨#[]⟩, .bool false], _, by kernel_rfl, rfl, Try.underlying64, by kernel_rfl⟩
theorem bl74 : E.Bld Try.prog 74 [.slice none 0 0] #[(0, 1)] := ⟨.agg #[.slice none 0 0], _, by kernel_rfl, rfl, Try.underlying74, by kernel_rfl⟩
theorem bl77 : E.Bld Try.prog 77 [.int .i64 0, .int .i64 0, .int .u8 0, .int .i64 0, .int .u8 0, .slice none 0 0] #[(0, 1), (1, 2), (3, 2), (5, 1)] := ⟨.agg #[.int .i64 0, .int .i64 0, .int .u8 0, .int .i64 0, .int .u8 0, .slice none 0 0], _, by kernel_rfl, rfl, Try.underlying77, by kernel_rfl⟩
theorem bl91 : E.Bld Try.prog 91 [.int .i64 0, .int .i64 0, .int .i64 0, .int .u8 0, .int .i64 0, .int .u8 0, .slice none 0 0, .bool false, .slice none 0 0] #[(0, 1), (1, 1), (2, 2), (4, 2), (6, 1), (7, 1), (8, 1)] := ⟨.agg #[.int .i64 0, .int .i64 0, .int .i64 0, .int .u8 0, .int .i64 0, .int .u8 0, .slice none 0 0, .bool false, .slice none 0 0], _, by kernel_rfl, rfl, Try.underlying91, by kernel_rfl⟩
theorem bl93 : E.Bld Try.prog 93 [.int .i64 0, .int .i64 0, .int .i64 0, .int .u8 0, .slice none 0 0, .int .i64 0, .bool false, .int .i64 0, .int .i64 0, .int .i64 0, .int .u8 0, .int .i64 0, .int .u8 0, .slice none 0 0, .bool false, .slice none 0 0] #[(0, 1), (1, 1), (2, 2), (4, 1), (5, 1), (6, 1), (7, 9)] := ⟨.agg #[.int .i64 0, .int .i64 0, .int .i64 0, .int .u8 0, .slice none 0 0, .int .i64 0, .bool false, .int .i64 0, .int .i64 0, .int .i64 0, .int .u8 0, .int .i64 0, .int .u8 0, .slice none 0 0, .bool false, .slice none 0 0], _, by kernel_rfl, rfl, Try.underlying93, by kernel_rfl⟩
theorem bl114 : E.Bld Try.prog 114 [.slice none 0 0] #[(0, 1)] := ⟨.agg #[.slice none 0 0], _, by kernel_rfl, rfl, Try.underlying114, by kernel_rfl⟩
theorem bl117 : E.Bld Try.prog 117 [.int .i64 0, .int .i64 0, .int .i64 0, .int .u8 0, .int .i64 0, .int .u8 0, .slice none 0 0, .bool false, .slice none 0 0] #[(0, 1), (1, 1), (2, 2), (4, 2), (6, 1), (7, 1), (8, 1)] := ⟨.agg #[.int .i64 0, .int .i64 0, .int .i64 0, .int .u8 0, .int .i64 0, .int .u8 0, .slice none 0 0, .bool false, .slice none 0 0], _, by kernel_rfl, rfl, Try.underlying117, by kernel_rfl⟩
theorem bl135 : E.Bld Try.prog 135 [.int .i64 0, .int .i64 0, .slice none 0 0] #[(0, 1), (1, 1), (2, 1)] := ⟨.agg #[.int .i64 0, .int .i64 0, .slice none 0 0], _, by kernel_rfl, rfl, Try.underlying135, by kernel_rfl⟩
theorem bl137 : E.Bld Try.prog 137 [.int .i64 0, .int .i64 0, .int .i64 0] #[(0, 1), (1, 1), (2, 1)] := ⟨.agg #[.int .i64 0, .int .i64 0, .int .i64 0], _, by kernel_rfl, rfl, Try.underlying137, by kernel_rfl⟩
theorem bl143 : E.Bld Try.prog 143 [.slice none 0 0] #[(0, 1)] := ⟨.agg #[.slice none 0 0], _, by kernel_rfl, rfl, Try.underlying143, by kernel_rfl⟩
theorem bl145 : E.Bld Try.prog 145 [.slice none 0 0] #[(0, 1)] := ⟨.agg #[.slice none 0 0], _, by kernel_rfl, rfl, Try.underlying145, by kernel_rfl⟩
theorem bl151 : E.Bld Try.prog 151 [.map none, .map none] #[(0, 1), (1, 1)] := ⟨.agg #[.map none, .map none], _, by kernel_rfl, rfl, Try.underlying151, by kernel_rfl⟩
theorem bl166 : E.Bld Try.prog 166 [.map none] #[(0, 1)] := ⟨.agg #[.map none], _, by kernel_rfl, rfl, Try.underlying166, by kernel_rfl⟩
theorem bl172 : E.Bld Try.prog 172 [.int .i64 0, .int .u8 0, .slice none 0 0, .map none, .bool false, .bool false, .int .i64 0, .int .u8 0, .map none] #[(0, 2), (2, 1), (3, 1), (4, 1), (5, 1), (6, 2), (8, 1)] := ⟨.agg #[.int .i64 0, .int .u8 0, .slice none 0 0, .map none, .bool false, .bool false, .int .i64 0, .int .u8 0, .map none], _, by kernel_rfl, rfl, Try.underlying172, by kernel_rfl⟩
theorem bl181 : E.Bld Try.prog 181 [.int .i64 0, .int .i64 0, .int .u8 0, .slice none 0 0, .slice none 0 0, .int .i64 0, .int .i64 0, .int .u8 0, .slice none 0 0] #[(0, 1), (1, 2), (3, 1), (4, 1), (5, 1), (6, 2), (8, 1)] := ⟨.agg #[.int .i64 0, .int .i64 0, .int .u8 0, .slice none 0 0, .slice none 0 0, .int .i64 0, .int .i64 0, .int .u8 0, .slice none 0 0], _, by kernel_rfl, rfl, Try.underlying181, by kernel_rfl⟩
theorem bl187 : E.Bld Try.prog 187 [.int .i64 0, .int .i64 0, .map none] #[(0, 1), (1, 1), (2, 1)] := ⟨.agg #[.int .i64 0, .int .i64 0, .map none], _, by kernel_rfl, rfl, Try.underlying187, by kernel_rfl⟩
theorem bl193 : E.Bld Try.prog 193 [.int .i64 0, .int .i64 0] #[(0, 1), (1, 1)] := ⟨.agg #[.int .i64 0, .int .i64 0], _, by kernel_rfl, rfl, Try.underlying193, by kernel_rfl⟩
theorem bl258 : E.Bld Try.prog 258 [.pointer none, .pointer none, .pointer none, .string ⟨#[]⟩] #[(0, 1), (1, 1), (2, 1), (3, 1)] := ⟨.agg #[.pointer none, .pointer none, .pointer none, .string ⟨#[]⟩], _, by kernel_rfl, rfl, Try.underlying258, by kernel_rfl⟩
theorem bl261 : E.Bld Try.prog 261 [] #[(0, 0)] := ⟨.agg #[], _, by kernel_rfl, rfl, Try.underlying261, by kernel_rfl⟩
theorem fo7_0 : E.FOff Try.prog 7 0 0 := ⟨_, _, Try.underlying7, rfl, rfl, _, ts2⟩
theorem fo7_1 : E.FOff Try.prog 7 1 1 := ⟨_, _, Try.underlying7, rfl, rfl, _, ts3⟩
theorem fo7_2 : E.FOff Try.prog 7 2 2 := ⟨_, _, Try.underlying7, rfl, rfl, _, ts4⟩
theorem fo7_3 : E.FOff Try.prog 7 3 3 := ⟨_, _, Try.underlying7, rfl, rfl, _, ts6⟩
theorem fo8_0 : E.FOff Try.prog 8 0 0 := ⟨_, _, Try.underlying8, rfl, rfl, _, ts2⟩
theorem fo8_1 : E.FOff Try.prog 8 1 1 := ⟨_, _, Try.underlying8, rfl, rfl, _, ts3⟩
theorem fo8_2 : E.FOff Try.prog 8 2 2 := ⟨_, _, Try.underlying8, rfl, rfl, _, ts4⟩
theorem fo8_3 : E.FOff Try.prog 8 3 3 := ⟨_, _, Try.underlying8, rfl, rfl, _, ts6⟩
theorem fo13_0 : E.FOff Try.prog 13 0 0 := ⟨_, _, Try.underlying13, rfl, rfl, _, ts9⟩
theorem fo13_1 : E.FOff Try.prog 13 1 1 := ⟨_, _, Try.underlying13, rfl, rfl, _, ts12⟩
theorem fo14_0 : E.FOff Try.prog 14 0 0 := ⟨_, _, Try.underlying14, rfl, rfl, _, ts9⟩
theorem fo14_1 : E.FOff Try.prog 14 1 1 := ⟨_, _, Try.underlying14, rfl, rfl, _, ts12⟩
theorem fo18_0 : E.FOff Try.prog 18 0 0 := ⟨_, _, Try.underlying18, rfl, rfl, _, ts17⟩
theorem fo19_0 : E.FOff Try.prog 19 0 0 := ⟨_, _, Try.underlying19, rfl, rfl, _, ts17⟩
theorem fo50_0 : E.FOff Try.prog 50 0 0 := ⟨_, _, Try.underlying50, rfl, rfl, _, ts2⟩
theorem fo50_1 : E.FOff Try.prog 50 1 1 := ⟨_, _, Try.underlying50, rfl, rfl, _, ts5⟩
theorem fo51_0 : E.FOff Try.prog 51 0 0 := ⟨_, _, Try.underlying51, rfl, rfl, _, ts2⟩
theorem fo51_1 : E.FOff Try.prog 51 1 1 := ⟨_, _, Try.underlying51, rfl, rfl, _, ts5⟩
theorem fo52_0 : E.FOff Try.prog 52 0 0 := ⟨_, _, Try.underlying52, rfl, rfl, _, ts2⟩
theorem fo52_1 : E.FOff Try.prog 52 1 1 := ⟨_, _, Try.underlying52, rfl, rfl, _, ts51⟩
theorem fo52_2 : E.FOff Try.prog 52 2 3 := ⟨_, _, Try.underlying52, rfl, rfl, _, ts51⟩
theorem fo52_3 : E.FOff Try.prog 52 3 5 := ⟨_, _, Try.underlying52, rfl, rfl, _, ts25⟩
theorem fo53_0 : E.FOff Try.prog 53 0 0 := ⟨_, _, Try.underlying53, rfl, rfl, _, ts2⟩
theorem fo53_1 : E.FOff Try.prog 53 1 1 := ⟨_, _, Try.underlying53, rfl, rfl, _, ts51⟩
theorem fo53_2 : E.FOff Try.prog 53 2 3 := ⟨_, _, Try.underlying53, rfl, rfl, _, ts51⟩
theorem fo53_3 : E.FOff Try.prog 53 3 5 := ⟨_, _, Try.underlying53, rfl, rfl, _, ts25⟩
theorem fo54_0 : E.FOff Try.prog 54 0 0 := ⟨_, _, Try.underlying54, rfl, rfl, _, ts3⟩
theorem fo54_1 : E.FOff Try.prog 54 1 1 := ⟨_, _, Try.underlying54, rfl, rfl, _, ts53⟩
theorem fo55_0 : E.FOff Try.prog 55 0 0 := ⟨_, _, Try.underlying55, rfl, rfl, _, ts3⟩
theorem fo55_1 : E.FOff Try.prog 55 1 1 := ⟨_, _, Try.underlying55, rfl, rfl, _, ts53⟩
theorem fo63_0 : E.FOff Try.prog 63 0 0 := ⟨_, _, Try.underlying63, rfl, rfl, _, ts24⟩
theorem fo63_1 : E.FOff Try.prog 63 1 16 := ⟨_, _, Try.underlying63, rfl, rfl, _, ts9⟩
theorem fo63_2 : E.FOff Try.prog 63 2 17 := ⟨_, _, Try.underlying63, rfl, rfl, _, ts4⟩
theorem fo64_0 : E.FOff Try.prog 64 0 0 := ⟨_, _, Try.underlying64, rfl, rfl, _, ts24⟩
theorem fo64_1 : E.FOff Try.prog 64 1 16 := ⟨_, _, Try.underlying64, rfl, rfl, _, ts9⟩
theorem fo64_2 : E.FOff Try.prog 64 2 17 := ⟨_, _, Try.underlying64, rfl, rfl, _, ts4⟩
theorem fo73_0 : E.FOff Try.prog 73 0 0 := ⟨_, _, Try.underlying73, rfl, rfl, _, ts72⟩
theorem fo74_0 : E.FOff Try.prog 74 0 0 := ⟨_, _, Try.underlying74, rfl, rfl, _, ts72⟩
theorem fo77_0 : E.FOff Try.prog 77 0 0 := ⟨_, _, Try.underlying77, rfl, rfl, _, ts2⟩
theorem fo77_1 : E.FOff Try.prog 77 1 1 := ⟨_, _, Try.underlying77, rfl, rfl, _, ts51⟩
theorem fo77_2 : E.FOff Try.prog 77 2 3 := ⟨_, _, Try.underlying77, rfl, rfl, _, ts51⟩
theorem fo77_3 : E.FOff Try.prog 77 3 5 := ⟨_, _, Try.underlying77, rfl, rfl, _, ts25⟩
theorem fo90_0 : E.FOff Try.prog 90 0 0 := ⟨_, _, Try.underlying90, rfl, rfl, _, ts3⟩
theorem fo90_1 : E.FOff Try.prog 90 1 1 := ⟨_, _, Try.underlying90, rfl, rfl, _, ts2⟩
theorem fo90_2 : E.FOff Try.prog 90 2 2 := ⟨_, _, Try.underlying90, rfl, rfl, _, ts51⟩
theorem fo90_3 : E.FOff Try.prog 90 3 4 := ⟨_, _, Try.underlying90, rfl, rfl, _, ts51⟩
theorem fo90_4 : E.FOff Try.prog 90 4 6 := ⟨_, _, Try.underlying90, rfl, rfl, _, ts25⟩
theorem fo90_5 : E.FOff Try.prog 90 5 7 := ⟨_, _, Try.underlying90, rfl, rfl, _, ts4⟩
theorem fo90_6 : E.FOff Try.prog 90 6 8 := ⟨_, _, Try.underlying90, rfl, rfl, _, ts42⟩
theorem fo91_0 : E.FOff Try.prog 91 0 0 := ⟨_, _, Try.underlying91, rfl, rfl, _, ts3⟩
theorem fo91_1 : E.FOff Try.prog 91 1 1 := ⟨_, _, Try.underlying91, rfl, rfl, _, ts2⟩
theorem fo91_2 : E.FOff Try.prog 91 2 2 := ⟨_, _, Try.underlying91, rfl, rfl, _, ts51⟩
theorem fo91_3 : E.FOff Try.prog 91 3 4 := ⟨_, _, Try.underlying91, rfl, rfl, _, ts51⟩
theorem fo91_4 : E.FOff Try.prog 91 4 6 := ⟨_, _, Try.underlying91, rfl, rfl, _, ts25⟩
theorem fo91_5 : E.FOff Try.prog 91 5 7 := ⟨_, _, Try.underlying91, rfl, rfl, _, ts4⟩
theorem fo91_6 : E.FOff Try.prog 91 6 8 := ⟨_, _, Try.underlying91, rfl, rfl, _, ts42⟩
theorem fo92_0 : E.FOff Try.prog 92 0 0 := ⟨_, _, Try.underlying92, rfl, rfl, _, ts3⟩
theorem fo92_1 : E.FOff Try.prog 92 1 1 := ⟨_, _, Try.underlying92, rfl, rfl, _, ts2⟩
theorem fo92_2 : E.FOff Try.prog 92 2 2 := ⟨_, _, Try.underlying92, rfl, rfl, _, ts51⟩
theorem fo92_3 : E.FOff Try.prog 92 3 4 := ⟨_, _, Try.underlying92, rfl, rfl, _, ts42⟩
theorem fo92_4 : E.FOff Try.prog 92 4 5 := ⟨_, _, Try.underlying92, rfl, rfl, _, ts3⟩
theorem fo92_5 : E.FOff Try.prog 92 5 6 := ⟨_, _, Try.underlying92, rfl, rfl, _, ts4⟩
theorem fo92_6 : E.FOff Try.prog 92 6 7 := ⟨_, _, Try.underlying92, rfl, rfl, _, ts91⟩
theorem fo93_0 : E.FOff Try.prog 93 0 0 := ⟨_, _, Try.underlying93, rfl, rfl, _, ts3⟩
theorem fo93_1 : E.FOff Try.prog 93 1 1 := ⟨_, _, Try.underlying93, rfl, rfl, _, ts2⟩
theorem fo93_2 : E.FOff Try.prog 93 2 2 := ⟨_, _, Try.underlying93, rfl, rfl, _, ts51⟩
theorem fo93_3 : E.FOff Try.prog 93 3 4 := ⟨_, _, Try.underlying93, rfl, rfl, _, ts42⟩
theorem fo93_4 : E.FOff Try.prog 93 4 5 := ⟨_, _, Try.underlying93, rfl, rfl, _, ts3⟩
theorem fo93_5 : E.FOff Try.prog 93 5 6 := ⟨_, _, Try.underlying93, rfl, rfl, _, ts4⟩
theorem fo93_6 : E.FOff Try.prog 93 6 7 := ⟨_, _, Try.underlying93, rfl, rfl, _, ts91⟩
theorem fo113_0 : E.FOff Try.prog 113 0 0 := ⟨_, _, Try.underlying113, rfl, rfl, _, ts112⟩
theorem fo114_0 : E.FOff Try.prog 114 0 0 := ⟨_, _, Try.underlying114, rfl, rfl, _, ts112⟩
theorem fo117_0 : E.FOff Try.prog 117 0 0 := ⟨_, _, Try.underlying117, rfl, rfl, _, ts3⟩
theorem fo117_1 : E.FOff Try.prog 117 1 1 := ⟨_, _, Try.underlying117, rfl, rfl, _, ts2⟩
theorem fo117_2 : E.FOff Try.prog 117 2 2 := ⟨_, _, Try.underlying117, rfl, rfl, _, ts51⟩
theorem fo117_3 : E.FOff Try.prog 117 3 4 := ⟨_, _, Try.underlying117, rfl, rfl, _, ts51⟩
theorem fo117_4 : E.FOff Try.prog 117 4 6 := ⟨_, _, Try.underlying117, rfl, rfl, _, ts25⟩
theorem fo117_5 : E.FOff Try.prog 117 5 7 := ⟨_, _, Try.underlying117, rfl, rfl, _, ts4⟩
theorem fo117_6 : E.FOff Try.prog 117 6 8 := ⟨_, _, Try.underlying117, rfl, rfl, _, ts42⟩
theorem fo134_0 : E.FOff Try.prog 134 0 0 := ⟨_, _, Try.underlying134, rfl, rfl, _, ts3⟩
theorem fo134_1 : E.FOff Try.prog 134 1 1 := ⟨_, _, Try.underlying134, rfl, rfl, _, ts2⟩
theorem fo134_2 : E.FOff Try.prog 134 2 2 := ⟨_, _, Try.underlying134, rfl, rfl, _, ts133⟩
theorem fo135_0 : E.FOff Try.prog 135 0 0 := ⟨_, _, Try.underlying135, rfl, rfl, _, ts3⟩
theorem fo135_1 : E.FOff Try.prog 135 1 1 := ⟨_, _, Try.underlying135, rfl, rfl, _, ts2⟩
theorem fo135_2 : E.FOff Try.prog 135 2 2 := ⟨_, _, Try.underlying135, rfl, rfl, _, ts133⟩
theorem fo136_0 : E.FOff Try.prog 136 0 0 := ⟨_, _, Try.underlying136, rfl, rfl, _, ts3⟩
theorem fo136_1 : E.FOff Try.prog 136 1 1 := ⟨_, _, Try.underlying136, rfl, rfl, _, ts2⟩
theorem fo136_2 : E.FOff Try.prog 136 2 2 := ⟨_, _, Try.underlying136, rfl, rfl, _, ts2⟩
theorem fo137_0 : E.FOff Try.prog 137 0 0 := ⟨_, _, Try.underlying137, rfl, rfl, _, ts3⟩
theorem fo137_1 : E.FOff Try.prog 137 1 1 := ⟨_, _, Try.underlying137, rfl, rfl, _, ts2⟩
theorem fo137_2 : E.FOff Try.prog 137 2 2 := ⟨_, _, Try.underlying137, rfl, rfl, _, ts2⟩
theorem fo142_0 : E.FOff Try.prog 142 0 0 := ⟨_, _, Try.underlying142, rfl, rfl, _, ts22⟩
theorem fo143_0 : E.FOff Try.prog 143 0 0 := ⟨_, _, Try.underlying143, rfl, rfl, _, ts22⟩
theorem fo144_0 : E.FOff Try.prog 144 0 0 := ⟨_, _, Try.underlying144, rfl, rfl, _, ts22⟩
theorem fo145_0 : E.FOff Try.prog 145 0 0 := ⟨_, _, Try.underlying145, rfl, rfl, _, ts22⟩
theorem fo150_0 : E.FOff Try.prog 150 0 0 := ⟨_, _, Try.underlying150, rfl, rfl, _, ts148⟩
theorem fo150_1 : E.FOff Try.prog 150 1 1 := ⟨_, _, Try.underlying150, rfl, rfl, _, ts149⟩
theorem fo151_0 : E.FOff Try.prog 151 0 0 := ⟨_, _, Try.underlying151, rfl, rfl, _, ts148⟩
theorem fo151_1 : E.FOff Try.prog 151 1 1 := ⟨_, _, Try.underlying151, rfl, rfl, _, ts149⟩
theorem fo165_0 : E.FOff Try.prog 165 0 0 := ⟨_, _, Try.underlying165, rfl, rfl, _, ts164⟩
theorem fo166_0 : E.FOff Try.prog 166 0 0 := ⟨_, _, Try.underlying166, rfl, rfl, _, ts164⟩
theorem fo171_0 : E.FOff Try.prog 171 0 0 := ⟨_, _, Try.underlying171, rfl, rfl, _, ts51⟩
theorem fo171_1 : E.FOff Try.prog 171 1 2 := ⟨_, _, Try.underlying171, rfl, rfl, _, ts42⟩
theorem fo171_2 : E.FOff Try.prog 171 2 3 := ⟨_, _, Try.underlying171, rfl, rfl, _, ts170⟩
theorem fo171_3 : E.FOff Try.prog 171 3 4 := ⟨_, _, Try.underlying171, rfl, rfl, _, ts4⟩
theorem fo171_4 : E.FOff Try.prog 171 4 5 := ⟨_, _, Try.underlying171, rfl, rfl, _, ts4⟩
theorem fo171_5 : E.FOff Try.prog 171 5 6 := ⟨_, _, Try.underlying171, rfl, rfl, _, ts51⟩
theorem fo171_6 : E.FOff Try.prog 171 6 8 := ⟨_, _, Try.underlying171, rfl, rfl, _, ts170⟩
theorem fo172_0 : E.FOff Try.prog 172 0 0 := ⟨_, _, Try.underlying172, rfl, rfl, _, ts51⟩
theorem fo172_1 : E.FOff Try.prog 172 1 2 := ⟨_, _, Try.underlying172, rfl, rfl, _, ts42⟩
theorem fo172_2 : E.FOff Try.prog 172 2 3 := ⟨_, _, Try.underlying172, rfl, rfl, _, ts170⟩
theorem fo172_3 : E.FOff Try.prog 172 3 4 := ⟨_, _, Try.underlying172, rfl, rfl, _, ts4⟩
theorem fo172_4 : E.FOff Try.prog 172 4 5 := ⟨_, _, Try.underlying172, rfl, rfl, _, ts4⟩
theorem fo172_5 : E.FOff Try.prog 172 5 6 := ⟨_, _, Try.underlying172, rfl, rfl, _, ts51⟩
theorem fo172_6 : E.FOff Try.prog 172 6 8 := ⟨_, _, Try.underlying172, rfl, rfl, _, ts170⟩
theorem fo180_0 : E.FOff Try.prog 180 0 0 := ⟨_, _, Try.underlying180, rfl, rfl, _, ts2⟩
theorem fo180_1 : E.FOff Try.prog 180 1 1 := ⟨_, _, Try.underlying180, rfl, rfl, _, ts51⟩
theorem fo180_2 : E.FOff Try.prog 180 2 3 := ⟨_, _, Try.underlying180, rfl, rfl, _, ts42⟩
theorem fo180_3 : E.FOff Try.prog 180 3 4 := ⟨_, _, Try.underlying180, rfl, rfl, _, ts89⟩
theorem fo180_4 : E.FOff Try.prog 180 4 5 := ⟨_, _, Try.underlying180, rfl, rfl, _, ts3⟩
theorem fo180_5 : E.FOff Try.prog 180 5 6 := ⟨_, _, Try.underlying180, rfl, rfl, _, ts51⟩
theorem fo180_6 : E.FOff Try.prog 180 6 8 := ⟨_, _, Try.underlying180, rfl, rfl, _, ts89⟩
theorem fo181_0 : E.FOff Try.prog 181 0 0 := ⟨_, _, Try.underlying181, rfl, rfl, _, ts2⟩
theorem fo181_1 : E.FOff Try.prog 181 1 1 := ⟨_, _, Try.underlying181, rfl, rfl, _, ts51⟩
theorem fo181_2 : E.FOff Try.prog 181 2 3 := ⟨_, _, Try.underlying181, rfl, rfl, _, ts42⟩
theorem fo181_3 : E.FOff Try.prog 181 3 4 := ⟨_, _, Try.underlying181, rfl, rfl, _, ts89⟩
theorem fo181_4 : E.FOff Try.prog 181 4 5 := ⟨_, _, Try.underlying181, rfl, rfl, _, ts3⟩
theorem fo181_5 : E.FOff Try.prog 181 5 6 := ⟨_, _, Try.underlying181, rfl, rfl, _, ts51⟩
theorem fo181_6 : E.FOff Try.prog 181 6 8 := ⟨_, _, Try.underlying181, rfl, rfl, _, ts89⟩
theorem fo186_0 : E.FOff Try.prog 186 0 0 := ⟨_, _, Try.underlying186, rfl, rfl, _, ts3⟩
theorem fo186_1 : E.FOff Try.prog 186 1 1 := ⟨_, _, Try.underlying186, rfl, rfl, _, ts2⟩
theorem fo186_2 : E.FOff Try.prog 186 2 2 := ⟨_, _, Try.underlying186, rfl, rfl, _, ts185⟩
theorem fo187_0 : E.FOff Try.prog 187 0 0 := ⟨_, _, Try.underlying187, rfl, rfl, _, ts3⟩
theorem fo187_1 : E.FOff Try.prog 187 1 1 := ⟨_, _, Try.underlying187, rfl, rfl, _, ts2⟩
theorem fo187_2 : E.FOff Try.prog 187 2 2 := ⟨_, _, Try.underlying187, rfl, rfl, _, ts185⟩
theorem fo192_0 : E.FOff Try.prog 192 0 0 := ⟨_, _, Try.underlying192, rfl, rfl, _, ts2⟩
theorem fo192_1 : E.FOff Try.prog 192 1 1 := ⟨_, _, Try.underlying192, rfl, rfl, _, ts2⟩
theorem fo193_0 : E.FOff Try.prog 193 0 0 := ⟨_, _, Try.underlying193, rfl, rfl, _, ts2⟩
theorem fo193_1 : E.FOff Try.prog 193 1 1 := ⟨_, _, Try.underlying193, rfl, rfl, _, ts2⟩
theorem fo257_0 : E.FOff Try.prog 257 0 0 := ⟨_, _, Try.underlying257, rfl, rfl, _, ts17⟩
theorem fo257_1 : E.FOff Try.prog 257 1 1 := ⟨_, _, Try.underlying257, rfl, rfl, _, ts17⟩
theorem fo257_2 : E.FOff Try.prog 257 2 2 := ⟨_, _, Try.underlying257, rfl, rfl, _, ts17⟩
theorem fo257_3 : E.FOff Try.prog 257 3 3 := ⟨_, _, Try.underlying257, rfl, rfl, _, ts9⟩
theorem fo258_0 : E.FOff Try.prog 258 0 0 := ⟨_, _, Try.underlying258, rfl, rfl, _, ts17⟩
theorem fo258_1 : E.FOff Try.prog 258 1 1 := ⟨_, _, Try.underlying258, rfl, rfl, _, ts17⟩
theorem fo258_2 : E.FOff Try.prog 258 2 2 := ⟨_, _, Try.underlying258, rfl, rfl, _, ts17⟩
theorem fo258_3 : E.FOff Try.prog 258 3 3 := ⟨_, _, Try.underlying258, rfl, rfl, _, ts9⟩
theorem fo268_0 : E.FOff Try.prog 268 0 0 := ⟨_, _, Try.underlying268, rfl, rfl, _, ts12⟩
theorem fo268_1 : E.FOff Try.prog 268 1 1 := ⟨_, _, Try.underlying268, rfl, rfl, _, ts12⟩
theorem fo268_2 : E.FOff Try.prog 268 2 2 := ⟨_, _, Try.underlying268, rfl, rfl, _, ts222⟩
theorem fo268_3 : E.FOff Try.prog 268 3 3 := ⟨_, _, Try.underlying268, rfl, rfl, _, ts262⟩
theorem fo268_4 : E.FOff Try.prog 268 4 4 := ⟨_, _, Try.underlying268, rfl, rfl, _, ts5⟩
theorem fo268_5 : E.FOff Try.prog 268 5 5 := ⟨_, _, Try.underlying268, rfl, rfl, _, ts5⟩
theorem fo268_6 : E.FOff Try.prog 268 6 6 := ⟨_, _, Try.underlying268, rfl, rfl, _, ts263⟩
theorem fo268_7 : E.FOff Try.prog 268 7 7 := ⟨_, _, Try.underlying268, rfl, rfl, _, ts264⟩
theorem fo268_8 : E.FOff Try.prog 268 8 8 := ⟨_, _, Try.underlying268, rfl, rfl, _, ts265⟩
theorem fo268_9 : E.FOff Try.prog 268 9 9 := ⟨_, _, Try.underlying268, rfl, rfl, _, ts266⟩
theorem fo268_10 : E.FOff Try.prog 268 10 10 := ⟨_, _, Try.underlying268, rfl, rfl, _, ts267⟩
theorem fo269_0 : E.FOff Try.prog 269 0 0 := ⟨_, _, Try.underlying269, rfl, rfl, _, ts12⟩
theorem fo269_1 : E.FOff Try.prog 269 1 1 := ⟨_, _, Try.underlying269, rfl, rfl, _, ts12⟩
theorem fo269_2 : E.FOff Try.prog 269 2 2 := ⟨_, _, Try.underlying269, rfl, rfl, _, ts222⟩
theorem fo269_3 : E.FOff Try.prog 269 3 3 := ⟨_, _, Try.underlying269, rfl, rfl, _, ts262⟩
theorem fo269_4 : E.FOff Try.prog 269 4 4 := ⟨_, _, Try.underlying269, rfl, rfl, _, ts5⟩
theorem fo269_5 : E.FOff Try.prog 269 5 5 := ⟨_, _, Try.underlying269, rfl, rfl, _, ts5⟩
theorem fo269_6 : E.FOff Try.prog 269 6 6 := ⟨_, _, Try.underlying269, rfl, rfl, _, ts263⟩
theorem fo269_7 : E.FOff Try.prog 269 7 7 := ⟨_, _, Try.underlying269, rfl, rfl, _, ts264⟩
theorem fo269_8 : E.FOff Try.prog 269 8 8 := ⟨_, _, Try.underlying269, rfl, rfl, _, ts265⟩
theorem fo269_9 : E.FOff Try.prog 269 9 9 := ⟨_, _, Try.underlying269, rfl, rfl, _, ts266⟩
theorem fo269_10 : E.FOff Try.prog 269 10 10 := ⟨_, _, Try.underlying269, rfl, rfl, _, ts267⟩
end Go.Proofs.Ytmajbdehejhbfaa
